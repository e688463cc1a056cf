/-
  No cell of these rows narrows 'for every input' (looked for: loops, veiled, ifaces, maps, wideKeys, modest, calm, conditions, laid).
  DERIVED. THE GIVEN ROWS OF THIS SEAT. 5 by the template 'for every input the law returns true; each argument reads behind the call as it read before'; 0 by the template 'total and deterministic' (their statements: YtghdmpiifbjgpaaTotals.lean).
  GIVEN WITH THE SEED: the statements are not yours to turn. If you find one false, say at which input.
  Laid BY PROGRAM, IN A SANDBOX (cutbox-rows.mjs): the forced cells as the released guide's own fill.sh prints them over the translation 6740d25672d247d8… (all of the seat's roots in one cut). By AI agents, Wed Nov 11 2026. No macro, syntax, notation, axiom, sorry.
-/
import Derived.Test.YtghdmpiifbjgpaaChecked
import GoSem.Claim
import GoSem.ClaimJoined
import GoSem.ClaimMapViews
import Derived.JoinedTies
import Derived.KernelRfl
namespace Go.Proofs.Ytghdmpiifbjgpaa
/- THE CELL 'sum', in the pinned program and in every row, IS THE sha256 OF THE DUMP (.gsa) THAT YtghdmpiifbjgpaaProg.lean LOADS. Nothing in Lean hashes anything: it is a label: what it is worth is what the hold of that sum in a sandbox is worth. -/
noncomputable def Try.pinned : Pinned := { name := "ytghdmpiifbjgpaa", sum := "6740d25672d247d85f2b787cf8d540b73ca73cea4e1a0261ccbd117e4c2d3f28", checked := Try.checked }
namespace Rows
def none {H : Type} : Left H := { results := [], args := [] }

/-- 'roundhouselaw01.ShaTells': WHATEVER THE INPUT: true; the input reads as it did. -/
def shaTellsSpec : ChangeSpec := { name := "shaTells", fn := fun _ => fun
  | [d] => { results := [.lit (.bool true)], args := [d] }
  | _ => none }
def shaTellsRow : OpenClaim := { program := "ytghdmpiifbjgpaa", sum := "6740d25672d247d85f2b787cf8d540b73ca73cea4e1a0261ccbd117e4c2d3f28", func := "roundhouse/roundhouselaw01.ShaTells", spec := "shaTells", apart := false }
def ShaTellsSaid : Prop := shaTellsRow.holds Try.pinned (OpenSpec.ofChange shaTellsSpec)

/-- ITS FALSE NEIGHBOUR: 'it returns false'. Refute it at one input. -/
def shaTellsWrong : ChangeSpec := { name := "shaTells", fn := fun _ => fun
  | [d] => { results := [.lit (.bool false)], args := [d] }
  | _ => none }
def ShaTellsWrongFalsely : Prop := shaTellsRow.holds Try.pinned (OpenSpec.ofChange shaTellsWrong)

/-- 'roundhouselaw01.ShaTags': WHATEVER THE INPUT: true; the input reads as it did. -/
def shaTagsSpec : ChangeSpec := { name := "shaTags", fn := fun _ => fun
  | [d1, d2] => { results := [.lit (.bool true)], args := [d1, d2] }
  | _ => none }
def shaTagsRow : OpenClaim := { program := "ytghdmpiifbjgpaa", sum := "6740d25672d247d85f2b787cf8d540b73ca73cea4e1a0261ccbd117e4c2d3f28", func := "roundhouse/roundhouselaw01.ShaTags", spec := "shaTags", apart := false }
def ShaTagsSaid : Prop := shaTagsRow.holds Try.pinned (OpenSpec.ofChange shaTagsSpec)

/-- ITS FALSE NEIGHBOUR: 'it returns false'. Refute it at one input. -/
def shaTagsWrong : ChangeSpec := { name := "shaTags", fn := fun _ => fun
  | [d1, d2] => { results := [.lit (.bool false)], args := [d1, d2] }
  | _ => none }
def ShaTagsWrongFalsely : Prop := shaTagsRow.holds Try.pinned (OpenSpec.ofChange shaTagsWrong)

/-- 'roundhouselaw01.ShaSame': WHATEVER THE INPUT: true; the input reads as it did. -/
def shaSameSpec : ChangeSpec := { name := "shaSame", fn := fun _ => fun
  | [d1, d2] => { results := [.lit (.bool true)], args := [d1, d2] }
  | _ => none }
def shaSameRow : OpenClaim := { program := "ytghdmpiifbjgpaa", sum := "6740d25672d247d85f2b787cf8d540b73ca73cea4e1a0261ccbd117e4c2d3f28", func := "roundhouse/roundhouselaw01.ShaSame", spec := "shaSame", apart := false }
def ShaSameSaid : Prop := shaSameRow.holds Try.pinned (OpenSpec.ofChange shaSameSpec)

/-- ITS FALSE NEIGHBOUR: 'it returns false'. Refute it at one input. -/
def shaSameWrong : ChangeSpec := { name := "shaSame", fn := fun _ => fun
  | [d1, d2] => { results := [.lit (.bool false)], args := [d1, d2] }
  | _ => none }
def ShaSameWrongFalsely : Prop := shaSameRow.holds Try.pinned (OpenSpec.ofChange shaSameWrong)

/-- 'roundhouselaw01.ShaSizes': WHATEVER THE INPUT: true; the input reads as it did. -/
def shaSizesSpec : ChangeSpec := { name := "shaSizes", fn := fun _ => fun
  | [d1, d2] => { results := [.lit (.bool true)], args := [d1, d2] }
  | _ => none }
def shaSizesRow : OpenClaim := { program := "ytghdmpiifbjgpaa", sum := "6740d25672d247d85f2b787cf8d540b73ca73cea4e1a0261ccbd117e4c2d3f28", func := "roundhouse/roundhouselaw01.ShaSizes", spec := "shaSizes", apart := false }
def ShaSizesSaid : Prop := shaSizesRow.holds Try.pinned (OpenSpec.ofChange shaSizesSpec)

/-- ITS FALSE NEIGHBOUR: 'it returns false'. Refute it at one input. -/
def shaSizesWrong : ChangeSpec := { name := "shaSizes", fn := fun _ => fun
  | [d1, d2] => { results := [.lit (.bool false)], args := [d1, d2] }
  | _ => none }
def ShaSizesWrongFalsely : Prop := shaSizesRow.holds Try.pinned (OpenSpec.ofChange shaSizesWrong)

/-- 'roundhouselaw01.ShaBits': WHATEVER THE INPUT: true; the input reads as it did. -/
def shaBitsSpec : ChangeSpec := { name := "shaBits", fn := fun _ => fun
  | [d1, d2] => { results := [.lit (.bool true)], args := [d1, d2] }
  | _ => none }
def shaBitsRow : OpenClaim := { program := "ytghdmpiifbjgpaa", sum := "6740d25672d247d85f2b787cf8d540b73ca73cea4e1a0261ccbd117e4c2d3f28", func := "roundhouse/roundhouselaw01.ShaBits", spec := "shaBits", apart := false }
def ShaBitsSaid : Prop := shaBitsRow.holds Try.pinned (OpenSpec.ofChange shaBitsSpec)

/-- ITS FALSE NEIGHBOUR: 'it returns false'. Refute it at one input. -/
def shaBitsWrong : ChangeSpec := { name := "shaBits", fn := fun _ => fun
  | [d1, d2] => { results := [.lit (.bool false)], args := [d1, d2] }
  | _ => none }
def ShaBitsWrongFalsely : Prop := shaBitsRow.holds Try.pinned (OpenSpec.ofChange shaBitsWrong)

/- THE SECOND FORM. 'bulk': how many values and letters a reading holds, each counted each time it is reached (what is shared counts as often as it is met; a slice's spare places count too). A statement '..UptoSaid' is the law's where the arguments, and the package variables that the reading takes, are together of bulk at most 1048576: NARROWER than '..Said'. Prove '..Said' where nothing that the law and all that it calls make is longer than what came in: it says more and counts as full. Else prove '..UptoSaid'. A law counts once. -/
mutual
def uptoBulk {H : Type} : DataW H → Nat
  | .lit (.string bytes) => bytes.length + 1
  | .lit _ => 1
  | .nil => 1
  | .ptr d => uptoBulk d + 1
  | .slice elems spare => uptoBulkAll elems + uptoBulkAll spare + 1
  | .agg parts => uptoBulkAll parts + 1
  | .iface _ d => uptoBulk d + 1
  | .map entries => uptoBulkEntries entries + 1
  | .held _ => 1
def uptoBulkAll {H : Type} : List (DataW H) → Nat
  | [] => 0
  | d :: r => uptoBulk d + uptoBulkAll r
def uptoBulkEntries {H : Type} : List (Lit × DataW H) → Nat
  | [] => 0
  | x :: r => uptoBulkEntry x + uptoBulkEntries r
def uptoBulkEntry {H : Type} : Lit × DataW H → Nat
  | (.string bytes, d) => bytes.length + uptoBulk d + 1
  | (_, d) => uptoBulk d + 1
 end
def uptoSmall : (H : Type) → List (DataW H) → Bool := fun _ ds => decide (uptoBulkAll ds ≤ 1048576)
def OpenSpec.upto (s : _root_.Go.ChangeSpec) : _root_.Go.OpenSpec := { _root_.Go.OpenSpec.ofChange s with cond := some uptoSmall }

/-- 'roundhouselaw01.ShaTells', WHERE WHAT IT READS IS OF BULK AT MOST 1048576: true; the input reads as it did. -/
def shaTellsUptoRow : OpenClaim := { program := "ytghdmpiifbjgpaa", sum := "6740d25672d247d85f2b787cf8d540b73ca73cea4e1a0261ccbd117e4c2d3f28", func := "roundhouse/roundhouselaw01.ShaTells", spec := "shaTells", apart := false, narrowed := true }
def ShaTellsUptoSaid : Prop := shaTellsUptoRow.holds Try.pinned (OpenSpec.upto shaTellsSpec)

/-- 'roundhouselaw01.ShaTags', WHERE WHAT IT READS IS OF BULK AT MOST 1048576: true; the input reads as it did. -/
def shaTagsUptoRow : OpenClaim := { program := "ytghdmpiifbjgpaa", sum := "6740d25672d247d85f2b787cf8d540b73ca73cea4e1a0261ccbd117e4c2d3f28", func := "roundhouse/roundhouselaw01.ShaTags", spec := "shaTags", apart := false, narrowed := true }
def ShaTagsUptoSaid : Prop := shaTagsUptoRow.holds Try.pinned (OpenSpec.upto shaTagsSpec)

/-- 'roundhouselaw01.ShaSame', WHERE WHAT IT READS IS OF BULK AT MOST 1048576: true; the input reads as it did. -/
def shaSameUptoRow : OpenClaim := { program := "ytghdmpiifbjgpaa", sum := "6740d25672d247d85f2b787cf8d540b73ca73cea4e1a0261ccbd117e4c2d3f28", func := "roundhouse/roundhouselaw01.ShaSame", spec := "shaSame", apart := false, narrowed := true }
def ShaSameUptoSaid : Prop := shaSameUptoRow.holds Try.pinned (OpenSpec.upto shaSameSpec)

/-- 'roundhouselaw01.ShaSizes', WHERE WHAT IT READS IS OF BULK AT MOST 1048576: true; the input reads as it did. -/
def shaSizesUptoRow : OpenClaim := { program := "ytghdmpiifbjgpaa", sum := "6740d25672d247d85f2b787cf8d540b73ca73cea4e1a0261ccbd117e4c2d3f28", func := "roundhouse/roundhouselaw01.ShaSizes", spec := "shaSizes", apart := false, narrowed := true }
def ShaSizesUptoSaid : Prop := shaSizesUptoRow.holds Try.pinned (OpenSpec.upto shaSizesSpec)

/-- 'roundhouselaw01.ShaBits', WHERE WHAT IT READS IS OF BULK AT MOST 1048576: true; the input reads as it did. -/
def shaBitsUptoRow : OpenClaim := { program := "ytghdmpiifbjgpaa", sum := "6740d25672d247d85f2b787cf8d540b73ca73cea4e1a0261ccbd117e4c2d3f28", func := "roundhouse/roundhouselaw01.ShaBits", spec := "shaBits", apart := false, narrowed := true }
def ShaBitsUptoSaid : Prop := shaBitsUptoRow.holds Try.pinned (OpenSpec.upto shaBitsSpec)

end Rows
end Go.Proofs.Ytghdmpiifbjgpaa
