/- Arguments that are structs of one-cell fields. Plain lemmas. -/
import Derived.Test.YtkfkdenikkadhaaBaseS
namespace Go.Proofs.Ytkfkdenikkadhaa
open Go Go.RowKit
set_option linter.unusedVariables false
set_option linter.unusedSimpArgs false
namespace B
section
variable {H : Type} {enc : TypeId × Value → H} {P : Program} {W : World} {base : Nat} {spare : Nat → Bool} {held : Bool} {t : TypeId} {fs : Array Field} {cs : List Value} {x : DataW H × List MemPlace} {fuel i : Nat} {f : Field} {k : IntKind}
theorem fld_one (h : DataW.trod enc P W base spare held fuel t cs = some x) (ht : P.underlying t = some (.struct fs)) (hf : fs[i]? = some f) (hc : P.cellsOf f.type = 1) : ∃ n y, DataW.trod enc P W base spare held n f.type ((cs.drop f.offset).take 1) = some y := by
  obtain ⟨xs, n, _, _, hl, hlen, hx⟩ := DataW.trod_struct ht h
  have := hx i f hf
  rw [hc] at this
  have hi : i < fs.size := (Array.getElem?_eq_some_iff.1 hf).1
  rw [List.getElem?_eq_getElem (by rw [hlen]; simpa using hi)] at this
  exact ⟨n, _, this⟩
theorem one_at {v : Value} {n : Nat} (h : (cs.drop n).take 1 = [v]) : cs[n]? = some v := by
  have := congrArg (fun l : List Value => l[0]?) h
  simpa [List.getElem?_take, List.getElem?_drop] using this
theorem fld_int (h : DataW.trod enc P W base spare held fuel t cs = some x) (ht : P.underlying t = some (.struct fs)) (hf : fs[i]? = some f) (hc : P.cellsOf f.type = 1) (hu : P.underlying f.type = some (.int k)) : ∃ n, cs[f.offset]? = some (.int k n) ∧ (Lit.int k n).wf = true := by
  obtain ⟨n, y, hy⟩ := fld_one h ht hf hc
  obtain ⟨m, e, _, w⟩ := DataW.trod_int hu hy
  exact ⟨m, one_at e, w⟩
theorem fld_bool (h : DataW.trod enc P W base spare held fuel t cs = some x) (ht : P.underlying t = some (.struct fs)) (hf : fs[i]? = some f) (hc : P.cellsOf f.type = 1) (hu : P.underlying f.type = some .bool) : ∃ b, cs[f.offset]? = some (.bool b) := by
  obtain ⟨n, y, hy⟩ := fld_one h ht hf hc
  obtain ⟨m, e, _⟩ := DataW.trod_bool hu hy
  exact ⟨m, one_at e⟩
theorem fld_str (h : DataW.trod enc P W base spare held fuel t cs = some x) (ht : P.underlying t = some (.struct fs)) (hf : fs[i]? = some f) (hc : P.cellsOf f.type = 1) (hu : P.underlying f.type = some .string) : ∃ s, cs[f.offset]? = some (.string s) ∧ s.size ≤ maxLen := by
  obtain ⟨n, y, hy⟩ := fld_one h ht hf hc
  obtain ⟨m, e, _, w⟩ := DataW.trod_string hu hy
  exact ⟨m, one_at e, w⟩
theorem eight {α : Type} {l : List α} {a0 a1 a2 a3 a4 a5 a6 a7 : α} (hl : l.length = 8) (h0 : l[0]? = some a0) (h1 : l[1]? = some a1) (h2 : l[2]? = some a2) (h3 : l[3]? = some a3) (h4 : l[4]? = some a4) (h5 : l[5]? = some a5) (h6 : l[6]? = some a6) (h7 : l[7]? = some a7) : l = [a0, a1, a2, a3, a4, a5, a6, a7] := by
  apply List.ext_getElem?
  intro j
  rcases Nat.lt_or_ge j 8 with h | h
  · have : j = 0 ∨ j = 1 ∨ j = 2 ∨ j = 3 ∨ j = 4 ∨ j = 5 ∨ j = 6 ∨ j = 7 := by omega
    rcases this with rfl | rfl | rfl | rfl | rfl | rfl | rfl | rfl <;> assumption
  · rw [List.getElem?_eq_none (by omega), List.getElem?_eq_none (by simpa using h)]
end
end B
end Go.Proofs.Ytkfkdenikkadhaa
