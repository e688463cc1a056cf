/- Arguments: structs with slices in them. Plain lemmas. -/
import Derived.Test.YtkfkdenikkadhaaBaseAA
import Derived.Test.YtkfkdenikkadhaaBaseY
namespace Go.Proofs.Ytkfkdenikkadhaa
open Go Go.RowKit
set_option linter.unusedVariables false
set_option linter.unusedSimpArgs false
namespace B
section
variable {H : Type} {enc : TypeId × Value → H} {P : Program} {W : World} {base : Nat} {spare : Nat → Bool} {held : Bool} {t : TypeId} {fs : Array Field} {cs : List Value} {x : DataW H × List MemPlace} {fuel i : Nat} {f : Field} {e : TypeId}
theorem fld_rd {α : Type} (kd : Kd α) (R : α → Prop) (h : DataW.trod enc P W base spare held fuel t cs = some x) (ht : P.underlying t = some (.struct fs)) (hf : fs[i]? = some f) (hc : P.cellsOf f.type = 1) (hu : P.underlying f.type = some (.slice e)) (hce : P.cellsOf e = kd.sz)
    (elem : ∀ n cs x, cs.length = kd.sz → DataW.trod enc P W base spare held n e cs = some x → ∃ y, kd.K (fun k => W.heap[k]?) y cs ∧ R y) :
    ∃ A cap xs, cs[f.offset]? = some (.slice A xs.length cap) ∧ RdS kd (fun k => W.heap[k]?) A xs ∧ (∀ y ∈ xs, R y) ∧ xs.length ≤ cap ∧ cap ≤ maxLen := by
  obtain ⟨n, y, hy⟩ := fld_one h ht hf hc
  obtain ⟨A, cap, xs, h1, h2⟩ := open_rd kd R hu hce elem hy
  exact ⟨A, cap, xs, one_at h1, h2⟩
/-- a list of n, by its elements -/
theorem list_eq {α : Type} {l l2 : List α} (hl : l.length = l2.length) (h : ∀ j, j < l2.length → l[j]? = l2[j]?) : l = l2 := by
  apply List.ext_getElem?
  intro j
  rcases Nat.lt_or_ge j l2.length with h1 | h1
  · exact h j h1
  · rw [List.getElem?_eq_none (by omega), List.getElem?_eq_none h1]
theorem two_ {α : Type} {l : List α} {a0 a1 : α} (hl : l.length = 2) (h0 : l[0]? = some a0) (h1 : l[1]? = some a1) : l = [a0, a1] := list_eq hl fun j hj => by
  have : j = 0 ∨ j = 1 := by simp at hj; omega
  rcases this with rfl | rfl <;> assumption
theorem three_ {α : Type} {l : List α} {a0 a1 a2 : α} (hl : l.length = 3) (h0 : l[0]? = some a0) (h1 : l[1]? = some a1) (h2 : l[2]? = some a2) : l = [a0, a1, a2] := list_eq hl fun j hj => by
  have : j = 0 ∨ j = 1 ∨ j = 2 := by simp at hj; omega
  rcases this with rfl | rfl | rfl <;> assumption
theorem four_ {α : Type} {l : List α} {a0 a1 a2 a3 : α} (hl : l.length = 4) (h0 : l[0]? = some a0) (h1 : l[1]? = some a1) (h2 : l[2]? = some a2) (h3 : l[3]? = some a3) : l = [a0, a1, a2, a3] := list_eq hl fun j hj => by
  have : j = 0 ∨ j = 1 ∨ j = 2 ∨ j = 3 := by simp at hj; omega
  rcases this with rfl | rfl | rfl | rfl <;> assumption
theorem five_ {α : Type} {l : List α} {a0 a1 a2 a3 a4 : α} (hl : l.length = 5) (h0 : l[0]? = some a0) (h1 : l[1]? = some a1) (h2 : l[2]? = some a2) (h3 : l[3]? = some a3) (h4 : l[4]? = some a4) : l = [a0, a1, a2, a3, a4] := list_eq hl fun j hj => by
  have : j = 0 ∨ j = 1 ∨ j = 2 ∨ j = 3 ∨ j = 4 := by simp at hj; omega
  rcases this with rfl | rfl | rfl | rfl | rfl <;> assumption
end
end B
end Go.Proofs.Ytkfkdenikkadhaa
