/- Rows that are read in any world of the call: given ones, or the call's own. Plain lemmas. -/
import Derived.Test.YtkfkdenikkadhaaBaseY
namespace Go.Proofs.Ytkfkdenikkadhaa
open Go Go.RowKit
set_option linter.unusedVariables false
set_option linter.unusedSimpArgs false
namespace B
variable {α : Type} {W w : World} {F : Snap} {cs : List Res} {f : α → Value} {A : Option Addr} {xs : List α} {E : TypeId} {r : Res} {v : Value} {n cap i : Nat}
/-- a row of one-cell elements that is read in every world of the call -/
def RdW (W : World) (F : Snap) (cs : List Res) (f : α → Value) (A : Option Addr) (xs : List α) : Prop :=
  xs = [] ∨ ∃ ad, A = some ad ∧ ∀ w, St W F cs w → ∀ j x, xs[j]? = some x → w.cell? (ad.add j) = some (f x)
theorem RdW.of (h : RdS (Kd.one f) F A xs) : RdW W F cs f A xs := by
  by_cases h0 : xs = []
  · exact .inl h0
  · obtain ⟨ad, hA, hr⟩ := rd1 h (List.length_pos_iff.2 h0)
    exact .inr ⟨ad, hA, fun w hs j x hx => hs.cell (hr j x hx)⟩
theorem RdW.row (hr : Row E f r v xs) (hi : cs[i]? = some r) (hv : v = .slice A n cap) (hs : St W F cs w) : RdW W F cs f A xs := by
  by_cases h0 : xs = []
  · exact .inl h0
  · rcases hr.wcell hs hi hv with h | ⟨ad, hA, _⟩
    · exact absurd h h0
    · refine .inr ⟨ad, hA, fun w' hs' j x hx => ?_⟩
      rcases hr.wcell hs' hi hv with h | ⟨ad', hA', h'⟩
      · exact absurd h h0
      · rw [hA] at hA'; injection hA' with hA'; subst hA'; exact h' j x hx
theorem RdW.at1 (h : RdW W F cs f A xs) (h0 : 0 < xs.length) : ∃ ad, A = some ad ∧ ∀ w, St W F cs w → ∀ (n : Nat) (d0 : α), n < xs.length → w.cell? (ad.add n) = some (f (xs.getD n d0)) := by
  rcases h with h | ⟨ad, hA, h⟩
  · rw [h] at h0; simp at h0
  · exact ⟨ad, hA, fun w hs n d0 hn => h w hs n _ (by rw [List.getD_eq_getElem?_getD, List.getElem?_eq_getElem hn]; rfl)⟩
end B
end Go.Proofs.Ytkfkdenikkadhaa
