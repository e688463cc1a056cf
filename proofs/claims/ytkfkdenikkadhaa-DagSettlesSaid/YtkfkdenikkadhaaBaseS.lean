/- Arguments that are slices: what lies in them. Plain lemmas. -/
import Derived.Test.YtkfkdenikkadhaaBaseR
import Derived.ChangeArms
import Derived.Deep.Slices
namespace Go.Proofs.Ytkfkdenikkadhaa
open Go Go.RowKit
set_option linter.unusedVariables false
set_option linter.unusedSimpArgs false
namespace B
theorem list_of {α : Type} {p : Nat → α → Prop} : ∀ {n : Nat}, (∀ i, i < n → ∃ x, p i x) → ∃ xs : List α, xs.length = n ∧ ∀ i x, xs[i]? = some x → p i x
  | 0, _ => ⟨[], rfl, fun i x h => by simp at h⟩
  | n + 1, h => by
    obtain ⟨xs, h1, h2⟩ := list_of (n := n) (fun i hi => h i (by omega))
    obtain ⟨x, hx⟩ := h n (by omega)
    refine ⟨xs ++ [x], by simp [h1], fun i y hy => ?_⟩
    by_cases e : i < xs.length
    · rw [List.getElem?_append_left e] at hy
      exact h2 i y hy
    · rw [List.getElem?_append_right (by omega)] at hy
      have : i = n := by
        by_cases e' : i - xs.length = 0
        · omega
        · obtain ⟨m, hm⟩ := Nat.exists_eq_succ_of_ne_zero e'
          rw [hm] at hy
          simp at hy
      subst this
      rw [h1, Nat.sub_self] at hy
      simp only [List.getElem?_cons_zero, Option.some.injEq] at hy
      subst hy
      exact hx
theorem cellF_heap (W : World) (a : Addr) : cellF (fun k => W.heap[k]?) a = W.cell? a := by
  unfold cellF World.cell?
  rfl
section
variable {H : Type} {enc : TypeId × Value → H} {P : Program} {W : World} {base : Nat} {spare : Nat → Bool} {held : Bool}
theorem open_rd {α : Type} (kd : Kd α) (R : α → Prop) {t e : TypeId} (ht : P.underlying t = some (.slice e)) (hce : P.cellsOf e = kd.sz)
    (elem : ∀ n cs x, cs.length = kd.sz → DataW.trod enc P W base spare held n e cs = some x → ∃ y, kd.K (fun k => W.heap[k]?) y cs ∧ R y)
    {fuel : Nat} {cs : List Value} {x : DataW H × List MemPlace} (h : DataW.trod enc P W base spare held fuel t cs = some x) :
    ∃ A cap xs, cs = [.slice A xs.length cap] ∧ RdS kd (fun k => W.heap[k]?) A xs ∧ (∀ y ∈ xs, R y) ∧ xs.length ≤ cap ∧ cap ≤ maxLen := by
  rcases Go.Deep.open_slice ht h with ⟨rfl, _⟩ | ⟨a, len, cap, m, n, D, Pl, rfl, _, hl, hm, hmm, _, hx⟩
  · exact ⟨none, 0, [], rfl, .inl rfl, by simp, Nat.le_refl _, by decide⟩
  · have hlm : len ≤ m := by rw [hmm]; split <;> omega
    obtain ⟨xs, h1, h2⟩ := list_of (n := len) (p := fun i y => R y ∧ ∃ c, kd.K (fun k => W.heap[k]?) y c ∧ ∀ j v, c[j]? = some v → cellF (fun k => W.heap[k]?) (a.add (i * kd.sz + j)) = some v) (fun i hi => by
      obtain ⟨cs', g1, g2⟩ := hx i (by omega)
      rw [hce] at g1
      obtain ⟨_, hlen, hcell⟩ := World.cells?_some g1
      obtain ⟨y, hy, hr⟩ := elem _ _ _ hlen g2
      refine ⟨y, hr, cs', hy, fun j v hj => ?_⟩
      have hj' : j < kd.sz := by rw [← hlen]; exact (List.getElem?_eq_some_iff.1 hj).1
      have := hcell j hj'
      rw [add_add] at this
      rw [cellF_heap, this, hj])
    subst h1
    refine ⟨some a, cap, xs, rfl, .inr ⟨a, rfl, fun i x hx => (h2 i x hx).2⟩, fun y hy => ?_, hl, hm⟩
    obtain ⟨i, hi⟩ := List.getElem?_of_mem hy
    exact (h2 i y hi).1
end
end B
end Go.Proofs.Ytkfkdenikkadhaa
