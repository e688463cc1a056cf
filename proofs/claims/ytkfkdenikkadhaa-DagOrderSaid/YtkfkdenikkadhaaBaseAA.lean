/- Blocks that never change any more, as rows. Plain lemmas. -/
import Derived.Test.YtkfkdenikkadhaaBaseZ
namespace Go.Proofs.Ytkfkdenikkadhaa
open Go Go.RowKit
set_option linter.unusedVariables false
set_option linter.unusedSimpArgs false
namespace B
/-- cells, one row behind the other -/
def allK {α : Type} (d : Kd α) (G : Snap) : List α → List (List Value) → Prop
  | [], [] => True
  | x :: xs, c :: cl => d.K G x c ∧ allK d G xs cl
  | _, _ => False
theorem allK.at_ {α : Type} {d : Kd α} {G : Snap} : ∀ {xs : List α} {cl : List (List Value)}, allK d G xs cl → ∀ {i : Nat} {x : α}, xs[i]? = some x → ∃ c, d.K G x c ∧ ∀ j v, c[j]? = some v → cl.flatten[i * d.sz + j]? = some v
  | [], cl, h, i, x, hx => by cases i <;> cases hx
  | y :: ys, [], h, i, x, hx => h.elim
  | y :: ys, c :: cl, h, 0, x, hx => by
    injection hx with hx
    subst hx
    refine ⟨c, h.1, fun j v hv => ?_⟩
    rw [List.flatten_cons, Nat.zero_mul, Nat.zero_add, List.getElem?_append_left (List.getElem?_eq_some_iff.1 hv).1]
    exact hv
  | y :: ys, c :: cl, h, i + 1, x, hx => by
    obtain ⟨c', h1, h2⟩ := h.2.at_ (i := i) (x := x) hx
    refine ⟨c', h1, fun j v hv => ?_⟩
    have hl := d.len h.1
    rw [List.flatten_cons, List.getElem?_append_right (by rw [hl, Nat.succ_mul]; omega), hl, ← h2 j v hv]
    congr 1
    rw [Nat.succ_mul]
    omega
theorem RdS.blks {α : Type} {d : Kd α} {G : Snap} {b : Nat} {arr : Array Value} {E : TypeId} {fz : Nat × Nat} {xs : List α} (cl : List (List Value)) (hb : G b = some (.cells arr E fz)) (harr : arr.toList = cl.flatten) (h : allK d G xs cl) : RdS d G (some ⟨b, 0, none⟩) xs :=
  .inr ⟨_, rfl, fun i x hx => by
    obtain ⟨c, h1, h2⟩ := h.at_ hx
    refine ⟨c, h1, fun j v hv => ?_⟩
    rw [add_mk, Nat.zero_add]
    unfold cellF
    rw [hb]
    show arr[i * d.sz + j]? = some v
    rw [← Array.getElem?_toList, harr]
    exact h2 j v hv⟩
theorem RdS.ints {α : Type} {f : α → Value} {G : Snap} {b : Nat} {arr : Array Value} {E : TypeId} {fz : Nat × Nat} {xs : List α} (hb : G b = some (.cells arr E fz)) (harr : arr.toList = xs.map f) : RdS (Kd.one f) G (some ⟨b, 0, none⟩) xs := by
  refine RdS.blks (xs.map fun x => [f x]) hb ?_ ?_
  · rw [harr]
    clear harr
    induction xs with
    | nil => rfl
    | cons x xs ih => rw [List.map_cons, List.map_cons, List.flatten_cons, ih]; rfl
  · clear harr
    induction xs with
    | nil => trivial
    | cons x xs ih => exact ⟨rfl, ih⟩
end B
end Go.Proofs.Ytkfkdenikkadhaa
