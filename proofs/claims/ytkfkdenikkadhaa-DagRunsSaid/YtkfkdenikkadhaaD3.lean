/- Walks of package dag: an order of steps: plainly. -/
import Derived.Test.YtkfkdenikkadhaaD2
namespace Go.Proofs.Ytkfkdenikkadhaa
open Go Go.RowKit B
set_option linter.unusedVariables false
set_option linter.unusedSimpArgs false
namespace Dg


theorem WC.label {P : Program} {Z : Post} {ks : List Fr} {N : Nat} {D : List Deferred} {sl : Sl} {w : World} {l : Nat} (h : WN P Z ks N D sl w) : WC P Z ks N D sl (.label l) w := fun a ha => wp_label (h a ha)
/-- may a step be the next one? -/
def okAt (l : List S) (out : List Int) (i : Nat) : Prop := (i : Int) ∉ out ∧ ∀ k, k < (l.getD i S0).af.length → ((l.getD i S0).af.getD k E0).st ∈ out
instance (l : List S) (out : List Int) (i : Nat) : Decidable (okAt l out i) := inferInstanceAs (Decidable (_ ∧ _))
def nextM (l : List S) (out : List Int) : Option Nat := (List.range l.length).find? fun i => decide (okAt l out i)
theorem nextM_some {l : List S} {out : List Int} {i : Nat} (hi : i < l.length) (h : okAt l out i) (hb : ∀ j, j < i → ¬ okAt l out j) : nextM l out = some i := by
  unfold nextM
  rw [List.find?_range_eq_some]
  refine ⟨decide_eq_true h, List.mem_range.2 hi, fun j hj => ?_⟩
  rw [decide_eq_false (hb j hj)]; rfl
theorem nextM_none {l : List S} {out : List Int} (hb : ∀ j, j < l.length → ¬ okAt l out j) : nextM l out = none := by
  unfold nextM
  rw [List.find?_range_eq_none]
  intro j hj
  rw [decide_eq_false (hb j hj)]; rfl
theorem nextM_spec {l : List S} {out : List Int} {i : Nat} (h : nextM l out = some i) : i < l.length ∧ okAt l out i := by
  unfold nextM at h
  rw [List.find?_range_eq_some] at h
  exact ⟨List.mem_range.1 h.2.1, of_decide_eq_true h.1⟩
/-- how many of the first n are not in -/
def cnt (out : List Int) : Nat → Nat
  | 0 => 0
  | n + 1 => cnt out n + if (n : Int) ∈ out then 0 else 1
theorem cnt_nil (n : Nat) : cnt [] n = n := by
  induction n with
  | zero => rfl
  | succ n ih => rw [cnt, ih]; simp
theorem cnt_add {out : List Int} {i : Nat} (hi : (i : Int) ∉ out) : ∀ n, cnt (out ++ [(i : Int)]) n + (if i < n then 1 else 0) = cnt out n := by
  intro n
  induction n with
  | zero => simp [cnt]
  | succ n ih =>
    rw [cnt, cnt]
    by_cases e : n = i
    · subst e
      rw [if_neg (Nat.lt_irrefl _)] at ih
      rw [if_pos (by simp), if_neg hi, if_pos (by omega)]
      omega
    · have h1 : ((n : Int) ∈ out ++ [(i : Int)]) ↔ (n : Int) ∈ out := by
        rw [List.mem_append, List.mem_singleton]
        constructor
        · rintro (h | h)
          · exact h
          · exact absurd (Int.ofNat.inj h) e
        · exact .inl
      have h2 : (if i < n + 1 then 1 else 0) = (if i < n then 1 else 0) := by
        by_cases h : i < n
        · rw [if_pos h, if_pos (by omega)]
        · rw [if_neg h, if_neg (by omega)]
      simp only [h1, h2]
      omega
theorem cnt_zero {out : List Int} : ∀ {n : Nat}, cnt out n = 0 → ∀ j, j < n → (j : Int) ∈ out := by
  intro n
  induction n with
  | zero => intro _ j hj; omega
  | succ n ih =>
    intro h j hj
    rw [cnt] at h
    by_cases e : (n : Int) ∈ out
    · by_cases e2 : j = n
      · subst e2; exact e
      · exact ih (by omega) j (by omega)
    · rw [if_neg e] at h; omega
/-- one step behind the other, as far as that may be -/
def ordF (l : List S) : Nat → List Int → List Int
  | 0, out => out
  | n + 1, out => match nextM l out with
    | none => out
    | some i => ordF l n (out ++ [(i : Int)])
def ordM (l : List S) : List Int := ordF l l.length []
theorem ordF_none {l : List S} {n : Nat} {out : List Int} (h : nextM l out = none) : ordF l n out = out := by
  cases n with
  | zero => rfl
  | succ n => rw [ordF, h]
theorem ordF_some {l : List S} {n i : Nat} {out : List Int} (hc : cnt out l.length = n) (h : nextM l out = some i) : 0 < n ∧ ordF l n out = ordF l (n - 1) (out ++ [(i : Int)]) ∧ cnt (out ++ [(i : Int)]) l.length = n - 1 := by
  have h1 := nextM_spec h
  have h2 := cnt_add h1.2.1 l.length
  rw [if_pos h1.1] at h2
  have h3 : 0 < n := by omega
  obtain ⟨m, rfl⟩ : ∃ m, n = m + 1 := ⟨n - 1, by omega⟩
  refine ⟨h3, ?_, by omega⟩
  rw [ordF, h]; rfl
end Dg
end Go.Proofs.Ytkfkdenikkadhaa
