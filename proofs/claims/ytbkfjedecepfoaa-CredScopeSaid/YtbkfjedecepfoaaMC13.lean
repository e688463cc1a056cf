/- The law CredScope: plainly. -/
import Derived.Test.YtbkfjedecepfoaaMC12
namespace Go.Proofs.Ytbkfjedecepfoaa
open Go Go.RowKit B
set_option linter.unusedVariables false
set_option linter.unusedSimpArgs false
namespace Cr
open Wir (numN okL rdn cerr rerr rval rnx Vi mayN numB listB rdN rdL rdEnd)


def scS (n : Int) (s : Bool × List Int) (x : Int) : Bool × List Int := if s.1 = false ∧ 0 ≤ n ∧ n < x then (true, (s.2 ++ [n]) ++ [x]) else (s.1 || decide (x = n), s.2 ++ [x])
def scF (n : Int) (xs : List Int) (i : Nat) : Bool × List Int := (xs.take i).foldl (scS n) (false, [])
theorem scF_s {n : Int} {xs : List Int} {i : Nat} (h : i < xs.length) : scF n xs (i + 1) = scS n (scF n xs i) (xs.getD i 0) := by
  unfold scF
  rw [List.take_add_one, List.getElem?_eq_getElem h, List.foldl_append, List.getD_eq_getElem?_getD, List.getElem?_eq_getElem h]; rfl
theorem nd_app {ys : List Int} {x : Int} (h : ∀ k, k < ys.length → ndAt ys k) (h1 : lastOf ys ys.length < x) (h2 : x < 16) : (∀ k, k < (ys ++ [x]).length → ndAt (ys ++ [x]) k) ∧ lastOf (ys ++ [x]) (ys ++ [x]).length = x := by
  have e1 : ∀ k, k < ys.length → (ys ++ [x]).getD k 0 = ys.getD k 0 := fun k hk => by
    rw [List.getD_eq_getElem?_getD, List.getD_eq_getElem?_getD, List.getElem?_append_left hk]
  have e2 : (ys ++ [x]).getD ys.length 0 = x := by
    rw [List.getD_eq_getElem?_getD, List.getElem?_append_right (Nat.le_refl _), Nat.sub_self]; rfl
  have e3 : ∀ k, k ≤ ys.length → lastOf (ys ++ [x]) k = lastOf ys k := fun k hk => by
    unfold lastOf
    by_cases h0 : k = 0
    · rw [if_pos h0, if_pos h0]
    · rw [if_neg h0, if_neg h0, e1 (k - 1) (by omega)]
  have hl : (ys ++ [x]).length = ys.length + 1 := by simp
  refine ⟨fun k hk => ?_, ?_⟩
  · rcases Nat.lt_or_ge k ys.length with h3 | h3
    · have := h k h3
      unfold ndAt at this ⊢
      rw [e3 k (by omega), e1 k h3]
      exact this
    · obtain rfl : k = ys.length := by omega
      unfold ndAt
      rw [e3 _ (Nat.le_refl _), e2]
      exact ⟨h1, h2⟩
  · rw [hl]
    unfold lastOf
    rw [if_neg (by omega), Nat.add_sub_cancel, e2]
theorem scF_inv {n : Int} {xs : List Int} (h : ∀ k, k < xs.length → ndAt xs k) : ∀ i, i ≤ xs.length → (∀ j, j < i → xs.getD j 0 ∈ (scF n xs i).2) ∧ (∀ k, k < (scF n xs i).2.length → ndAt (scF n xs i).2 k) ∧ lastOf (scF n xs i).2 (scF n xs i).2.length = lastOf xs i ∧ ((scF n xs i).1 = false → 0 ≤ n → lastOf xs i < n)
  | 0, _ => ⟨fun j hj => absurd hj (Nat.not_lt_zero _), fun k hk => absurd hk (Nat.not_lt_zero _), rfl, fun _ h0 => by show (-1 : Int) < n; omega⟩
  | i + 1, hi => by
    obtain ⟨a1, a2, a3, a4⟩ := scF_inv (n := n) h i (by omega)
    have hx := h i (by omega)
    have hl : lastOf xs (i + 1) = xs.getD i 0 := by unfold lastOf; rw [if_neg (by omega), Nat.add_sub_cancel]
    have hx1 : lastOf xs i < xs.getD i 0 ∧ xs.getD i 0 < 16 := hx
    have hm : ∀ j, j < i + 1 → xs.getD j 0 ∈ (scF n xs i).2 ∨ xs.getD j 0 = xs.getD i 0 := fun j hj => by
      rcases Nat.lt_or_ge j i with h3 | h3
      · exact .inl (a1 j h3)
      · obtain rfl : j = i := by omega
        exact .inr rfl
    rw [scF_s (by omega), hl]
    by_cases hc : (scF n xs i).1 = false ∧ 0 ≤ n ∧ n < xs.getD i 0
    · have e : scS n (scF n xs i) (xs.getD i 0) = (true, ((scF n xs i).2 ++ [n]) ++ [xs.getD i 0]) := if_pos hc
      rw [e]
      obtain ⟨b1, b2⟩ := nd_app (x := n) a2 (by rw [a3]; exact a4 hc.1 hc.2.1) (by omega)
      obtain ⟨d1, d2⟩ := nd_app (x := xs.getD i 0) b1 (by rw [b2]; exact hc.2.2) hx1.2
      refine ⟨fun j hj => ?_, d1, d2, fun h9 => by simp at h9⟩
      rcases hm j hj with h3 | h3
      · exact List.mem_append_left _ (List.mem_append_left _ h3)
      · rw [h3]; exact List.mem_append_right _ List.mem_cons_self
    · have e : scS n (scF n xs i) (xs.getD i 0) = ((scF n xs i).1 || decide (xs.getD i 0 = n), (scF n xs i).2 ++ [xs.getD i 0]) := if_neg hc
      rw [e]
      obtain ⟨d1, d2⟩ := nd_app (x := xs.getD i 0) a2 (by rw [a3]; exact hx1.1) hx1.2
      refine ⟨fun j hj => ?_, d1, d2, fun h9 h0 => ?_⟩
      · rcases hm j hj with h3 | h3
        · exact List.mem_append_left _ h3
        · rw [h3]; exact List.mem_append_right _ List.mem_cons_self
      · obtain ⟨h5, h6⟩ := Bool.or_eq_false_iff.1 h9
        have h7 : ¬ xs.getD i 0 = n := of_decide_eq_false h6
        have h8 : ¬ n < xs.getD i 0 := fun h10 => hc ⟨h5, h0, h10⟩
        omega
def scC (n : Int) (c : C) : C := ⟨c.jb, c.ep, c.st, 0, 1099511627776, (scF n c.nd c.nd.length).2, 256⟩
theorem al_scope {n : Int} {c : C} {a : Q} (h : allowsM c a = 0) : allowsM (scC n c) a = 0 := by
  obtain ⟨q0, q1, q2, q3⟩ := al_inv h
  obtain ⟨o1, o2, o3, o4, o5, o6, o7⟩ := q0
  obtain ⟨a1, a2, a3, a4⟩ := scF_inv (n := n) o7.1 c.nd.length (Nat.le_refl _)
  have hmem : ∀ x ∈ c.nd, x ∈ (scF n c.nd c.nd.length).2 := fun x hx => by
    obtain ⟨j, hj, rfl⟩ := List.getElem_of_mem hx
    have := a1 j hj
    rwa [List.getD_eq_getElem?_getD, List.getElem?_eq_getElem hj] at this
  have hne : 0 < (scF n c.nd c.nd.length).2.length := List.length_pos_of_mem (hmem _ q2.1)
  refine al4 ⟨o1, o2, ⟨Int.le_refl _, by show (0 : Int) ≤ _; decide⟩, ⟨by show (0 : Int) ≤ 1099511627776; decide, Int.le_refl _⟩, o5, ⟨by show (1 : Int) ≤ 256; decide, by show (256 : Int) ≤ 256; decide⟩, a2, hne⟩ q1 ⟨hmem _ q2.1, q2.2.1, ?_⟩ ⟨?_, ?_⟩
  · show a.co ≤ 256
    have := o6.2
    omega
  · show 0 ≤ a.tm
    have := o3.1
    omega
  · show a.tm < 1099511627776
    have := o4.2
    omega
theorem scF_len {n : Int} {xs : List Int} : ∀ i, i ≤ xs.length → (scF n xs i).2.length ≤ 2 * i
  | 0, _ => Nat.le_refl _
  | i + 1, h => by
    have := scF_len (n := n) (xs := xs) i (by omega)
    rw [scF_s (by omega)]
    unfold scS
    split
    · simp only [List.length_append, List.length_cons, List.length_nil]; omega
    · simp only [List.length_append, List.length_cons, List.length_nil]; omega
theorem scCase (u : Bool) (n x : Int) : u = true ∨ (u = false ∧ n < 0) ∨ (u = false ∧ 0 ≤ n ∧ x ≤ n) ∨ (u = false ∧ 0 ≤ n ∧ n < x) := by
  cases u
  · right
    by_cases h : n < 0
    · exact .inl ⟨rfl, h⟩
    · by_cases h2 : n < x
      · exact .inr (.inr ⟨rfl, by omega, h2⟩)
      · exact .inr (.inl ⟨rfl, by omega, by omega⟩)
  · exact .inl rfl
theorem sc_A {n x : Int} {ys : List Int} : scS n (true, ys) x = (true, ys ++ [x]) := by
  unfold scS; rw [if_neg (fun h => by simp at h)]; rfl
theorem sc_B {n x : Int} {ys : List Int} (h : ¬ (0 ≤ n ∧ n < x)) : scS n (false, ys) x = (decide (x = n), ys ++ [x]) := by
  unfold scS; rw [if_neg (fun hh => h hh.2)]; rfl
theorem sc_D {n x : Int} {ys : List Int} (h : 0 ≤ n) (h2 : n < x) : scS n (false, ys) x = (true, (ys ++ [n]) ++ [x]) := by
  unfold scS; rw [if_pos ⟨rfl, h, h2⟩]
end Cr
end Go.Proofs.Ytbkfjedecepfoaa
