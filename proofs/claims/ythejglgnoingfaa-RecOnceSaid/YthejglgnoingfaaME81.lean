/- The law RecOnce: plainly. -/
import Derived.Test.YthejglgnoingfaaProg
import Derived.KernelRfl
import Derived.Test.YthejglgnoingfaaMBaseAH
import Derived.Test.YthejglgnoingfaaME5
namespace Go.Proofs.Ythejglgnoingfaa
open Go Go.RowKit B
set_option linter.unusedVariables false
set_option linter.unusedSimpArgs false
namespace Rc
open Wir (numB listB rdN rdL rdEnd)


theorem ix_find {α : Type} (p : α → Bool) (d : α) : ∀ xs : List α, (ix p xs = -1 ∧ xs.find? p = none) ∨ ∃ (i : Nat) (x : α), ix p xs = (i : Int) ∧ i < xs.length ∧ xs.find? p = some x ∧ xs.getD i d = x ∧ p x = true ∧ (∀ y, p y = true → (xs.set i y).find? p = some y) ∧ (∀ (q : α → Bool) (y : α), q x = false → q y = false → (xs.set i y).find? q = xs.find? q)
  | [] => .inl ⟨rfl, rfl⟩
  | a :: t => by
    by_cases h : p a = true
    · refine .inr ⟨0, a, ?_, by simp, by simp [h], rfl, h, fun y hy => by simp [hy], fun q y h1 h2 => by simp [h1, h2]⟩
      unfold ix
      simp [h, List.findIdx_cons]
    · have hf : p a = false := by simpa using h
      rcases ix_find p d t with ⟨h1, h2⟩ | ⟨i, x, h1, h2, h3, h4, h5, h6, h7⟩
      · left
        refine ⟨?_, by simp [hf, h2]⟩
        unfold ix at h1 ⊢
        by_cases ha : t.any p = true
        · rw [if_pos ha] at h1; omega
        · have : (a :: t).any p = false := by simp [hf]; simpa using ha
          rw [this]; rfl
      · right
        refine ⟨i + 1, x, ?_, by simp; omega, by simp [hf, h3], by simpa using h4, h5, fun y hy => by simp [hf, h6 y hy], fun q y e1 e2 => by simp [List.find?_cons, h7 q y e1 e2]⟩
        unfold ix at h1 ⊢
        by_cases ha : t.any p = true
        · rw [if_pos ha] at h1
          have : (a :: t).any p = true := by rw [List.any_cons, ha, Bool.or_true]
          rw [this, if_pos rfl, List.findIdx_cons, hf]
          simp only [cond_false]
          omega
        · rw [if_neg ha] at h1; omega
def jp (z : Z) (j e : Int) : Option Int := (z.js.find? (jAt j e)).map (·.ph)
def sp (z : Z) (j e s : Int) : Option Int := (z.ss.find? (sAt j e s)).map (·.ph)
structure UpdJ (z y : Z) (b : R) (p : Int) : Prop where
  at_ : jp y b.jb b.ep = some p
  ne : ∀ j e, ¬ (j = b.jb ∧ e = b.ep) → jp y j e = jp z j e
  s : ∀ j e s, sp y j e s = sp z j e s
structure UpdS (z y : Z) (b : R) (p : Int) : Prop where
  at_ : sp y b.jb b.ep b.st = some p
  ne : ∀ j e s, ¬ (j = b.jb ∧ e = b.ep ∧ s = b.st) → sp y j e s = sp z j e s
  j : ∀ j e, jp y j e = jp z j e
inductive Trans (z : Z) (b : R) (y : Z) : Prop
  | new (p : Int) (hk : b.kd = 0 ∨ b.kd = 7) (h7 : b.kd = 7 → p = 2) (h : jp z b.jb b.ep = none) (u : UpdJ z y b p) : Trans z b y
  | beg (p : Int) (hk : b.kd = 1 ∨ (b.kd = 2 ∧ p = 2)) (hj : jp z b.jb b.ep = some 0) (h : sp z b.jb b.ep b.st = none) (u : UpdS z y b p) : Trans z b y
  | trn (f t : Int) (hk : (b.kd = 3 ∧ f = 0 ∧ t = 1) ∨ (b.kd = 4 ∧ f = 0 ∧ t = 2) ∨ (b.kd = 5 ∧ f = 1 ∧ t = 3)) (h : sp z b.jb b.ep b.st = some f) (u : UpdS z y b t) : Trans z b y
  | fin (p : Int) (hk : b.kd = 6) (hj : jp z b.jb b.ep = some p) (hp : p ≠ 2) (ha : ∀ s ph, sp z b.jb b.ep s = some ph → ph ≠ 0 ∧ ph ≠ 1) (u : UpdJ z y b 2) : Trans z b y
def Inv (z : Z) : Prop := ∀ j e s ph, sp z j e s = some ph → jp z j e ≠ none
structure Past (a : R) (z : Z) : Prop where
  h1 : jp z a.jb a.ep ≠ none
  h2 : (a.kd = 6 ∨ a.kd = 7) → jp z a.jb a.ep = some 2 ∧ ∀ s ph, sp z a.jb a.ep s = some ph → ph ≠ 0 ∧ ph ≠ 1
  h3 : (1 ≤ a.kd ∧ a.kd ≤ 5) → ∃ ph, sp z a.jb a.ep a.st = some ph ∧ (a.kd ≠ 1 → ph ≠ 0) ∧ (a.kd ≠ 1 → a.kd ≠ 3 → ph ≠ 1)
theorem inv_keep {z y : Z} {b : R} (t : Trans z b y) (h : Inv z) : Inv y := by
  intro j e s ph hs
  cases t with
  | new p hk h7 hn u =>
    by_cases k : j = b.jb ∧ e = b.ep
    · rw [k.1, k.2, u.at_]; simp
    · rw [u.ne _ _ k]; exact h j e s ph (by rw [← u.s]; exact hs)
  | beg p hk hj hn u =>
    rw [u.j]
    by_cases k : j = b.jb ∧ e = b.ep ∧ s = b.st
    · rw [k.1, k.2.1, hj]; simp
    · exact h j e s ph (by rw [← u.ne _ _ _ k]; exact hs)
  | trn f t hk hf u =>
    rw [u.j]
    by_cases k : j = b.jb ∧ e = b.ep ∧ s = b.st
    · rw [k.1, k.2.1]; exact h _ _ _ _ hf
    · exact h j e s ph (by rw [← u.ne _ _ _ k]; exact hs)
  | fin p hk hj hp ha u =>
    by_cases k : j = b.jb ∧ e = b.ep
    · rw [k.1, k.2, u.at_]; simp
    · rw [u.ne _ _ k]; exact h j e s ph (by rw [← u.s]; exact hs)
theorem past_keep {z y : Z} {a b : R} (t : Trans z b y) (h : Past a z) : Past a y := by
  obtain ⟨h1, h2, h3⟩ := h
  cases t with
  | new p hk h7 hn u =>
    by_cases k : a.jb = b.jb ∧ a.ep = b.ep
    · rw [k.1, k.2] at h1; exact absurd hn h1
    · refine ⟨by rw [u.ne _ _ k]; exact h1, fun h => ⟨by rw [u.ne _ _ k]; exact (h2 h).1, fun s ph hs => (h2 h).2 s ph (by rw [← u.s]; exact hs)⟩, fun h => ?_⟩
      obtain ⟨ph, e, e2⟩ := h3 h
      exact ⟨ph, by rw [u.s]; exact e, e2⟩
  | beg p hk hj hn u =>
    refine ⟨by rw [u.j]; exact h1, fun h => ⟨by rw [u.j]; exact (h2 h).1, fun s ph hs => ?_⟩, fun h => ?_⟩
    · by_cases k : a.jb = b.jb ∧ a.ep = b.ep ∧ s = b.st
      · have := (h2 h).1
        rw [k.1, k.2.1, hj] at this
        cases this
      · exact (h2 h).2 s ph (by rw [← u.ne _ _ _ k]; exact hs)
    · obtain ⟨ph, e, e2⟩ := h3 h
      by_cases k : a.jb = b.jb ∧ a.ep = b.ep ∧ a.st = b.st
      · rw [k.1, k.2.1, k.2.2, hn] at e; cases e
      · exact ⟨ph, by rw [u.ne _ _ _ k]; exact e, e2⟩
  | trn f t hk hf u =>
    refine ⟨by rw [u.j]; exact h1, fun h => ⟨by rw [u.j]; exact (h2 h).1, fun s ph hs => ?_⟩, fun h => ?_⟩
    · by_cases k : a.jb = b.jb ∧ a.ep = b.ep ∧ s = b.st
      · have := (h2 h).2 s f (by rw [k.1, k.2.1, k.2.2]; exact hf)
        omega
      · exact (h2 h).2 s ph (by rw [← u.ne _ _ _ k]; exact hs)
    · obtain ⟨ph, e, e2⟩ := h3 h
      by_cases k : a.jb = b.jb ∧ a.ep = b.ep ∧ a.st = b.st
      · rw [k.1, k.2.1, k.2.2, hf] at e
        have e9 : f = ph := Option.some.inj e
        refine ⟨t, by rw [k.1, k.2.1, k.2.2]; exact u.at_, fun g => by omega, fun g g2 => ?_⟩
        have := e2.1 g
        omega
      · exact ⟨ph, by rw [u.ne _ _ _ k]; exact e, e2⟩
  | fin p hk hj hp ha u =>
    by_cases k : a.jb = b.jb ∧ a.ep = b.ep
    · have e9 : jp y a.jb a.ep = some 2 := by rw [k.1, k.2]; exact u.at_
      refine ⟨by rw [e9]; simp, fun h => ⟨e9, fun s ph hs => ha s ph (by rw [← k.1, ← k.2, ← u.s]; exact hs)⟩, fun h => ?_⟩
      obtain ⟨ph, e, e2⟩ := h3 h
      exact ⟨ph, by rw [u.s]; exact e, e2⟩
    · refine ⟨by rw [u.ne _ _ k]; exact h1, fun h => ⟨by rw [u.ne _ _ k]; exact (h2 h).1, fun s ph hs => (h2 h).2 s ph (by rw [← u.s]; exact hs)⟩, fun h => ?_⟩
      obtain ⟨ph, e, e2⟩ := h3 h
      exact ⟨ph, by rw [u.s]; exact e, e2⟩
theorem past_new {z y : Z} {b : R} (t : Trans z b y) (hi : Inv z) : Past b y := by
  cases t with
  | new p hk h7 hn u =>
    refine ⟨by rw [u.at_]; simp, fun h => ⟨by rw [u.at_, h7 (by omega)], fun s ph hs => ?_⟩, fun h => by omega⟩
    rw [u.s] at hs
    exact absurd hn (hi _ _ _ _ hs)
  | beg p hk hj hn u =>
    exact ⟨by rw [u.j, hj]; simp, fun h => by omega, fun h => ⟨p, u.at_, fun g => by omega, fun g g2 => by omega⟩⟩
  | trn f t hk hf u =>
    exact ⟨by rw [u.j]; exact hi _ _ _ _ hf, fun h => by omega, fun h => ⟨t, u.at_, fun g => by omega, fun g g2 => by omega⟩⟩
  | fin p hk hj hp ha u =>
    exact ⟨by rw [u.at_]; simp, fun h => ⟨u.at_, fun s ph hs => ha s ph (by rw [← u.s]; exact hs)⟩, fun h => by omega⟩
def bad1 (a b : R) : Prop := a.kd = 6 ∨ a.kd = 7 ∨ b.kd = 7 ∨ (a.kd = b.kd ∧ (a.kd = 0 ∨ a.st = b.st))
def bad2 (a b : R) : Prop := a.st = b.st ∧ (a.kd = 4 ∨ a.kd = 2 ∨ a.kd = 5) ∧ b.kd ≠ 6 ∧ b.kd ≠ 0
theorem not_bad {z y : Z} {a b : R} (t : Trans z b y) (h : Past a z) (hj : a.jb = b.jb) (he : a.ep = b.ep) : ¬ bad1 a b ∧ ¬ bad2 a b := by
  obtain ⟨h1, h2, h3⟩ := h
  rw [hj, he] at h1 h2 h3
  cases t with
  | new p hk h7 hn u => exact absurd hn h1
  | beg p hk hj' hn u =>
    have n6 : ¬ (a.kd = 6 ∨ a.kd = 7) := fun g => by
      have := (h2 g).1
      rw [hj'] at this; cases this
    have n3 : a.st = b.st → ¬ (1 ≤ a.kd ∧ a.kd ≤ 5) := fun g g2 => by
      obtain ⟨ph, e, _⟩ := h3 g2
      rw [g, hn] at e; cases e
    unfold bad1 bad2
    refine ⟨fun g => ?_, fun g => n3 g.1 (by omega)⟩
    rcases g with g | g | g | ⟨g, g2⟩
    · exact n6 (.inl g)
    · exact n6 (.inr g)
    · omega
    · exact n3 (by omega) (by omega)
  | trn f t hk hf u =>
    have n6 : ¬ (a.kd = 6 ∨ a.kd = 7) := fun g => by
      have := (h2 g).2 _ _ hf
      omega
    have n3 : a.st = b.st → (1 ≤ a.kd ∧ a.kd ≤ 5) → (a.kd ≠ 1 → f ≠ 0) ∧ (a.kd ≠ 1 → a.kd ≠ 3 → f ≠ 1) := fun g g2 => by
      obtain ⟨ph, e, e2⟩ := h3 g2
      rw [g, hf] at e
      have e9 : f = ph := Option.some.inj e
      rw [e9]; exact e2
    unfold bad1 bad2
    refine ⟨fun g => ?_, fun g => ?_⟩
    · rcases g with g | g | g | ⟨g, g2⟩
      · exact n6 (.inl g)
      · exact n6 (.inr g)
      · omega
      · have := n3 (by omega) (by omega)
        omega
    · have := n3 g.1 (by omega)
      omega
  | fin p hk hj' hp ha u =>
    have n6 : ¬ (a.kd = 6 ∨ a.kd = 7) := fun g => by
      have := (h2 g).1
      rw [hj'] at this
      exact hp (Option.some.inj this)
    unfold bad1 bad2
    refine ⟨fun g => ?_, fun g => g.2.2.1 hk⟩
    rcases g with g | g | g | ⟨g, g2⟩
    · exact n6 (.inl g)
    · exact n6 (.inr g)
    · omega
    · exact n6 (.inl (by omega))
end Rc
end Go.Proofs.Ythejglgnoingfaa
