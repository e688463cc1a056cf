/- The law RecOnce: plainly (what Apply does). -/
import Derived.Test.YthejglgnoingfaaProg
import Derived.KernelRfl
import Derived.Test.YthejglgnoingfaaMBaseAH
import Derived.Test.YthejglgnoingfaaME5
import Derived.Test.YthejglgnoingfaaME81
namespace Go.Proofs.Ythejglgnoingfaa
open Go Go.RowKit B
set_option linter.unusedVariables false
set_option linter.unusedSimpArgs false
namespace Rc
open Wir (numB listB rdN rdL rdEnd)


theorem jAt_no {j e : Int} {b : R} {p : Int} (h : ¬ (j = b.jb ∧ e = b.ep)) : jAt j e ⟨b.jb, b.ep, p⟩ = false := by
  unfold jAt
  rw [Bool.and_eq_false_iff]
  by_cases h1 : b.jb = j
  · right; exact decide_eq_false (fun hh => h ⟨h1.symm, hh.symm⟩)
  · left; exact decide_eq_false h1
theorem jAt_yes {x : Rc.J} {j e : Int} (h : jAt j e x = true) : x.jb = j ∧ x.ep = e := by
  unfold jAt at h
  simpa using h
theorem sAt_yes {x : S} {j e s : Int} (h : sAt j e s x = true) : x.jb = j ∧ x.ep = e ∧ x.st = s := by
  unfold sAt at h
  rw [Bool.and_eq_true, Bool.and_eq_true] at h
  exact ⟨of_decide_eq_true h.1.1, of_decide_eq_true h.1.2, of_decide_eq_true h.2⟩
theorem sAt_no {x : S} {b : R} {j e s : Int} (hx : x.jb = b.jb ∧ x.ep = b.ep ∧ x.st = b.st) (h : ¬ (j = b.jb ∧ e = b.ep ∧ s = b.st)) : sAt j e s x = false := by
  unfold sAt
  rw [Bool.and_eq_false_iff, Bool.and_eq_false_iff, hx.1, hx.2.1, hx.2.2]
  by_cases h1 : b.jb = j
  · by_cases h2 : b.ep = e
    · right; exact decide_eq_false (fun hh => h ⟨h1.symm, h2.symm, hh.symm⟩)
    · left; right; exact decide_eq_false h2
  · left; left; exact decide_eq_false h1
theorem updJ_app {z : Z} {b : R} {p : Int} {dr : Bool} (hn : jp z b.jb b.ep = none) : UpdJ z { z with js := z.js ++ [⟨b.jb, b.ep, p⟩], dr := dr } b p := by
  refine ⟨?_, fun j e hne => ?_, fun _ _ _ => rfl⟩
  · have h0 : z.js.find? (jAt b.jb b.ep) = none := by simpa [jp] using hn
    have h1 : jAt b.jb b.ep ⟨b.jb, b.ep, p⟩ = true := by simp [jAt]
    show ((z.js ++ [(⟨b.jb, b.ep, p⟩ : Rc.J)]).find? (jAt b.jb b.ep)).map Rc.J.ph = some p
    rw [List.find?_append, h0]
    simp [List.find?_cons, h1]
  · have h1 := jAt_no (p := p) hne
    show ((z.js ++ [(⟨b.jb, b.ep, p⟩ : Rc.J)]).find? (jAt j e)).map Rc.J.ph = (z.js.find? (jAt j e)).map Rc.J.ph
    rw [List.find?_append]
    simp [List.find?_cons, h1]
theorem updS_app {z : Z} {b : R} {p : Int} (hn : sp z b.jb b.ep b.st = none) : UpdS z { z with ss := z.ss ++ [⟨b.jb, b.ep, b.st, p, 0, b.ls⟩] } b p := by
  refine ⟨?_, fun j e s hne => ?_, fun _ _ => rfl⟩
  · have h0 : z.ss.find? (sAt b.jb b.ep b.st) = none := by simpa [sp] using hn
    have h1 : sAt b.jb b.ep b.st ⟨b.jb, b.ep, b.st, p, 0, b.ls⟩ = true := by simp [sAt]
    show ((z.ss ++ [(⟨b.jb, b.ep, b.st, p, 0, b.ls⟩ : Rc.S)]).find? (sAt b.jb b.ep b.st)).map Rc.S.ph = some p
    rw [List.find?_append, h0]
    simp [List.find?_cons, h1]
  · have h1 := sAt_no (x := ⟨b.jb, b.ep, b.st, p, 0, b.ls⟩) (b := b) ⟨rfl, rfl, rfl⟩ hne
    show ((z.ss ++ [(⟨b.jb, b.ep, b.st, p, 0, b.ls⟩ : Rc.S)]).find? (sAt j e s)).map Rc.S.ph = (z.ss.find? (sAt j e s)).map Rc.S.ph
    rw [List.find?_append]
    simp [List.find?_cons, h1]
theorem new_none {z : Z} {j e : Int} (h : newM z j e = false) : jp z j e = none := by
  unfold jp
  rw [List.find?_eq_none.2 fun x hx hh => ?_]
  · rfl
  · unfold newM at h
    have := (List.any_eq_false.1 h) x hx
    obtain ⟨h1, h2⟩ := jAt_yes hh
    apply this
    unfold newB
    rw [h1, h2]
    simp
def TQ (z : Z) (b : R) (q : Z × Int) : Prop := q.2 = 0 → Trans z b q.1
theorem TQ.no {z : Z} {b : R} {y : Z} {n : Int} (h : n ≠ 0) : TQ z b (y, n) := fun hh => absurd hh h
theorem begins_trans {z : Z} {b : R} {p : Int} (hk : b.kd = 1 ∨ (b.kd = 2 ∧ p = 2)) : TQ z b (beginsM z b p) := by
  unfold beginsM
  split
  · exact .no (by decide)
  · rename_i c
    intro _
    have c1 : ¬ (findM z b.jb b.ep).2 = false := fun h => c (.inl h)
    have c2 : (findM z b.jb b.ep).1.ph = 0 := Classical.byContradiction fun h => c (.inr (.inl h))
    have c3 : ¬ 0 ≤ sIx z b.jb b.ep b.st := fun h => c (.inr (.inr (.inl h)))
    have hj : jp z b.jb b.ep = some 0 := by
      rcases ix_find (jAt b.jb b.ep) J0 z.js with ⟨h1, h2⟩ | ⟨i, x, h1, h2, h3, h4, h5, _⟩
      · have h1' : jIx z b.jb b.ep = -1 := h1
        unfold findM at c1
        rw [if_neg (by rw [h1']; decide)] at c1
        exact absurd rfl c1
      · have h1' : jIx z b.jb b.ep = (i : Int) := h1
        unfold findM at c2
        rw [if_pos (by rw [h1']; omega), h1', Int.toNat_natCast, h4] at c2
        unfold jp
        rw [h3, ← c2]; rfl
    have hs : sp z b.jb b.ep b.st = none := by
      rcases ix_find (sAt b.jb b.ep b.st) S0 z.ss with ⟨h1, h2⟩ | ⟨i, x, h1, _⟩
      · unfold sp; rw [h2]; rfl
      · exact absurd (by show 0 ≤ ix _ _; rw [h1]; omega) c3
    exact .beg p hk hj hs (updS_app hs)
theorem turns_trans {z : Z} {b : R} {f t : Int} (hk : (b.kd = 3 ∧ f = 0 ∧ t = 1) ∨ (b.kd = 4 ∧ f = 0 ∧ t = 2) ∨ (b.kd = 5 ∧ f = 1 ∧ t = 3)) : TQ z b (turnsM z b f t) := by
  unfold turnsM
  split
  · exact .no (by decide)
  · rename_i c
    intro _
    rcases ix_find (sAt b.jb b.ep b.st) S0 z.ss with ⟨h1, h2⟩ | ⟨i, x, h1, h2, h3, h4, h5, h6, h7⟩
    · exact absurd (.inl (by show ix _ _ < 0; rw [h1]; decide)) c
    · have h1' : sIx z b.jb b.ep b.st = (i : Int) := h1
      have c2 : (z.ss.getD (sIx z b.jb b.ep b.st).toNat S0).ph = f := Classical.byContradiction fun hh => c (.inr hh)
      rw [h1', Int.toNat_natCast, h4] at c2 ⊢
      have hx := sAt_yes h5
      refine .trn f t hk (by unfold sp; rw [h3, ← c2]; rfl) ⟨?_, fun j e s hne => ?_, fun _ _ => rfl⟩
      · show ((z.ss.set i _).find? (sAt b.jb b.ep b.st)).map (·.ph) = some t
        rw [h6 _ (by unfold sAt at h5 ⊢; exact h5)]; rfl
      · show ((z.ss.set i _).find? (sAt j e s)).map (·.ph) = (z.ss.find? (sAt j e s)).map (·.ph)
        rw [h7 _ _ (sAt_no hx hne) (by have := sAt_no hx hne; unfold sAt at this ⊢; exact this)]
theorem epilog_trans {z : Z} {b : R} (hk : b.kd = 6) : TQ z b (epilogM z b) := by
  unfold epilogM
  split
  · exact .no (by decide)
  · rename_i c
    intro _
    rcases ix_find (jAt b.jb b.ep) J0 z.js with ⟨h1, h2⟩ | ⟨i, x, h1, h2, h3, h4, h5, h6, h7⟩
    · exact absurd (.inl (by show ix _ _ < 0; rw [h1]; decide)) c
    · have h1' : jIx z b.jb b.ep = (i : Int) := h1
      have c2 : (z.js.getD (jIx z b.jb b.ep).toNat J0).ph ≠ 2 := fun hh => c (.inr (.inl hh))
      have c3 : ¬ aliveM z b.jb b.ep = true := fun hh => c (.inr (.inr hh))
      rw [h1', Int.toNat_natCast, h4] at c2 ⊢
      have hx := jAt_yes h5
      have hno : ∀ j e, ¬ (j = b.jb ∧ e = b.ep) → jAt j e x = false := fun j e hne => by
        obtain ⟨a0, a1, a2⟩ := x
        obtain ⟨rfl, rfl⟩ := hx
        exact jAt_no hne
      refine .fin x.ph hk (by unfold jp; rw [h3]; rfl) c2 (fun s ph hs => ?_) ⟨?_, fun j e hne => ?_, fun _ _ _ => rfl⟩
      · unfold sp at hs
        rw [Option.map_eq_some_iff] at hs
        obtain ⟨y, hy, rfl⟩ := hs
        have hm := List.mem_of_find?_eq_some hy
        have hp := sAt_yes (List.find?_some hy)
        refine ⟨fun h0 => c3 ?_, fun h0 => c3 ?_⟩
        · exact List.any_eq_true.2 ⟨y, hm, by unfold aliveB; rw [hp.1, hp.2.1, h0]; simp⟩
        · exact List.any_eq_true.2 ⟨y, hm, by unfold aliveB; rw [hp.1, hp.2.1, h0]; simp⟩
      · show ((z.js.set i _).find? (jAt b.jb b.ep)).map (·.ph) = some 2
        rw [h6 _ (by unfold jAt at h5 ⊢; exact h5)]; rfl
      · show ((z.js.set i _).find? (jAt j e)).map (·.ph) = (z.js.find? (jAt j e)).map (·.ph)
        rw [h7 _ _ (hno j e hne) (by have := hno j e hne; unfold jAt at this ⊢; exact this)]
theorem do_trans {z : Z} {b : R} (hk : 0 ≤ b.kd ∧ b.kd ≤ 7) : TQ z b (doM z b) := by
  unfold doM
  split
  · rename_i k
    unfold prologM
    split
    · exact .no (by decide)
    · rename_i hn
      split
      · exact .no (by decide)
      · intro _
        have h0 := new_none (by simpa using hn)
        exact .new _ (.inl k) (fun h => by omega) h0 (updJ_app h0)
  · split
    · rename_i k; exact begins_trans (.inl k)
    · split
      · rename_i k; exact begins_trans (.inr ⟨k, rfl⟩)
      · split
        · rename_i k; exact turns_trans (.inl ⟨k, rfl, rfl⟩)
        · split
          · rename_i k; exact turns_trans (.inr (.inl ⟨k, rfl, rfl⟩))
          · split
            · rename_i k; exact turns_trans (.inr (.inr ⟨k, rfl, rfl⟩))
            · split
              · rename_i k; exact epilog_trans k
              · rename_i k0 k1 k2 k3 k4 k5 k6
                unfold voidM
                split
                · exact .no (by decide)
                · rename_i hn
                  intro _
                  have h0 := new_none (by simpa using hn)
                  exact .new 2 (.inr (by omega)) (fun _ => rfl) h0 (updJ_app h0)
theorem apply_trans {z : Z} {b : R} (h : (applyM z b).2 = 0) : Trans z b (applyM z b).1 := by
  revert h
  show TQ z b (applyM z b)
  unfold applyM
  split
  · rename_i hk; exact do_trans hk.2.1
  · exact .no (by decide)
theorem once_inv {l : List R} : ∀ i, i ≤ (foldM Z0 l).2 → Inv (foldM Z0 (l.take i)).1 ∧ ∀ k, k < i → Past (l.getD k R0) (foldM Z0 (l.take i)).1
  | 0, _ => ⟨fun j e s ph hs => (by simp [foldM, sp, Z0] at hs), fun k hk => absurd hk (Nat.not_lt_zero _)⟩
  | i + 1, h => by
    obtain ⟨h1, h2⟩ := once_inv (l := l) i (by omega)
    obtain ⟨h3, h4⟩ := fold_next l i Z0 (by omega)
    have t := apply_trans h3
    rw [h4]
    refine ⟨inv_keep t h1, fun k hk => ?_⟩
    by_cases e : k = i
    · subst e; exact past_new t h1
    · exact past_keep t (h2 k (by omega))
theorem once_ok {l : List R} {i k : Nat} (hi : i < (foldM Z0 l).2) (hk : k < i) (hj : (l.getD k R0).jb = (l.getD i R0).jb) (he : (l.getD k R0).ep = (l.getD i R0).ep) :
    ((l.getD k R0).kd ≠ 6 ∧ (l.getD k R0).kd ≠ 7 ∧ (l.getD i R0).kd ≠ 7) ∧ ((l.getD k R0).kd = (l.getD i R0).kd → (l.getD k R0).kd ≠ 0 ∧ (l.getD k R0).st ≠ (l.getD i R0).st) ∧ ((l.getD k R0).st = (l.getD i R0).st → ((l.getD k R0).kd = 4 ∨ (l.getD k R0).kd = 2 ∨ (l.getD k R0).kd = 5) → (l.getD i R0).kd = 6 ∨ (l.getD i R0).kd = 0) := by
  obtain ⟨_, h2⟩ := once_inv (l := l) i (by omega)
  obtain ⟨b1, b2⟩ := not_bad (apply_trans (fold_next l i Z0 hi).1) (h2 k hk) hj he
  unfold bad1 at b1
  unfold bad2 at b2
  refine ⟨⟨fun g => b1 (.inl g), fun g => b1 (.inr (.inl g)), fun g => b1 (.inr (.inr (.inl g)))⟩, fun g => ⟨fun g2 => b1 (.inr (.inr (.inr ⟨g, .inl g2⟩))), fun g2 => b1 (.inr (.inr (.inr ⟨g, .inr g2⟩)))⟩, fun g g2 => ?_⟩
  apply Classical.byContradiction
  intro g3
  exact b2 ⟨g, g2, fun h => g3 (.inl h), fun h => g3 (.inr h)⟩
end Rc
end Go.Proofs.Ythejglgnoingfaa
