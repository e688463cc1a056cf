/- The law NodeAsks. -/
import Derived.Test.YtanlminnobonnaaProg
import Derived.KernelRfl
import Derived.Test.YtanlminnobonnaaMBaseAH
import Derived.Test.YtanlminnobonnaaMN8
namespace Go.Proofs.Ytanlminnobonnaa
open Go Go.RowKit B
set_option linter.unusedVariables false
set_option linter.unusedSimpArgs false
namespace Rc

theorem fld33_0 : fldB Try.prog 33 0 0 = true := by kernel_rfl
theorem fld33_2 : fldB Try.prog 33 2 4 = true := by kernel_rfl
theorem can10 : B.Can Try.prog 10 := ⟨_, Try.func10, by kernel_rfl, rfl⟩   -- roundhouse/roundhouselaw16.live
theorem can13 : B.Can Try.prog 13 := ⟨_, Try.func13, by kernel_rfl, rfl⟩   -- roundhouse/roundhouselaw16.facts
theorem jx_neg {z : Z} {m : M} (h : hasJ z m = false) : jIx z m.jb m.ep < 0 := by
  unfold hasJ findM at h
  split at h
  · cases h
  · omega
theorem jx_pos {z : Z} {m : M} (h : hasJ z m = true) : 0 ≤ jIx z m.jb m.ep ∧ phJ z m = (z.js.getD (jIx z m.jb m.ep).toNat J0).ph := by
  unfold hasJ findM at h
  split at h
  · rename_i h1
    exact ⟨h1, by unfold phJ findM; rw [if_pos h1]⟩
  · cases h
theorem sx_neg {z : Z} {m : M} (h : hasS z m = false) : sIx z m.jb m.ep m.st < 0 := by
  unfold hasS stepM at h
  split at h
  · cases h
  · omega
theorem sx_pos {z : Z} {m : M} (h : hasS z m = true) : 0 ≤ sIx z m.jb m.ep m.st ∧ phS z m = (z.ss.getD (sIx z m.jb m.ep m.st).toNat S0).ph := by
  unfold hasS stepM at h
  split at h
  · rename_i h1
    exact ⟨h1, by unfold phS stepM; rw [if_pos h1]⟩
  · cases h
theorem newM_f {z : Z} {m : M} (h1 : hasJ z m = false) (h2 : nwM z m = false) : newM z m.jb m.ep = false := by
  refine any_f (d := J0) fun i hi => ?_
  show newB m.jb m.ep (z.js.getD i J0) = false
  have a1 : nwB m (z.js.getD i J0) = false := by
    unfold nwM at h2
    rw [List.any_eq_false] at h2
    simpa using h2 _ (memD J0 hi)
  have a2 : jAt m.jb m.ep (z.js.getD i J0) = false := by
    have := jx_neg h1
    rcases ix_at (jAt m.jb m.ep) z.js J0 with ⟨_, h3⟩ | ⟨j, _, h3, _⟩
    · rw [List.any_eq_false] at h3
      simpa using h3 _ (memD J0 hi)
    · have h4 : jIx z m.jb m.ep = (j : Int) := h3
      omega
  unfold nwB at a1
  unfold jAt at a2
  unfold newB
  rw [← Bool.decide_and, decide_eq_false_iff_not] at a1 a2 ⊢
  omega
theorem upJ {z : Z} {m : M} (h : upB z m = true) : hasJ z m = true ∧ phJ z m = 0 := by
  unfold upB at h
  rwa [Bool.and_eq_true, decide_eq_true_eq] at h
theorem phS_ {z : Z} {m : M} {p : Int} (h : phB z m p = true) : hasS z m = true ∧ phS z m = p := by
  unfold phB at h
  rwa [Bool.and_eq_true, decide_eq_true_eq] at h
theorem foldN {l : List R} : ∀ {z : Z} {n : Nat}, fewN n z → (∀ r ∈ l, r.ls.length ≤ 100000) → fewN (n + l.length) (foldM z l).1 := by
  induction l with
  | nil => intro z n h _; exact h
  | cons r l ih =>
    intro z n h hl
    unfold foldM
    split
    · have := ih (h.next (hl r List.mem_cons_self)) (fun x hx => hl x (List.mem_cons_of_mem _ hx))
      rw [List.length_cons, show n + (l.length + 1) = n + 1 + l.length by omega]
      exact this
    · exact ⟨Nat.le_trans h.j (by omega), Nat.le_trans h.s (by omega), h.p⟩
theorem fold_few {l : List R} (h : l.length ≤ 40) (hl : ∀ i, i < l.length → (l.getD i R0).ls.length ≤ 40) : few (foldM Z0 l).1 ∧ ∀ r ∈ l, r.ls.length ≤ 100000 := by
  have h2 : ∀ r ∈ l, r.ls.length ≤ 100000 := fun r hr => by
    obtain ⟨i, hi, rfl⟩ := List.getElem_of_mem hr
    have := hl i hi
    rw [List.getD_eq_getElem?_getD, List.getElem?_eq_getElem hi] at this
    exact Nat.le_trans this (by decide)
  exact ⟨(foldN fewN0 h2).few (by omega), h2⟩
theorem decide_few2 {id : Int} {z : Z} {m : M} {f : Fc} : (decideM id z m f).1.rc.ls.length ≤ f.ps.length := by
  unfold decideM prologA launchA releaseA abortA finishA
  repeat' split
  all_goals first | exact Nat.zero_le _ | exact Nat.le_refl _
theorem ix_of {α : Type} {p : α → Bool} {xs : List α} (d : α) {i : Nat} (h : ix p xs = (i : Int)) : i < xs.length ∧ p (xs.getD i d) = true ∧ ∀ j, j < i → p (xs.getD j d) = false := by
  unfold ix at h
  split at h
  · rename_i ha
    have h1 : xs.findIdx p = i := by omega
    have h2 : xs.findIdx p < xs.length := List.findIdx_lt_length.2 (by simpa using ha)
    rw [h1] at h2
    have := (List.findIdx_eq h2).1 h1
    refine ⟨h2, ?_, fun j hj => ?_⟩
    · rw [List.getD_eq_getElem?_getD, List.getElem?_eq_getElem h2]; exact this.1
    · have hj2 : j < xs.length := by omega
      rw [List.getD_eq_getElem?_getD, List.getElem?_eq_getElem hj2]
      exact this.2 j hj
  · omega
theorem ix_app {α : Type} {p : α → Bool} {xs : List α} {x : α} (h : ix p xs < 0) (hx : p x = true) : ix p (xs ++ [x]) = (xs.length : Int) := by
  have ha : xs.any p = false := by
    rcases ix_at p xs x with ⟨_, h1⟩ | ⟨j, _, h1, _⟩
    · exact h1
    · omega
  refine ix_some (d := x) (by simp) (by rw [List.getD_eq_getElem?_getD, List.getElem?_append_right (Nat.le_refl _)]; simpa using hx) (fun j hj => ?_)
  rw [List.getD_eq_getElem?_getD, List.getElem?_append_left hj, ← List.getD_eq_getElem?_getD]
  rw [List.any_eq_false] at ha
  simpa using ha _ (memD x hj)
theorem ix_set {α : Type} {p : α → Bool} {xs : List α} {y d : α} {i : Nat} (h : ix p xs = (i : Int)) (hy : p y = true) : ix p (xs.set i y) = (i : Int) := by
  obtain ⟨h1, h2, h3⟩ := ix_of d h
  refine ix_some (d := d) (by rw [List.length_set]; exact h1) ?_ (fun j hj => ?_)
  · rw [List.getD_eq_getElem?_getD, List.getElem?_set_self h1]; exact hy
  · rw [List.getD_eq_getElem?_getD, List.getElem?_set_ne (by omega), ← List.getD_eq_getElem?_getD]; exact h3 j hj
theorem findM_app {z : Z} {m : M} {ph : Int} {d : Bool} (h : hasJ z m = false) : findM { z with js := z.js ++ [⟨m.jb, m.ep, ph⟩], dr := d } m.jb m.ep = (⟨m.jb, m.ep, ph⟩, true) := by
  have h1 : jIx { z with js := z.js ++ [⟨m.jb, m.ep, ph⟩], dr := d } m.jb m.ep = ((z.js.length : Nat) : Int) := ix_app (jx_neg h) (by unfold jAt; simp)
  rw [findM_t h1]
  show ((z.js ++ [_]).getD z.js.length J0, true) = _
  rw [List.getD_eq_getElem?_getD, List.getElem?_append_right (Nat.le_refl _)]
  simp
theorem stepM_app {z : Z} {m : M} {ph cd : Int} {ls : List Int} (h : hasS z m = false) : stepM { z with ss := z.ss ++ [⟨m.jb, m.ep, m.st, ph, cd, ls⟩] } m.jb m.ep m.st = (⟨m.jb, m.ep, m.st, ph, cd, ls⟩, true) := by
  have h1 : sIx { z with ss := z.ss ++ [⟨m.jb, m.ep, m.st, ph, cd, ls⟩] } m.jb m.ep m.st = ((z.ss.length : Nat) : Int) := ix_app (sx_neg h) (by unfold sAt; simp)
  rw [stepM_t h1]
  show ((z.ss ++ [_]).getD z.ss.length S0, true) = _
  rw [List.getD_eq_getElem?_getD, List.getElem?_append_right (Nat.le_refl _)]
  simp
theorem findM_set {z : Z} {m : M} {ph : Int} {d : Bool} {i : Nat} (h : jIx z m.jb m.ep = (i : Int)) : findM { z with js := z.js.set i { z.js.getD i J0 with ph := ph }, dr := d } m.jb m.ep = ({ z.js.getD i J0 with ph := ph }, true) := by
  obtain ⟨h0, h2, _⟩ := ix_of J0 h
  have h1 : jIx { z with js := z.js.set i { z.js.getD i J0 with ph := ph }, dr := d } m.jb m.ep = (i : Int) := ix_set (d := J0) h h2
  rw [findM_t h1]
  show ((z.js.set i _).getD i J0, true) = _
  rw [List.getD_eq_getElem?_getD, List.getElem?_set_self h0]
  rfl
theorem stepM_set {z : Z} {m : M} {ph cd : Int} {i : Nat} (h : sIx z m.jb m.ep m.st = (i : Int)) : stepM { z with ss := z.ss.set i { z.ss.getD i S0 with ph := ph, cd := cd } } m.jb m.ep m.st = ({ z.ss.getD i S0 with ph := ph, cd := cd }, true) := by
  obtain ⟨h0, h2, _⟩ := ix_of S0 h
  have h1 : sIx { z with ss := z.ss.set i { z.ss.getD i S0 with ph := ph, cd := cd } } m.jb m.ep m.st = (i : Int) := ix_set (d := S0) h h2
  rw [stepM_t h1]
  show ((z.ss.set i _).getD i S0, true) = _
  rw [List.getD_eq_getElem?_getD, List.getElem?_set_self h0]
  rfl
theorem okR_ap {z : Z} {r : R} (h : (applyM z r).2 = 0) : okR r ∧ applyM z r = doM z r := by
  by_cases ho : okR r
  · exact ⟨ho, apply_ok ho⟩
  · rw [apply_no ho] at h; cases h
/-- the same again: it writes, starts and kills nothing -/
def TW (m : M) (a : Ac) (q : Ac × Int) : Prop := q.2 = 0 ∧ q.1.has = false ∧ q.1.sta = false ∧ q.1.kil = false ∧ (a.bk = true → q.1.bk = true) ∧ (a.bk = true → m.kd ≠ 8 → q.1.rp = a.rp)
theorem twice {id : Int} {z : Z} {m : M} {f : Fc} (h0 : (decideM id z m f).2 = 0) (hh : (decideM id z m f).1.has = true) (ha : (applyM z (decideM id z m f).1.rc).2 = 0) : TW m (decideM id z m f).1 (decideM id (applyM z (decideM id z m f).1.rc).1 m f) := by
  by_cases hc : ¬ (0 ≤ id ∧ id ≤ 15) ∨ ¬ (0 ≤ f.cd ∧ f.cd ≤ 255) ∨ m.fr ≠ -1 ∨ m.to ≠ id
  · have : decideM id z m f = (A0, 1) := by unfold decideM; rw [if_pos hc]
    rw [this] at h0; cases h0
  by_cases k0 : m.kd = 0
  · have hq : ∀ z', decideM id z' m f = (prologA id z' m f.cd, 0) := fun z' => by unfold decideM; rw [if_neg hc, if_pos k0]
    rw [hq] at hh ha ⊢
    rw [hq]
    revert hh ha
    generalize hX : prologA id z m f.cd = X
    unfold prologA at hX
    revert hX
    repeat' split
    all_goals (rintro rfl; first | (intro h; exact Bool.noConfusion h) | skip)
    rename_i a1 a2 a3 a4 a5
    intro _ ha
    have b1 : hasJ z m = false := by cases hx : hasJ z m; rfl; exact absurd (by rw [hx]; rfl) a4
    have b2 : nwM z m = false := by cases hx : nwM z m; rfl; exact absurd (by rw [hx]; simp) a4
    have e1 := (okR_ap ha).2
    rw [show (anM id m (wrM m 0 f.cd) 1 (mn1 f.cd)).rc = (wrM m 0 f.cd).rc from rfl] at e1 ⊢
    rw [do_0 rfl, prolog_0 (newM_f b1 b2) (by simpa using a5)] at e1
    rw [e1]
    show TW m _ (prologA id { z with js := z.js ++ [⟨m.jb, m.ep, if f.cd = 0 then 0 else 1⟩], dr := decide (f.cd ≠ 0) } m f.cd, 0)
    have e2 := findM_app (ph := if f.cd = 0 then 0 else 1) (d := decide (f.cd ≠ 0)) b1
    generalize hz' : ({ z with js := z.js ++ [⟨m.jb, m.ep, if f.cd = 0 then 0 else 1⟩], dr := decide (f.cd ≠ 0) } : Z) = z' at e2 ⊢
    have e3 : hasJ z' m = true := by unfold hasJ; rw [e2]
    have e4 : phJ z' m = if f.cd = 0 then 0 else 1 := by unfold phJ; rw [e2]
    by_cases hz : f.cd = 0
    · rw [if_pos hz] at e4
      have e5 : prologA id z' m f.cd = anM id m A0 1 0 := by
        unfold prologA; rw [if_pos (show upB _ m = true from hj_t e3 e4)]
      rw [e5]
      exact ⟨rfl, rfl, rfl, rfl, fun _ => rfl, fun _ _ => by rw [hz]; rfl⟩
    · rw [if_neg hz] at e4
      have e5 : prologA id z' m f.cd = anM id m A0 1 1 := by
        unfold prologA; rw [if_neg (show ¬ upB _ m = true from hj_f (fun hx => by rw [e4] at hx; exact absurd hx.2 (by decide))), if_pos (hj_t e3 e4)]
      rw [e5]
      have e6 : mn1 f.cd = 1 := by
        have : 0 ≤ f.cd := (Classical.not_not.1 fun hn => hc (.inr (.inl hn))).1
        unfold mn1; split <;> omega
      exact ⟨rfl, rfl, rfl, rfl, fun _ => rfl, fun _ _ => by rw [e6]; rfl⟩
  by_cases k2 : m.kd = 2
  · have hq : ∀ z', decideM id z' m f = (launchA id z' m f, 0) := fun z' => by unfold decideM; rw [if_neg hc, if_neg k0, if_pos k2]
    rw [hq] at hh ha ⊢
    rw [hq]
    revert hh ha
    generalize hX : launchA id z m f = X
    unfold launchA at hX
    revert hX
    repeat' split
    all_goals (rintro rfl; first | (intro h; exact Bool.noConfusion h) | skip)
    rename_i a1 a2 a3
    intro _ ha
    have b3 : hasS z m = false := by simpa using a2
    have b1 : upB z m = true := by cases hx : upB z m; exact absurd (.inl hx) a3; rfl
    have b4 := upJ b1
    have e1 := (okR_ap ha).2
    have e0 : doM z { (wrM m 1 0).rc with ls := f.ps } = beginsM z { (wrM m 1 0).rc with ls := f.ps } 0 := do_b (.inl rfl)
    rw [show (anM id m { wrM m 1 0 with rc := { (wrM m 1 0).rc with ls := f.ps } } 3 1).rc = { (wrM m 1 0).rc with ls := f.ps } from rfl] at e1 ha ⊢
    rw [e0] at e1
    rw [e1] at ha
    rw [e1]
    revert ha
    unfold beginsM
    split
    · intro h; exact absurd h (show ¬ (14 : Int) = 0 by decide)
    · intro _
      show TW m _ (launchA id { z with ss := z.ss ++ [⟨m.jb, m.ep, m.st, 0, 0, f.ps⟩] } m f, 0)
      have e2 := stepM_app (ph := 0) (cd := 0) (ls := f.ps) b3
      have e3 : hasS { z with ss := z.ss ++ [⟨m.jb, m.ep, m.st, 0, 0, f.ps⟩] } m = true := by unfold hasS; rw [e2]
      have e4 : phS { z with ss := z.ss ++ [⟨m.jb, m.ep, m.st, 0, 0, f.ps⟩] } m = 0 := by unfold phS; rw [e2]
      have e5 : launchA id { z with ss := z.ss ++ [⟨m.jb, m.ep, m.st, 0, 0, f.ps⟩] } m f = anM id m A0 3 1 := by
        unfold launchA; rw [if_neg (show ¬ phB _ m 2 = true from by unfold phB; rw [e3, e4]; decide), if_pos e3]
      rw [e5]
      exact ⟨rfl, rfl, rfl, rfl, fun _ => rfl, fun _ _ => rfl⟩
  by_cases k4 : m.kd = 4
  · have hq : ∀ z', decideM id z' m f = (releaseA id z' m, 0) := fun z' => by unfold decideM; rw [if_neg hc, if_neg k0, if_neg k2, if_pos k4]
    rw [hq] at hh ha ⊢
    rw [hq]
    revert hh ha
    generalize hX : releaseA id z m = X
    unfold releaseA at hX
    revert hX
    repeat' split
    all_goals (rintro rfl; first | (intro h; exact Bool.noConfusion h) | skip)
    rename_i a1
    intro _ ha
    have b1 := phS_ a1
    have b2 := sx_pos b1.1
    have hix : sIx z m.jb m.ep m.st = (((sIx z m.jb m.ep m.st).toNat : Nat) : Int) := by omega
    have e1 := (okR_ap ha).2
    rw [show ({ wrM m 3 0 with sta := true } : Ac).rc = (wrM m 3 0).rc from rfl] at e1 ⊢
    rw [do_t ⟨show (3 : Int) ≤ 3 by decide, show (3 : Int) ≤ 5 by decide⟩, turns_0q (i := (sIx z m.jb m.ep m.st).toNat) hix rfl ((b2.2.symm.trans b1.2).trans (if_neg (show ¬ (3 : Int) = 5 by decide)).symm)] at e1
    rw [e1]
    have e2 := stepM_set (ph := 1) (cd := (z.ss.getD (sIx z m.jb m.ep m.st).toNat S0).cd) hix
    show TW m _ (releaseA id { z with ss := z.ss.set (sIx z m.jb m.ep m.st).toNat { z.ss.getD (sIx z m.jb m.ep m.st).toNat S0 with ph := 1, cd := (z.ss.getD (sIx z m.jb m.ep m.st).toNat S0).cd } } m, 0)
    generalize hz' : ({ z with ss := z.ss.set (sIx z m.jb m.ep m.st).toNat { z.ss.getD (sIx z m.jb m.ep m.st).toNat S0 with ph := 1, cd := (z.ss.getD (sIx z m.jb m.ep m.st).toNat S0).cd } } : Z) = z' at e2 ⊢
    have e4 : phS z' m = 1 := by unfold phS; rw [e2]
    have e5 : releaseA id z' m = A0 := by
      unfold releaseA; rw [if_neg (show ¬ phB z' m 0 = true from by unfold phB; rw [e4]; simp), if_neg (show ¬ phB z' m 3 = true from by unfold phB; rw [e4]; simp)]
    rw [e5]
    exact ⟨rfl, rfl, rfl, rfl, (fun h => by cases h), (fun h => by cases h)⟩
  by_cases k5 : m.kd = 5
  · have hq : ∀ z', decideM id z' m f = (abortA z' m, 0) := fun z' => by unfold decideM; rw [if_neg hc, if_neg k0, if_neg k2, if_neg k4, if_pos k5]
    rw [hq] at hh ha ⊢
    rw [hq]
    revert hh ha
    generalize hX : abortA z m = X
    unfold abortA at hX
    revert hX
    repeat' split
    all_goals (rintro rfl; first | (intro h; exact Bool.noConfusion h) | skip)
    · rename_i a1
      intro _ ha
      have b1 := phS_ a1
      have b2 := sx_pos b1.1
      have hix : sIx z m.jb m.ep m.st = (((sIx z m.jb m.ep m.st).toNat : Nat) : Int) := by omega
      have e1 := (okR_ap ha).2
      rw [show ({ wrM m 4 0 with kil := true } : Ac).rc = (wrM m 4 0).rc from rfl] at e1 ⊢
      rw [do_t ⟨show (3 : Int) ≤ 4 by decide, show (4 : Int) ≤ 5 by decide⟩, turns_0q (i := (sIx z m.jb m.ep m.st).toNat) hix rfl ((b2.2.symm.trans b1.2).trans (if_neg (show ¬ (4 : Int) = 5 by decide)).symm)] at e1
      rw [e1]
      have e2 := stepM_set (ph := 2) (cd := (z.ss.getD (sIx z m.jb m.ep m.st).toNat S0).cd) hix
      show TW m _ (abortA { z with ss := z.ss.set (sIx z m.jb m.ep m.st).toNat { z.ss.getD (sIx z m.jb m.ep m.st).toNat S0 with ph := 2, cd := (z.ss.getD (sIx z m.jb m.ep m.st).toNat S0).cd } } m, 0)
      generalize hz' : ({ z with ss := z.ss.set (sIx z m.jb m.ep m.st).toNat { z.ss.getD (sIx z m.jb m.ep m.st).toNat S0 with ph := 2, cd := (z.ss.getD (sIx z m.jb m.ep m.st).toNat S0).cd } } : Z) = z' at e2 ⊢
      have e3 : hasS z' m = true := by unfold hasS; rw [e2]
      have e4 : phS z' m = 2 := by unfold phS; rw [e2]
      have e5 : abortA z' m = A0 := by
        unfold abortA; rw [if_neg (show ¬ phB z' m 0 = true from by unfold phB; rw [e4]; simp), if_neg (by rw [e3]; simp)]
      rw [e5]
      exact ⟨rfl, rfl, rfl, rfl, (fun h => by cases h), (fun h => by cases h)⟩
    · rename_i a1 a2
      intro _ ha
      rw [Bool.and_eq_true] at a2
      have b3 : hasS z m = false := by simpa using a2.1
      have e1 := (okR_ap ha).2
      have e0 : doM z (wrM m 2 0).rc = beginsM z (wrM m 2 0).rc 2 := do_b (.inr rfl)
      rw [e0] at e1
      rw [e1] at ha
      rw [e1]
      revert ha
      unfold beginsM
      split
      · intro h; exact absurd h (show ¬ (14 : Int) = 0 by decide)
      · intro _
        show TW m _ (abortA { z with ss := z.ss ++ [⟨m.jb, m.ep, m.st, 2, 0, []⟩] } m, 0)
        have e2 := stepM_app (ph := 2) (cd := 0) (ls := []) b3
        generalize hz' : ({ z with ss := z.ss ++ [⟨m.jb, m.ep, m.st, 2, 0, []⟩] } : Z) = z' at e2 ⊢
        have e3 : hasS z' m = true := by unfold hasS; rw [e2]
        have e4 : phS z' m = 2 := by unfold phS; rw [e2]
        have e5 : abortA z' m = A0 := by
          unfold abortA; rw [if_neg (show ¬ phB z' m 0 = true from by unfold phB; rw [e4]; simp), if_neg (by rw [e3]; simp)]
        rw [e5]
        exact ⟨rfl, rfl, rfl, rfl, (fun h => by cases h), (fun h => by cases h)⟩
  by_cases k7 : m.kd = 7
  · have hq : decideM id z m f = ({ A0 with can := phB z m 1 }, 0) := by unfold decideM; rw [if_neg hc, if_neg k0, if_neg k2, if_neg k4, if_neg k5, if_pos k7]
    rw [hq] at hh; cases hh
  by_cases k8 : m.kd = 8
  · have hq : ∀ z', decideM id z' m f = (finishA id z' m f, 0) := fun z' => by unfold decideM; rw [if_neg hc, if_neg k0, if_neg k2, if_neg k4, if_neg k5, if_neg k7, if_pos k8]
    have key : ∀ z', hasJ z' m = true → phJ z' m = 2 → ∀ a, TW m a (finishA id z' m f, 0) := fun z' h1 h2 a => by
      have : finishA id z' m f = anM id m A0 9 0 := by unfold finishA; rw [if_pos (.inl ⟨h1, h2⟩)]
      rw [this]
      exact ⟨rfl, rfl, rfl, rfl, fun _ => rfl, fun _ h => absurd k8 h⟩
    rw [hq] at hh ha ⊢
    rw [hq]
    revert hh ha
    generalize hX : finishA id z m f = X
    unfold finishA at hX
    revert hX
    repeat' split
    all_goals (rintro rfl; first | (intro h; exact Bool.noConfusion h) | skip)
    · rename_i a1 a2
      intro _ ha
      have b2 : nwM z m = false := by cases hx : nwM z m; rfl; exact absurd (.inr ⟨a2, hx⟩) a1
      have e1 := (okR_ap ha).2
      rw [show (anM id m (wrM m 7 0) 9 0).rc = (wrM m 7 0).rc from rfl] at e1 ⊢
      rw [do_7 rfl, void_0 (newM_f a2 b2)] at e1
      rw [e1]
      have e2 := findM_app (ph := 2) (d := z.dr) a2
      exact key _ (by unfold hasJ; exact congrArg Prod.snd e2) (by unfold phJ; exact congrArg (fun q => q.1.ph) e2) _
    · rename_i a1 a2 a3
      intro _ ha
      have b1 : hasJ z m = true := by simpa using a2
      have b2 := jx_pos b1
      have b3 : ¬ phJ z m = 2 := fun hx => a1 (.inl ⟨b1, hx⟩)
      have b4 : aliveM z m.jb m.ep = false := by cases hx : aliveM z m.jb m.ep; rfl; exact absurd (.inl hx) a3
      have hix : jIx z m.jb m.ep = (((jIx z m.jb m.ep).toNat : Nat) : Int) := by omega
      have e1 := (okR_ap ha).2
      rw [show (anM id m (wrM m 6 f.cd) 9 (mn1 f.cd)).rc = (wrM m 6 f.cd).rc from rfl] at e1 ⊢
      rw [do_6 rfl, epilog_0 (i := (jIx z m.jb m.ep).toNat) hix (by rw [← b2.2]; exact b3) b4] at e1
      rw [e1]
      have e2 := findM_set (ph := 2) (d := z.dr || decide ((wrM m 6 f.cd).rc.ar ≠ 0)) hix
      exact key _ (by unfold hasJ; exact congrArg Prod.snd e2) (by unfold phJ; exact congrArg (fun q => q.1.ph) e2) _
  · have hq : decideM id z m f = (A0, 5) := by unfold decideM; rw [if_neg hc, if_neg k0, if_neg k2, if_neg k4, if_neg k5, if_neg k7, if_neg k8]
    rw [hq] at h0; cases h0
theorem sta_has {id : Int} {z : Z} {m : M} {f : Fc} : (decideM id z m f).1.has = false → (decideM id z m f).1.sta = false ∧ (decideM id z m f).1.kil = false := by
  unfold decideM prologA launchA releaseA abortA finishA
  repeat' split
  all_goals first | (intro _; exact ⟨rfl, rfl⟩) | (intro h; exact Bool.noConfusion h)
theorem twice_no {id : Int} {z : Z} {m : M} {f : Fc} (h0 : (decideM id z m f).2 = 0) (hh : (decideM id z m f).1.has = false) : TW m (decideM id z m f).1 (decideM id z m f) :=
  ⟨h0, hh, (sta_has hh).1, (sta_has hh).2, fun h => h, fun _ _ => rfl⟩
theorem few_next {l : List R} {r : R} (h : l.length ≤ 40) (hl : ∀ r ∈ l, r.ls.length ≤ 100000) (hr : r.ls.length ≤ 100000) : few (applyM (foldM Z0 l).1 r).1 := ((foldN fewN0 hl).next hr).few (by omega)
set_option maxRecDepth 100000 in
set_option maxHeartbeats 16000000 in
theorem twice_law {W : World} {F : Snap} {cs : List Res} (w : World) {AJ AS : Option Addr} {cj cS : Nat} {z : Z} {m : M} {Ap : Option Addr} {cp : Nat} {f : Fc} {A : Option Addr} {cap : Nat} {l : List R} {id : Int} (h : St W F cs w) (hRl : RdS KR F A l) (hlm : l.length ≤ 9223372036854775807) (hf : RdS (Kd.one Vi) F Ap f.ps) (hfm : f.ps.length ≤ 9223372036854775807) : Calls Try.prog 6 #[.slice A l.length cap, .agg #[Vi id, .slice AJ z.js.length cj, .slice AS z.ss.length cS, .bool z.dr, Vi m.kd, Vi m.fr, Vi m.to, Vi m.jb, Vi m.ep, Vi m.st, Vi m.ar, .string m.tx, Vi f.cr, .slice Ap f.ps.length cp, Vi f.cd, .bool f.bz]] w fun e w' => e = .returned (.bool true) ∧ St W F cs w'  := by
  refine enter (P := Try.prog) (args := [.slice A l.length cap, .agg #[Vi id, .slice AJ z.js.length cj, .slice AS z.ss.length cS, .bool z.dr, Vi m.kd, Vi m.fr, Vi m.to, Vi m.jb, Vi m.ep, Vi m.st, Vi m.ar, .string m.tx, Vi f.cr, .slice Ap f.ps.length cp, Vi f.cd, .bool f.bz]]) Try.func6 rfl rfl rfl ?_
  have hleF := Le.refl F
  refine WC.seq (WC.reg ?_)
  refine WL.box rfl h rfl ?_
  intro b3 w1 h1
  refine WL.v (Runs.assign rfl) rfl ?_
  refine WL.nil (WN.thn (WC.seq (WC.seq ?_)))
  rcases two (¬ 40 < l.length) (¬ 40 < f.ps.length) with q0 | ⟨q0, q1⟩ | ⟨q0, q1⟩
  · skip
    refine WC.reg ?_
    refine WL.v (Runs.move rfl) rfl ?_
    refine WL.v (Runs.llen Try.underlying59 rfl rfl) rfl ?_
    refine WL.v (Runs.boolT (c := true) (Runs.gtr rfl rfl) (by rw [decide_eq_true_eq]; omega)) rfl ?_
    refine WL.v (Runs.move rfl) rfl ?_
    refine WL.goff rfl rfl rfl rfl ?_
    refine WL.goff rfl rfl rfl rfl ?_
    refine WL.goff rfl rfl rfl rfl ?_
    refine WL.goff rfl rfl rfl rfl ?_
    refine WL.goff rfl rfl rfl rfl ?_
    refine WL.v (Runs.pick rfl rfl rfl) rfl ?_
    refine WL.nil (WN.thn ?_)
    refine WC.condT rfl (rfl) ?_
    refine WC.seq (WC.reg ?_)
    refine WL.call can10 rfl rfl (live_c _ h1) ?_
    rintro _ w2 ⟨G24, hG24, rfl, h2⟩
    refine ⟨_, rfl, ?_⟩
    replace hleF := Le.trans hleF hG24
    replace hf := hf.mono hG24
    refine WL.v (Runs.assign rfl) rfl ?_
    refine WL.nil (WN.thn (WC.ret ?_))
    exact ret1 rfl rfl ⟨rfl, ((h2.drop 0)).weak hleF⟩
  · skip
    refine WC.reg ?_
    refine WL.v (Runs.move rfl) rfl ?_
    refine WL.v (Runs.llen Try.underlying59 rfl rfl) rfl ?_
    refine WL.v (Runs.boolT (c := false) (Runs.gtr rfl rfl) (by rw [decide_eq_false_iff_not]; omega)) rfl ?_
    refine WL.v (Runs.move rfl) rfl ?_
    refine WL.gon rfl rfl rfl ?_
    refine WL.v (Runs.fld fld33_3 rfl) rfl ?_
    refine WL.gon rfl rfl rfl ?_
    refine WL.v (Runs.fld fld31_1 rfl) rfl ?_
    refine WL.gon rfl rfl rfl ?_
    refine WL.v (Runs.load1 Try.underlying29 rfl rfl (h1.ocell (i := 0) rfl rfl)) rfl ?_
    refine WL.gon rfl rfl rfl ?_
    refine WL.v (Runs.llen Try.underlying29 rfl rfl) rfl ?_
    refine WL.gon rfl rfl rfl ?_
    refine WL.v (Runs.boolT (c := true) (Runs.gtr rfl rfl) (by rw [decide_eq_true_eq]; omega)) rfl ?_
    refine WL.v (Runs.pick rfl rfl rfl) rfl ?_
    refine WL.nil (WN.thn ?_)
    refine WC.condT rfl (rfl) ?_
    refine WC.seq (WC.reg ?_)
    refine WL.call can10 rfl rfl (live_c _ h1) ?_
    rintro _ w3 ⟨G24, hG24, rfl, h3⟩
    refine ⟨_, rfl, ?_⟩
    replace hleF := Le.trans hleF hG24
    replace hf := hf.mono hG24
    refine WL.v (Runs.assign rfl) rfl ?_
    refine WL.nil (WN.thn (WC.ret ?_))
    exact ret1 rfl rfl ⟨rfl, ((h3.drop 0)).weak hleF⟩
  · skip
    refine WC.reg ?_
    refine WL.v (Runs.move rfl) rfl ?_
    refine WL.v (Runs.llen Try.underlying59 rfl rfl) rfl ?_
    refine WL.v (Runs.boolT (c := false) (Runs.gtr rfl rfl) (by rw [decide_eq_false_iff_not]; omega)) rfl ?_
    refine WL.v (Runs.move rfl) rfl ?_
    refine WL.gon rfl rfl rfl ?_
    refine WL.v (Runs.fld fld33_3 rfl) rfl ?_
    refine WL.gon rfl rfl rfl ?_
    refine WL.v (Runs.fld fld31_1 rfl) rfl ?_
    refine WL.gon rfl rfl rfl ?_
    refine WL.v (Runs.load1 Try.underlying29 rfl rfl (h1.ocell (i := 0) rfl rfl)) rfl ?_
    refine WL.gon rfl rfl rfl ?_
    refine WL.v (Runs.llen Try.underlying29 rfl rfl) rfl ?_
    refine WL.gon rfl rfl rfl ?_
    refine WL.v (Runs.boolT (c := false) (Runs.gtr rfl rfl) (by rw [decide_eq_false_iff_not]; omega)) rfl ?_
    refine WL.v (Runs.pick rfl rfl rfl) rfl ?_
    refine WL.nil (WN.thn ?_)
    refine WC.condF rfl (rfl) ?_
    refine WC.skip (WN.thn (WC.seq (WC.seq (WC.reg ?_))))
    refine WL.v (Runs.assign rfl) rfl ?_
    refine WL.nil (WN.thn (WC.block ?_))
    refine WC.loop (σ := Nat) (fun q_ => [(0, .slice A l.length cap), (3, .pointer (some ⟨b3, 0, none⟩)), (5, .int .i64 (q_ : Int))]) (fun q_ w => q_ ≤ l.length ∧ (∀ j, j < q_ → (l.getD j R0).ls.length ≤ 40) ∧ St W F ([(b3, .cells #[Vi id, .slice AJ z.js.length cj, .slice AS z.ss.length cS, .bool z.dr, Vi m.kd, Vi m.fr, Vi m.to, Vi m.jb, Vi m.ep, Vi m.st, Vi m.ar, .string m.tx, Vi f.cr, .slice Ap f.ps.length cp, Vi f.cd, .bool f.bz] 33 (0, 0))] :: cs) w) (fun q_ => l.length - q_) (0) (by repeat (first | exact trivial | refine ⟨rfl, ?_⟩)) (⟨Nat.zero_le _, fun j hj => absurd hj (Nat.not_lt_zero _), h1⟩) ?_
    rintro i w4 ⟨hi, hall, hL⟩
    try dsimp only at hi hall hL
    refine WC.sub (s := [(0, .slice A l.length cap), (3, .pointer (some ⟨b3, 0, none⟩)), (5, .int .i64 (i : Int))]) (by repeat (first | exact trivial | refine ⟨rfl, ?_⟩)) ?_
    refine WC.seq (WC.seq (WC.reg ?_))
    refine WL.v (Runs.move rfl) rfl ?_
    refine WL.v (Runs.move rfl) rfl ?_
    refine WL.v (Runs.llen Try.underlying59 rfl rfl) rfl ?_
    refine WL.v (Runs.lss rfl rfl) rfl ?_
    refine WL.nil (WN.thn ?_)
    refine WC.cond rfl (fun c5 => ?_) (fun c5 => ?_)
    · try simp only [dt, df, nt, nf, ba, il, ie] at c5
      first
      | (exfalso; omega)
      | skip
        refine WC.skip (WN.thn (WC.seq (WC.block (WC.seq ?_))))
        have hi2 : i < l.length := by omega
        obtain ⟨ad, c, rfl, ⟨A1, cap1, rfl, hps⟩, hcell⟩ := hRl.atD R0 hi2
        refine WC.reg ?_
        refine WL.v (Runs.move rfl) rfl ?_
        refine WL.v (Runs.move rfl) rfl ?_
        refine WL.v (Runs.lidxK Try.underlying59 inf37 rfl rfl (n := i) rfl hi2) rfl ?_
        refine WL.v (Runs.fld fld37_5 rfl) rfl ?_
        refine WL.v (Runs.fldKF (n := i) hL hcell Try.underlying29 rfl rfl rfl) rfl ?_
        refine WL.v (Runs.llen Try.underlying29 rfl rfl) rfl ?_
        refine WL.v (Runs.gtr rfl rfl) rfl ?_
        refine WL.nil (WN.thn ?_)
        refine WC.cond rfl (fun c6 => ?_) (fun c6 => ?_)
        · try simp only [dt, df, nt, nf, ba, il, ie] at c6
          first
          | (exfalso; omega)
          | skip
            refine WC.seq (WC.reg ?_)
            refine WL.call can10 rfl rfl (live_c _ hL) ?_
            rintro _ w7 ⟨G38, hG38, rfl, h7⟩
            refine ⟨_, rfl, ?_⟩
            replace hleF := Le.trans hleF hG38
            replace hf := hf.mono hG38
            refine WL.v (Runs.assign rfl) rfl ?_
            refine WL.nil (WN.thn (WC.ret ?_))
            exact ret1 rfl rfl ⟨rfl, ((h7.drop 0)).weak hleF⟩
        · try simp only [dt, df, nt, nf, ba, il, ie] at c6
          first
          | (exfalso; omega)
          | skip
            refine WC.skip (WN.blk (WN.thn (WC.reg ?_)))
            refine WL.v (Runs.move rfl) rfl ?_
            refine WL.v (Runs.addn rfl rfl (by omega)) rfl ?_
            refine WL.v (Runs.assign rfl) rfl ?_
            refine WL.nil ?_
            exact WN.again (i + 1) (by omega) ⟨rfl, rfl, rfl, trivial⟩ ⟨by omega, fun j hj => (by
              by_cases e : j = i
              · subst e; omega
              · exact hall j (by omega)), hL⟩
    · try simp only [dt, df, nt, nf, ba, il, ie] at c5
      first
      | (exfalso; omega)
      | skip
        refine WC.exit (WX.thn (WX.cut (WX.hit (WN.thn (WC.seq ?_)))))
        have hll := fold_few (l := l) (by omega) (fun j hj => hall j (by omega))
        refine WC.reg ?_
        refine WL.v (Runs.move rfl) rfl ?_
        refine WL.call can24 rfl rfl (fold_c _ (by omega) hll.2 hRl hL) ?_
        rintro _ w8 ⟨G41, AJ41, AS41, cj41, cS41, hG41, rfl, hZ41, h8⟩
        refine ⟨_, rfl, ?_⟩
        replace hleF := Le.trans hleF hG41
        replace hf := hf.mono hG41
        have hz := hll.1
        have hfn : f.ps.length ≤ 100000 := by omega
        refine WL.v (Runs.move rfl) rfl ?_
        refine WL.v (Runs.extract rfl rfl) rfl ?_
        refine WL.v (Runs.extract rfl rfl) rfl ?_
        refine WL.alloc' rfl h8 inf45 ?_
        intro b6 w9 h9
        refine WL.storeAll h9 0 rfl rfl rfl inf45 rfl rfl rfl (Free.zero _) ?_
        intro  w10 h10
        try simp only [lz, ls, ez, es'] at h10
        refine WL.v (Runs.assign rfl) rfl ?_
        refine WL.nil (WN.thn (WC.seq ?_))
        refine WC.cutT (σ := Nat × Snap × Option Addr × Nat) (fun q_ => [(3, .pointer (some ⟨b3, 0, none⟩)), (6, .pointer (some ⟨b6, 0, none⟩)), (8, .pointer (some ⟨q_.1, 0, none⟩)), (9, Vi (decideM id (foldM Z0 l).1 m f).2)]) (fun q_ w => Le G41 q_.2.1 ∧ RdS (Kd.one Vi) q_.2.1 q_.2.2.1 (decideM id (foldM Z0 l).1 m f).1.rc.ls ∧ St W q_.2.1 ([(q_.1, .cells (acv q_.2.2.1 q_.2.2.2 (decideM id (foldM Z0 l).1 m f).1) 39 (0, 0))] :: [(b6, .cells #[.slice AJ41 (foldM Z0 l).1.js.length cj41, .slice AS41 (foldM Z0 l).1.ss.length cS41, .bool (foldM Z0 l).1.dr] 45 (0, 0))] :: [(b3, .cells #[Vi id, .slice AJ z.js.length cj, .slice AS z.ss.length cS, .bool z.dr, Vi m.kd, Vi m.fr, Vi m.to, Vi m.jb, Vi m.ep, Vi m.st, Vi m.ar, .string m.tx, Vi f.cr, .slice Ap f.ps.length cp, Vi f.cd, .bool f.bz] 33 (0, 0))] :: cs) w) ?_ ?_
        · skip
          refine WC.eregK h10 h10 (fun s_ => ([13] : List Nat).any (Nat.beq s_)) mixed (by kernel_rfl) (fun hx => ?_)
          intro w11 h11
          refine WE.p0 hx 0 (by rfl) (fun w_ => Runs.fld fld33_0 rfl) rfl ?_
          refine WE.p0 hx 3 (by rfl) (fun w_ => Runs.fld fld33_2 rfl) rfl ?_
          refine WE.p0 hx 5 (by rfl) (fun w_ => Runs.fld fld33_3 rfl) rfl ?_
          refine WE.v0 12 hx 1 (by rfl) (fun w_ hE_ => Runs.load1 Try.underlying3 rfl rfl (hE_.ocell (i := 1) rfl rfl)) rfl ?_
          refine WE.v0 12 hx 2 (by rfl) (fun w_ hE_ => Runs.loadAll hE_ 0 rfl Try.underlying45 rfl inf45 rfl rfl) rfl ?_
          refine WE.v0 12 hx 4 (by rfl) (fun w_ hE_ => Runs.loadPart (vs := #[Vi m.kd, Vi m.fr, Vi m.to, Vi m.jb, Vi m.ep, Vi m.st, Vi m.ar, .string m.tx]) hE_ 1 rfl Try.underlying27 rfl inf27 rfl (by kernel_rfl) rfl) rfl ?_
          refine WE.v0 12 hx 6 (by rfl) (fun w_ hE_ => Runs.loadPart (vs := #[Vi f.cr, .slice Ap f.ps.length cp, Vi f.cd, .bool f.bz]) hE_ 1 rfl Try.underlying31 rfl inf31 rfl (by kernel_rfl) rfl) rfl ?_
          refine WE.op2 (.inr h11) (i := 7) (j := 12) (by rfl) (by rfl) (by kernel_rfl) ?_ ?_
          · skip
            refine WL.call can13 rfl rfl (facts_c _ h11) ?_
            rintro _ w12 ⟨rfl, h12⟩
            refine ⟨_, rfl, ?_⟩
            refine WL.nil (WE.next ?_)
            refine WE.op2 (.inr h12) (i := 8) (j := 12) (by rfl) (by rfl) (by kernel_rfl) ?_ ?_
            · skip
              refine WL.call can11 rfl rfl (decide_c (m := m) _ id hz hZ41 hf hfn h12) ?_
              rintro _ w13 ⟨G53, A53, c53, hG53, rfl, hrd53, h13⟩
              refine ⟨_, rfl, ?_⟩
              replace hleF := Le.trans hleF hG53
              replace hf := hf.mono hG53
              replace hZ41 := hZ41.mono hG53
              refine WL.nil (WE.next ?_)
              refine WE.p0 hx 9 (by rfl) (fun w_ => Runs.move rfl) rfl ?_
              refine WE.p0 hx 10 (by rfl) (fun w_ => Runs.extract rfl rfl) rfl ?_
              refine WE.p0 hx 11 (by rfl) (fun w_ => Runs.extract rfl rfl) rfl ?_
              refine WE.op (.inr (h13.weak hG53)) (i := 12) (by rfl) (by kernel_rfl) ?_
              refine WL.alloc' rfl h13 inf39 ?_
              intro b8 w14 h14
              refine WL.nil (WE.next ?_)
              refine WE.op (.inr ((h14.weak hG53).drop 0)) (i := 13) (by rfl) (by kernel_rfl) ?_
              refine WL.storeAll h14 0 rfl rfl rfl inf39 rfl rfl rfl (Free.zero _) ?_
              intro  w15 h15
              try simp only [lz, ls, ez, es'] at h15
              refine WL.nil (WE.next ?_)
              refine WE.p0 hx 14 (by rfl) (fun w_ => Runs.assign rfl) rfl ?_
              refine WE.fin (.inl ⟨13, rfl, by kernel_rfl⟩) (by kernel_rfl) ?_
              exact WN.at_ (⟨b8, _, A53, c53⟩ : Nat × Snap × Option Addr × Nat) (by repeat (first | exact trivial | refine ⟨rfl, ?_⟩)) ⟨hG53, hrd53, h15⟩
            · skip
              refine WL.alloc' rfl h12 inf39 ?_
              intro b8 w16 h16
              refine WL.nil (WE.next ?_)
              refine WE.op (.inr (h16.drop 0)) (i := 8) (by rfl) (by kernel_rfl) ?_
              refine WL.call can11 rfl rfl (decide_c (m := m) _ id hz hZ41 hf hfn h16) ?_
              rintro _ w17 ⟨G53, A53, c53, hG53, rfl, hrd53, h17⟩
              refine ⟨_, rfl, ?_⟩
              replace hleF := Le.trans hleF hG53
              replace hf := hf.mono hG53
              replace hZ41 := hZ41.mono hG53
              refine WL.nil (WE.next ?_)
              refine WE.p0 hx 9 (by rfl) (fun w_ => Runs.move rfl) rfl ?_
              refine WE.p0 hx 10 (by rfl) (fun w_ => Runs.extract rfl rfl) rfl ?_
              refine WE.p0 hx 11 (by rfl) (fun w_ => Runs.extract rfl rfl) rfl ?_
              refine WE.op (.inr ((h17.weak hG53).drop 0)) (i := 13) (by rfl) (by kernel_rfl) ?_
              refine WL.storeAll h17 0 rfl rfl rfl inf39 rfl rfl rfl (Free.zero _) ?_
              intro  w18 h18
              try simp only [lz, ls, ez, es'] at h18
              refine WL.nil (WE.next ?_)
              refine WE.p0 hx 14 (by rfl) (fun w_ => Runs.assign rfl) rfl ?_
              refine WE.fin (.inl ⟨13, rfl, by kernel_rfl⟩) (by kernel_rfl) ?_
              exact WN.at_ (⟨b8, _, A53, c53⟩ : Nat × Snap × Option Addr × Nat) (by repeat (first | exact trivial | refine ⟨rfl, ?_⟩)) ⟨hG53, hrd53, h18⟩
          · skip
            refine WL.alloc' rfl h11 inf39 ?_
            intro b8 w19 h19
            refine WL.nil (WE.next ?_)
            refine WE.op (.inr (h19.drop 0)) (i := 7) (by rfl) (by kernel_rfl) ?_
            refine WL.call can13 rfl rfl (facts_c _ h19) ?_
            rintro _ w20 ⟨rfl, h20⟩
            refine ⟨_, rfl, ?_⟩
            refine WL.nil (WE.next ?_)
            refine WE.op (.inr (h20.drop 0)) (i := 8) (by rfl) (by kernel_rfl) ?_
            refine WL.call can11 rfl rfl (decide_c (m := m) _ id hz hZ41 hf hfn h20) ?_
            rintro _ w21 ⟨G53, A53, c53, hG53, rfl, hrd53, h21⟩
            refine ⟨_, rfl, ?_⟩
            replace hleF := Le.trans hleF hG53
            replace hf := hf.mono hG53
            replace hZ41 := hZ41.mono hG53
            refine WL.nil (WE.next ?_)
            refine WE.p0 hx 9 (by rfl) (fun w_ => Runs.move rfl) rfl ?_
            refine WE.p0 hx 10 (by rfl) (fun w_ => Runs.extract rfl rfl) rfl ?_
            refine WE.p0 hx 11 (by rfl) (fun w_ => Runs.extract rfl rfl) rfl ?_
            refine WE.op (.inr ((h21.weak hG53).drop 0)) (i := 13) (by rfl) (by kernel_rfl) ?_
            refine WL.storeAll h21 0 rfl rfl rfl inf39 rfl rfl rfl (Free.zero _) ?_
            intro  w22 h22
            try simp only [lz, ls, ez, es'] at h22
            refine WL.nil (WE.next ?_)
            refine WE.p0 hx 14 (by rfl) (fun w_ => Runs.assign rfl) rfl ?_
            refine WE.fin (.inl ⟨13, rfl, by kernel_rfl⟩) (by kernel_rfl) ?_
            exact WN.at_ (⟨b8, _, A53, c53⟩ : Nat × Snap × Option Addr × Nat) (by repeat (first | exact trivial | refine ⟨rfl, ?_⟩)) ⟨hG53, hrd53, h22⟩
        · rintro ⟨b8, G1, A53, c53⟩ w23 ⟨hleG1, hrd53, hL⟩
          dsimp only at hleG1 hrd53 hL
          replace hleF := Le.trans hleF hleG1
          replace hf := hf.mono hleG1
          replace hZ41 := hZ41.mono hleG1
          refine WC.seq (WC.seq (WC.reg ?_))
          refine WL.v (Runs.move rfl) rfl ?_
          refine WL.v (Runs.neq rfl rfl) rfl ?_
          refine WL.nil (WN.thn ?_)
          refine WC.cond rfl (fun c24 => ?_) (fun c24 => ?_)
          · try simp only [dt, df, nt, nf, ba, il, ie] at c24
            first
            | (exfalso; omega)
            | skip
              refine WC.seq (WC.reg ?_)
              refine WL.call can10 rfl rfl (live_c _ hL) ?_
              rintro _ w25 ⟨G58, hG58, rfl, h25⟩
              refine ⟨_, rfl, ?_⟩
              replace hleF := Le.trans hleF hG58
              replace hf := hf.mono hG58
              replace hZ41 := hZ41.mono hG58
              replace hrd53 := hrd53.mono hG58
              refine WL.v (Runs.assign rfl) rfl ?_
              refine WL.nil (WN.thn (WC.ret ?_))
              exact ret1 rfl rfl ⟨rfl, ((((h25.drop 0).drop 0).drop 0)).weak hleF⟩
          · try simp only [dt, df, nt, nf, ba, il, ie] at c24
            first
            | (exfalso; omega)
            | skip
              refine WC.skip (WN.thn (WC.seq (WC.seq ?_)))
              have he0 : (decideM id (foldM Z0 l).1 m f).2 = 0 := by simpa using c24
              refine WC.reg ?_
              refine WL.v (Runs.fld fld39_0 rfl) rfl ?_
              refine WL.v (Runs.load1 Try.underlying4 rfl rfl (hL.ocell (i := 0) rfl rfl)) rfl ?_
              refine WL.nil (WN.thn ?_)
              refine WC.cond rfl (fun c26 => ?_) (fun c26 => ?_)
              · try simp only [dt, df, nt, nf, ba, il, ie] at c26
                first
                | (exfalso; omega)
                | skip
                  refine WC.seq (WC.reg ?_)
                  refine WL.v (Runs.loadAll hL 1 rfl Try.underlying45 rfl inf45 rfl rfl) rfl ?_
                  refine WL.v (Runs.fld fld39_1 rfl) rfl ?_
                  refine WL.v (Runs.loadPart (vs := #[Vi (decideM id (foldM Z0 l).1 m f).1.rc.kd, Vi (decideM id (foldM Z0 l).1 m f).1.rc.jb, Vi (decideM id (foldM Z0 l).1 m f).1.rc.ep, Vi (decideM id (foldM Z0 l).1 m f).1.rc.st, Vi (decideM id (foldM Z0 l).1 m f).1.rc.ar, .slice A53 (decideM id (foldM Z0 l).1 m f).1.rc.ls.length c53]) hL 0 rfl Try.underlying37 rfl inf37 rfl (by kernel_rfl) rfl) rfl ?_
                  refine WL.call can23 rfl rfl (apply_c (r := (decideM id (foldM Z0 l).1 m f).1.rc) _ hrd53 (Nat.le_trans (decide_few2 (f := f)) hfn) hz hZ41 hL) ?_
                  rintro _ w27 ⟨G65, AJ65, AS65, cj65, cS65, hG65, rfl, hZ65, h27⟩
                  refine ⟨_, rfl, ?_⟩
                  replace hleF := Le.trans hleF hG65
                  replace hf := hf.mono hG65
                  replace hZ41 := hZ41.mono hG65
                  replace hrd53 := hrd53.mono hG65
                  refine WL.v (Runs.move rfl) rfl ?_
                  refine WL.v (Runs.extract rfl rfl) rfl ?_
                  refine WL.v (Runs.extract rfl rfl) rfl ?_
                  refine WL.alloc' rfl h27 inf45 ?_
                  intro b10 w28 h28
                  refine WL.storeAll h28 0 rfl rfl rfl inf45 rfl rfl rfl (Free.zero _) ?_
                  intro  w29 h29
                  try simp only [lz, ls, ez, es'] at h29
                  refine WL.v (Runs.assign rfl) rfl ?_
                  refine WL.nil (WN.thn (WC.seq (WC.seq (WC.reg ?_))))
                  refine WL.v (Runs.move rfl) rfl ?_
                  refine WL.v (Runs.neq rfl rfl) rfl ?_
                  refine WL.nil (WN.thn ?_)
                  refine WC.cond rfl (fun c30 => ?_) (fun c30 => ?_)
                  · try simp only [dt, df, nt, nf, ba, il, ie] at c30
                    first
                    | (exfalso; omega)
                    | skip
                      refine WC.seq (WC.reg ?_)
                      refine WL.call can10 rfl rfl (live_c _ h29) ?_
                      rintro _ w31 ⟨G70, hG70, rfl, h31⟩
                      refine ⟨_, rfl, ?_⟩
                      replace hleF := Le.trans hleF hG70
                      replace hf := hf.mono hG70
                      replace hZ41 := hZ41.mono hG70
                      replace hrd53 := hrd53.mono hG70
                      replace hZ65 := hZ65.mono hG70
                      refine WL.v (Runs.assign rfl) rfl ?_
                      refine WL.nil (WN.thn (WC.ret ?_))
                      exact ret1 rfl rfl ⟨rfl, (((((h31.drop 0).drop 0).drop 0).drop 0)).weak hleF⟩
                  · try simp only [dt, df, nt, nf, ba, il, ie] at c30
                    first
                    | (exfalso; omega)
                    | skip
                      refine WC.skip (WN.thn (WC.reg ?_))
                      refine WL.v (Runs.loadAll h29 0 rfl Try.underlying45 rfl inf45 rfl rfl) rfl ?_
                      refine WL.storeAll h29 2 rfl rfl rfl inf45 rfl rfl rfl (Free.zero _) ?_
                      intro  w32 h32
                      try simp only [lz, ls, ez, es'] at h32
                      refine WL.nil (WN.thn (WC.seq ?_))
                      refine WC.cutT (σ := Nat × Snap × Option Addr × Nat) (fun q_ => [(3, .pointer (some ⟨b3, 0, none⟩)), (8, .pointer (some ⟨b8, 0, none⟩)), (12, .pointer (some ⟨q_.1, 0, none⟩)), (13, Vi (decideM id (applyM (foldM Z0 l).1 (decideM id (foldM Z0 l).1 m f).1.rc).1 m f).2)]) (fun q_ w => Le G65 q_.2.1 ∧ RdS (Kd.one Vi) q_.2.1 q_.2.2.1 (decideM id (applyM (foldM Z0 l).1 (decideM id (foldM Z0 l).1 m f).1.rc).1 m f).1.rc.ls ∧ St W q_.2.1 ([(q_.1, .cells (acv q_.2.2.1 q_.2.2.2 (decideM id (applyM (foldM Z0 l).1 (decideM id (foldM Z0 l).1 m f).1.rc).1 m f).1) 39 (0, 0))] :: [(b8, .cells (acv A53 c53 (decideM id (foldM Z0 l).1 m f).1) 39 (0, 0))] :: [(b3, .cells #[Vi id, .slice AJ z.js.length cj, .slice AS z.ss.length cS, .bool z.dr, Vi m.kd, Vi m.fr, Vi m.to, Vi m.jb, Vi m.ep, Vi m.st, Vi m.ar, .string m.tx, Vi f.cr, .slice Ap f.ps.length cp, Vi f.cd, .bool f.bz] 33 (0, 0))] :: cs) w) ?_ ?_
                      · skip
                        refine WC.eregK h32 h32 (fun s_ => ([13] : List Nat).any (Nat.beq s_)) mixed (by kernel_rfl) (fun hx => ?_)
                        intro w33 h33
                        refine WE.p0 hx 0 (by rfl) (fun w_ => Runs.fld fld33_0 rfl) rfl ?_
                        refine WE.p0 hx 3 (by rfl) (fun w_ => Runs.fld fld33_2 rfl) rfl ?_
                        refine WE.p0 hx 5 (by rfl) (fun w_ => Runs.fld fld33_3 rfl) rfl ?_
                        refine WE.v0 12 hx 1 (by rfl) (fun w_ hE_ => Runs.load1 Try.underlying3 rfl rfl (hE_.ocell (i := 3) rfl rfl)) rfl ?_
                        refine WE.v0 12 hx 2 (by rfl) (fun w_ hE_ => Runs.loadAll hE_ 2 rfl Try.underlying45 rfl inf45 rfl rfl) rfl ?_
                        refine WE.v0 12 hx 4 (by rfl) (fun w_ hE_ => Runs.loadPart (vs := #[Vi m.kd, Vi m.fr, Vi m.to, Vi m.jb, Vi m.ep, Vi m.st, Vi m.ar, .string m.tx]) hE_ 3 rfl Try.underlying27 rfl inf27 rfl (by kernel_rfl) rfl) rfl ?_
                        refine WE.v0 12 hx 6 (by rfl) (fun w_ hE_ => Runs.loadPart (vs := #[Vi f.cr, .slice Ap f.ps.length cp, Vi f.cd, .bool f.bz]) hE_ 3 rfl Try.underlying31 rfl inf31 rfl (by kernel_rfl) rfl) rfl ?_
                        refine WE.op2 (.inr h33) (i := 7) (j := 12) (by rfl) (by rfl) (by kernel_rfl) ?_ ?_
                        · skip
                          refine WL.call can13 rfl rfl (facts_c _ h33) ?_
                          rintro _ w34 ⟨rfl, h34⟩
                          refine ⟨_, rfl, ?_⟩
                          refine WL.nil (WE.next ?_)
                          refine WE.op2 (.inr h34) (i := 8) (j := 12) (by rfl) (by rfl) (by kernel_rfl) ?_ ?_
                          · skip
                            refine WL.call can11 rfl rfl (decide_c (m := m) _ id (few_next (by omega) hll.2 (Nat.le_trans (decide_few2 (f := f)) hfn)) hZ65 hf hfn h34) ?_
                            rintro _ w35 ⟨G81, A81, c81, hG81, rfl, hrd81, h35⟩
                            refine ⟨_, rfl, ?_⟩
                            replace hleF := Le.trans hleF hG81
                            replace hf := hf.mono hG81
                            replace hZ41 := hZ41.mono hG81
                            replace hrd53 := hrd53.mono hG81
                            replace hZ65 := hZ65.mono hG81
                            refine WL.nil (WE.next ?_)
                            refine WE.p0 hx 9 (by rfl) (fun w_ => Runs.move rfl) rfl ?_
                            refine WE.p0 hx 10 (by rfl) (fun w_ => Runs.extract rfl rfl) rfl ?_
                            refine WE.p0 hx 11 (by rfl) (fun w_ => Runs.extract rfl rfl) rfl ?_
                            refine WE.op (.inr (h35.weak hG81)) (i := 12) (by rfl) (by kernel_rfl) ?_
                            refine WL.alloc' rfl h35 inf39 ?_
                            intro b12 w36 h36
                            refine WL.nil (WE.next ?_)
                            refine WE.op (.inr ((h36.weak hG81).drop 0)) (i := 13) (by rfl) (by kernel_rfl) ?_
                            refine WL.storeAll h36 0 rfl rfl rfl inf39 rfl rfl rfl (Free.zero _) ?_
                            intro  w37 h37
                            try simp only [lz, ls, ez, es'] at h37
                            refine WL.nil (WE.next ?_)
                            refine WE.p0 hx 14 (by rfl) (fun w_ => Runs.assign rfl) rfl ?_
                            refine WE.fin (.inl ⟨13, rfl, by kernel_rfl⟩) (by kernel_rfl) ?_
                            exact WN.at_ (⟨b12, _, A81, c81⟩ : Nat × Snap × Option Addr × Nat) (by repeat (first | exact trivial | refine ⟨rfl, ?_⟩)) ⟨hG81, hrd81, ((h37.drop 3).drop 1)⟩
                          · skip
                            refine WL.alloc' rfl h34 inf39 ?_
                            intro b12 w38 h38
                            refine WL.nil (WE.next ?_)
                            refine WE.op (.inr (h38.drop 0)) (i := 8) (by rfl) (by kernel_rfl) ?_
                            refine WL.call can11 rfl rfl (decide_c (m := m) _ id (few_next (by omega) hll.2 (Nat.le_trans (decide_few2 (f := f)) hfn)) hZ65 hf hfn h38) ?_
                            rintro _ w39 ⟨G81, A81, c81, hG81, rfl, hrd81, h39⟩
                            refine ⟨_, rfl, ?_⟩
                            replace hleF := Le.trans hleF hG81
                            replace hf := hf.mono hG81
                            replace hZ41 := hZ41.mono hG81
                            replace hrd53 := hrd53.mono hG81
                            replace hZ65 := hZ65.mono hG81
                            refine WL.nil (WE.next ?_)
                            refine WE.p0 hx 9 (by rfl) (fun w_ => Runs.move rfl) rfl ?_
                            refine WE.p0 hx 10 (by rfl) (fun w_ => Runs.extract rfl rfl) rfl ?_
                            refine WE.p0 hx 11 (by rfl) (fun w_ => Runs.extract rfl rfl) rfl ?_
                            refine WE.op (.inr ((h39.weak hG81).drop 0)) (i := 13) (by rfl) (by kernel_rfl) ?_
                            refine WL.storeAll h39 0 rfl rfl rfl inf39 rfl rfl rfl (Free.zero _) ?_
                            intro  w40 h40
                            try simp only [lz, ls, ez, es'] at h40
                            refine WL.nil (WE.next ?_)
                            refine WE.p0 hx 14 (by rfl) (fun w_ => Runs.assign rfl) rfl ?_
                            refine WE.fin (.inl ⟨13, rfl, by kernel_rfl⟩) (by kernel_rfl) ?_
                            exact WN.at_ (⟨b12, _, A81, c81⟩ : Nat × Snap × Option Addr × Nat) (by repeat (first | exact trivial | refine ⟨rfl, ?_⟩)) ⟨hG81, hrd81, ((h40.drop 3).drop 1)⟩
                        · skip
                          refine WL.alloc' rfl h33 inf39 ?_
                          intro b12 w41 h41
                          refine WL.nil (WE.next ?_)
                          refine WE.op (.inr (h41.drop 0)) (i := 7) (by rfl) (by kernel_rfl) ?_
                          refine WL.call can13 rfl rfl (facts_c _ h41) ?_
                          rintro _ w42 ⟨rfl, h42⟩
                          refine ⟨_, rfl, ?_⟩
                          refine WL.nil (WE.next ?_)
                          refine WE.op (.inr (h42.drop 0)) (i := 8) (by rfl) (by kernel_rfl) ?_
                          refine WL.call can11 rfl rfl (decide_c (m := m) _ id (few_next (by omega) hll.2 (Nat.le_trans (decide_few2 (f := f)) hfn)) hZ65 hf hfn h42) ?_
                          rintro _ w43 ⟨G81, A81, c81, hG81, rfl, hrd81, h43⟩
                          refine ⟨_, rfl, ?_⟩
                          replace hleF := Le.trans hleF hG81
                          replace hf := hf.mono hG81
                          replace hZ41 := hZ41.mono hG81
                          replace hrd53 := hrd53.mono hG81
                          replace hZ65 := hZ65.mono hG81
                          refine WL.nil (WE.next ?_)
                          refine WE.p0 hx 9 (by rfl) (fun w_ => Runs.move rfl) rfl ?_
                          refine WE.p0 hx 10 (by rfl) (fun w_ => Runs.extract rfl rfl) rfl ?_
                          refine WE.p0 hx 11 (by rfl) (fun w_ => Runs.extract rfl rfl) rfl ?_
                          refine WE.op (.inr ((h43.weak hG81).drop 0)) (i := 13) (by rfl) (by kernel_rfl) ?_
                          refine WL.storeAll h43 0 rfl rfl rfl inf39 rfl rfl rfl (Free.zero _) ?_
                          intro  w44 h44
                          try simp only [lz, ls, ez, es'] at h44
                          refine WL.nil (WE.next ?_)
                          refine WE.p0 hx 14 (by rfl) (fun w_ => Runs.assign rfl) rfl ?_
                          refine WE.fin (.inl ⟨13, rfl, by kernel_rfl⟩) (by kernel_rfl) ?_
                          exact WN.at_ (⟨b12, _, A81, c81⟩ : Nat × Snap × Option Addr × Nat) (by repeat (first | exact trivial | refine ⟨rfl, ?_⟩)) ⟨hG81, hrd81, ((h44.drop 3).drop 1)⟩
                      · rintro ⟨b12, G2, A81, c81⟩ w45 ⟨hleG2, hrd81, hL⟩
                        dsimp only at hleG2 hrd81 hL
                        replace hleF := Le.trans hleF hleG2
                        replace hf := hf.mono hleG2
                        replace hZ41 := hZ41.mono hleG2
                        replace hrd53 := hrd53.mono hleG2
                        replace hZ65 := hZ65.mono hleG2
                        refine WC.seq (WC.seq ?_)
                        have htw : TW m (decideM id (foldM Z0 l).1 m f).1 (decideM id (applyM (foldM Z0 l).1 (decideM id (foldM Z0 l).1 m f).1.rc).1 m f) := twice he0 c26 c30
                        obtain ⟨t1, t2, t3, t4, t5, t6⟩ := htw
                        
                        refine WC.reg ?_
                        refine WL.v (Runs.move rfl) rfl ?_
                        refine WL.v (Runs.boolT (c := false) (Runs.neq rfl rfl) (by rw [t1]; rfl)) rfl ?_
                        refine WL.v (Runs.move rfl) rfl ?_
                        refine WL.gon rfl rfl rfl ?_
                        refine WL.v (Runs.fld fld39_0 rfl) rfl ?_
                        refine WL.gon rfl rfl rfl ?_
                        refine WL.v (Runs.boolT (c := false) (Runs.load1 Try.underlying4 rfl rfl (hL.ocell (i := 0) rfl rfl)) t2) rfl ?_
                        refine WL.v (Runs.pick rfl rfl rfl) rfl ?_
                        refine WL.v (Runs.move rfl) rfl ?_
                        refine WL.gon rfl rfl rfl ?_
                        refine WL.v (Runs.fld fld39_4 rfl) rfl ?_
                        refine WL.gon rfl rfl rfl ?_
                        refine WL.v (Runs.boolT (c := false) (Runs.load1 Try.underlying4 rfl rfl (hL.ocell (i := 0) rfl rfl)) t3) rfl ?_
                        refine WL.v (Runs.pick rfl rfl rfl) rfl ?_
                        refine WL.v (Runs.move rfl) rfl ?_
                        refine WL.gon rfl rfl rfl ?_
                        refine WL.v (Runs.fld fld39_5 rfl) rfl ?_
                        refine WL.gon rfl rfl rfl ?_
                        refine WL.v (Runs.boolT (c := false) (Runs.load1 Try.underlying4 rfl rfl (hL.ocell (i := 0) rfl rfl)) t4) rfl ?_
                        refine WL.v (Runs.pick rfl rfl rfl) rfl ?_
                        refine WL.nil (WN.thn ?_)
                        refine WC.condF rfl (rfl) ?_
                        refine WC.skip (WN.thn (WC.seq (WC.seq ?_)))
                        rcases two ((decideM id (foldM Z0 l).1 m f).1.bk = true) (m.kd ≠ 8) with g0 | ⟨g0, g1⟩ | ⟨g0, g1⟩
                        · replace g0 := Bool.eq_false_iff.2 g0
                          refine WC.reg ?_
                          refine WL.v (Runs.fld fld39_2 rfl) rfl ?_
                          refine WL.v (Runs.boolT (c := false) (Runs.load1 Try.underlying4 rfl rfl (hL.ocell (i := 1) rfl rfl)) g0) rfl ?_
                          refine WL.v (Runs.move rfl) rfl ?_
                          refine WL.goff rfl rfl rfl rfl ?_
                          refine WL.goff rfl rfl rfl rfl ?_
                          refine WL.goff rfl rfl rfl rfl ?_
                          refine WL.goff rfl rfl rfl rfl ?_
                          refine WL.v (Runs.pick rfl rfl rfl) rfl ?_
                          refine WL.v (Runs.move rfl) rfl ?_
                          refine WL.goff rfl rfl rfl rfl ?_
                          refine WL.goff rfl rfl rfl rfl ?_
                          refine WL.goff rfl rfl rfl rfl ?_
                          refine WL.goff rfl rfl rfl rfl ?_
                          refine WL.goffU rfl rfl rfl ?_
                          refine WL.goffU rfl rfl rfl ?_
                          refine WL.goffU rfl rfl rfl ?_
                          refine WL.goffU rfl rfl rfl ?_
                          refine WL.goffU rfl rfl rfl ?_
                          refine WL.goff rfl rfl rfl rfl ?_
                          refine WL.v (Runs.pick rfl rfl rfl) rfl ?_
                          refine WL.nil (WN.thn ?_)
                          refine WC.condF rfl (rfl) ?_
                          refine WC.skip (WN.thn (WC.seq (WC.reg ?_)))
                          refine WL.v (Runs.fld fld39_2 rfl) rfl ?_
                          refine WL.v (Runs.boolT (c := false) (Runs.load1 Try.underlying4 rfl rfl (hL.ocell (i := 1) rfl rfl)) g0) rfl ?_
                          refine WL.v (Runs.not rfl) rfl ?_
                          refine WL.v (Runs.move rfl) rfl ?_
                          refine WL.goff rfl rfl rfl rfl ?_
                          refine WL.goff rfl rfl rfl rfl ?_
                          refine WL.v (Runs.pick rfl rfl rfl) rfl ?_
                          refine WL.v (Runs.move rfl) rfl ?_
                          refine WL.gon rfl rfl rfl ?_
                          refine WL.call can10 rfl rfl (live_c _ hL) ?_
                          rintro _ w46 ⟨G126, hG126, rfl, h46⟩
                          refine ⟨_, rfl, ?_⟩
                          replace hleF := Le.trans hleF hG126
                          replace hf := hf.mono hG126
                          replace hZ41 := hZ41.mono hG126
                          replace hrd53 := hrd53.mono hG126
                          replace hZ65 := hZ65.mono hG126
                          replace hrd81 := hrd81.mono hG126
                          refine WL.v (Runs.pick rfl rfl rfl) rfl ?_
                          refine WL.v (Runs.assign rfl) rfl ?_
                          refine WL.nil (WN.thn (WC.ret ?_))
                          exact ret1 rfl rfl ⟨rfl, ((((h46.drop 0).drop 0).drop 0)).weak hleF⟩
                        · skip
                          refine WC.reg ?_
                          refine WL.v (Runs.fld fld39_2 rfl) rfl ?_
                          refine WL.v (Runs.boolT (c := true) (Runs.load1 Try.underlying4 rfl rfl (hL.ocell (i := 1) rfl rfl)) g0) rfl ?_
                          refine WL.v (Runs.move rfl) rfl ?_
                          refine WL.gon rfl rfl rfl ?_
                          refine WL.v (Runs.fld fld33_2 rfl) rfl ?_
                          refine WL.gon rfl rfl rfl ?_
                          refine WL.v (Runs.fld fld27_0 rfl) rfl ?_
                          refine WL.gon rfl rfl rfl ?_
                          refine WL.v (Runs.load1 Try.underlying3 rfl rfl (hL.ocell (i := 2) rfl rfl)) rfl ?_
                          refine WL.gon rfl rfl rfl ?_
                          refine WL.v (Runs.boolT (c := false) (Runs.neq rfl rfl) (by rw [Classical.not_not.1 g1]; rfl)) rfl ?_
                          refine WL.v (Runs.pick rfl rfl rfl) rfl ?_
                          refine WL.v (Runs.move rfl) rfl ?_
                          refine WL.goff rfl rfl rfl rfl ?_
                          refine WL.goff rfl rfl rfl rfl ?_
                          refine WL.goff rfl rfl rfl rfl ?_
                          refine WL.goff rfl rfl rfl rfl ?_
                          refine WL.goffU rfl rfl rfl ?_
                          refine WL.goffU rfl rfl rfl ?_
                          refine WL.goffU rfl rfl rfl ?_
                          refine WL.goffU rfl rfl rfl ?_
                          refine WL.goffU rfl rfl rfl ?_
                          refine WL.goff rfl rfl rfl rfl ?_
                          refine WL.v (Runs.pick rfl rfl rfl) rfl ?_
                          refine WL.nil (WN.thn ?_)
                          refine WC.condF rfl (rfl) ?_
                          refine WC.skip (WN.thn (WC.seq (WC.reg ?_)))
                          refine WL.v (Runs.fld fld39_2 rfl) rfl ?_
                          refine WL.v (Runs.boolT (c := true) (Runs.load1 Try.underlying4 rfl rfl (hL.ocell (i := 1) rfl rfl)) g0) rfl ?_
                          refine WL.v (Runs.not rfl) rfl ?_
                          refine WL.v (Runs.move rfl) rfl ?_
                          refine WL.gon rfl rfl rfl ?_
                          refine WL.v (Runs.fld fld39_2 rfl) rfl ?_
                          refine WL.gon rfl rfl rfl ?_
                          refine WL.v (Runs.boolT (c := true) (Runs.load1 Try.underlying4 rfl rfl (hL.ocell (i := 0) rfl rfl)) (t5 g0)) rfl ?_
                          refine WL.v (Runs.pick rfl rfl rfl) rfl ?_
                          refine WL.v (Runs.move rfl) rfl ?_
                          refine WL.gon rfl rfl rfl ?_
                          refine WL.call can10 rfl rfl (live_c _ hL) ?_
                          rintro _ w47 ⟨G126, hG126, rfl, h47⟩
                          refine ⟨_, rfl, ?_⟩
                          replace hleF := Le.trans hleF hG126
                          replace hf := hf.mono hG126
                          replace hZ41 := hZ41.mono hG126
                          replace hrd53 := hrd53.mono hG126
                          replace hZ65 := hZ65.mono hG126
                          replace hrd81 := hrd81.mono hG126
                          refine WL.v (Runs.pick rfl rfl rfl) rfl ?_
                          refine WL.v (Runs.assign rfl) rfl ?_
                          refine WL.nil (WN.thn (WC.ret ?_))
                          exact ret1 rfl rfl ⟨rfl, ((((h47.drop 0).drop 0).drop 0)).weak hleF⟩
                        · skip
                          refine WC.reg ?_
                          refine WL.v (Runs.fld fld39_2 rfl) rfl ?_
                          refine WL.v (Runs.boolT (c := true) (Runs.load1 Try.underlying4 rfl rfl (hL.ocell (i := 1) rfl rfl)) g0) rfl ?_
                          refine WL.v (Runs.move rfl) rfl ?_
                          refine WL.gon rfl rfl rfl ?_
                          refine WL.v (Runs.fld fld33_2 rfl) rfl ?_
                          refine WL.gon rfl rfl rfl ?_
                          refine WL.v (Runs.fld fld27_0 rfl) rfl ?_
                          refine WL.gon rfl rfl rfl ?_
                          refine WL.v (Runs.load1 Try.underlying3 rfl rfl (hL.ocell (i := 2) rfl rfl)) rfl ?_
                          refine WL.gon rfl rfl rfl ?_
                          refine WL.v (Runs.boolT (c := true) (Runs.neq rfl rfl) (by rw [decide_eq_false g1]; rfl)) rfl ?_
                          refine WL.v (Runs.pick rfl rfl rfl) rfl ?_
                          refine WL.v (Runs.move rfl) rfl ?_
                          refine WL.gon rfl rfl rfl ?_
                          refine WL.v (Runs.fld fld39_2 rfl) rfl ?_
                          refine WL.gon rfl rfl rfl ?_
                          refine WL.v (Runs.boolT (c := true) (Runs.load1 Try.underlying4 rfl rfl (hL.ocell (i := 0) rfl rfl)) (t5 g0)) rfl ?_
                          refine WL.gon rfl rfl rfl ?_
                          refine WL.v (Runs.not rfl) rfl ?_
                          refine WL.gon rfl rfl rfl ?_
                          refine WL.v (Runs.move rfl) rfl ?_
                          refine WL.gon rfl rfl rfl ?_
                          refine WL.v (Runs.fld fld39_3 rfl) rfl ?_
                          refine WL.gon rfl rfl rfl ?_
                          refine WL.v (Runs.loadPart (vs := #[Vi (decideM id (foldM Z0 l).1 m f).1.rp.kd, Vi (decideM id (foldM Z0 l).1 m f).1.rp.fr, Vi (decideM id (foldM Z0 l).1 m f).1.rp.to, Vi (decideM id (foldM Z0 l).1 m f).1.rp.jb, Vi (decideM id (foldM Z0 l).1 m f).1.rp.ep, Vi (decideM id (foldM Z0 l).1 m f).1.rp.st, Vi (decideM id (foldM Z0 l).1 m f).1.rp.ar, .string (decideM id (foldM Z0 l).1 m f).1.rp.tx]) hL 1 rfl Try.underlying27 rfl inf27 rfl (by kernel_rfl) rfl) rfl ?_
                          refine WL.gon rfl rfl rfl ?_
                          refine WL.v (Runs.fld fld39_3 rfl) rfl ?_
                          refine WL.gon rfl rfl rfl ?_
                          refine WL.v (Runs.loadPart (vs := #[Vi (decideM id (applyM (foldM Z0 l).1 (decideM id (foldM Z0 l).1 m f).1.rc).1 m f).1.rp.kd, Vi (decideM id (applyM (foldM Z0 l).1 (decideM id (foldM Z0 l).1 m f).1.rc).1 m f).1.rp.fr, Vi (decideM id (applyM (foldM Z0 l).1 (decideM id (foldM Z0 l).1 m f).1.rc).1 m f).1.rp.to, Vi (decideM id (applyM (foldM Z0 l).1 (decideM id (foldM Z0 l).1 m f).1.rc).1 m f).1.rp.jb, Vi (decideM id (applyM (foldM Z0 l).1 (decideM id (foldM Z0 l).1 m f).1.rc).1 m f).1.rp.ep, Vi (decideM id (applyM (foldM Z0 l).1 (decideM id (foldM Z0 l).1 m f).1.rc).1 m f).1.rp.st, Vi (decideM id (applyM (foldM Z0 l).1 (decideM id (foldM Z0 l).1 m f).1.rc).1 m f).1.rp.ar, .string (decideM id (applyM (foldM Z0 l).1 (decideM id (foldM Z0 l).1 m f).1.rc).1 m f).1.rp.tx]) hL 0 rfl Try.underlying27 rfl inf27 rfl (by kernel_rfl) rfl) rfl ?_
                          refine WL.gon rfl rfl rfl ?_
                          refine WL.v (Runs.boolT (c := false) (Runs.aneq (by kernel_rfl) rfl rfl (eqMsg _ (decideM id (foldM Z0 l).1 m f).1.rp (decideM id (applyM (foldM Z0 l).1 (decideM id (foldM Z0 l).1 m f).1.rc).1 m f).1.rp)) (by rw [t6 g0 g1]; simp)) rfl ?_
                          refine WL.gon rfl rfl rfl ?_
                          refine WL.v (Runs.pick rfl rfl rfl) rfl ?_
                          refine WL.v (Runs.pick rfl rfl rfl) rfl ?_
                          refine WL.nil (WN.thn ?_)
                          refine WC.condF rfl (rfl) ?_
                          refine WC.skip (WN.thn (WC.seq (WC.reg ?_)))
                          refine WL.v (Runs.fld fld39_2 rfl) rfl ?_
                          refine WL.v (Runs.boolT (c := true) (Runs.load1 Try.underlying4 rfl rfl (hL.ocell (i := 1) rfl rfl)) g0) rfl ?_
                          refine WL.v (Runs.not rfl) rfl ?_
                          refine WL.v (Runs.move rfl) rfl ?_
                          refine WL.gon rfl rfl rfl ?_
                          refine WL.v (Runs.fld fld39_2 rfl) rfl ?_
                          refine WL.gon rfl rfl rfl ?_
                          refine WL.v (Runs.boolT (c := true) (Runs.load1 Try.underlying4 rfl rfl (hL.ocell (i := 0) rfl rfl)) (t5 g0)) rfl ?_
                          refine WL.v (Runs.pick rfl rfl rfl) rfl ?_
                          refine WL.v (Runs.move rfl) rfl ?_
                          refine WL.gon rfl rfl rfl ?_
                          refine WL.call can10 rfl rfl (live_c _ hL) ?_
                          rintro _ w48 ⟨G126, hG126, rfl, h48⟩
                          refine ⟨_, rfl, ?_⟩
                          replace hleF := Le.trans hleF hG126
                          replace hf := hf.mono hG126
                          replace hZ41 := hZ41.mono hG126
                          replace hrd53 := hrd53.mono hG126
                          replace hZ65 := hZ65.mono hG126
                          replace hrd81 := hrd81.mono hG126
                          refine WL.v (Runs.pick rfl rfl rfl) rfl ?_
                          refine WL.v (Runs.assign rfl) rfl ?_
                          refine WL.nil (WN.thn (WC.ret ?_))
                          exact ret1 rfl rfl ⟨rfl, ((((h48.drop 0).drop 0).drop 0)).weak hleF⟩
              · try simp only [dt, df, nt, nf, ba, il, ie] at c26
                first
                | (exfalso; omega)
                | skip
                  refine WC.skip (WN.thn (WC.seq ?_))
                  refine WC.cutT (σ := Nat × Snap × Option Addr × Nat) (fun q_ => [(3, .pointer (some ⟨b3, 0, none⟩)), (8, .pointer (some ⟨b8, 0, none⟩)), (12, .pointer (some ⟨q_.1, 0, none⟩)), (13, Vi (decideM id (foldM Z0 l).1 m f).2)]) (fun q_ w => Le G1 q_.2.1 ∧ RdS (Kd.one Vi) q_.2.1 q_.2.2.1 (decideM id (foldM Z0 l).1 m f).1.rc.ls ∧ St W q_.2.1 ([(q_.1, .cells (acv q_.2.2.1 q_.2.2.2 (decideM id (foldM Z0 l).1 m f).1) 39 (0, 0))] :: [(b8, .cells (acv A53 c53 (decideM id (foldM Z0 l).1 m f).1) 39 (0, 0))] :: [(b3, .cells #[Vi id, .slice AJ z.js.length cj, .slice AS z.ss.length cS, .bool z.dr, Vi m.kd, Vi m.fr, Vi m.to, Vi m.jb, Vi m.ep, Vi m.st, Vi m.ar, .string m.tx, Vi f.cr, .slice Ap f.ps.length cp, Vi f.cd, .bool f.bz] 33 (0, 0))] :: cs) w) ?_ ?_
                  · skip
                    refine WC.eregK hL hL (fun s_ => ([13] : List Nat).any (Nat.beq s_)) mixed (by kernel_rfl) (fun hx => ?_)
                    intro w49 h49
                    refine WE.p0 hx 0 (by rfl) (fun w_ => Runs.fld fld33_0 rfl) rfl ?_
                    refine WE.p0 hx 3 (by rfl) (fun w_ => Runs.fld fld33_2 rfl) rfl ?_
                    refine WE.p0 hx 5 (by rfl) (fun w_ => Runs.fld fld33_3 rfl) rfl ?_
                    refine WE.v0 12 hx 1 (by rfl) (fun w_ hE_ => Runs.load1 Try.underlying3 rfl rfl (hE_.ocell (i := 2) rfl rfl)) rfl ?_
                    refine WE.v0 12 hx 2 (by rfl) (fun w_ hE_ => Runs.loadAll hE_ 1 rfl Try.underlying45 rfl inf45 rfl rfl) rfl ?_
                    refine WE.v0 12 hx 4 (by rfl) (fun w_ hE_ => Runs.loadPart (vs := #[Vi m.kd, Vi m.fr, Vi m.to, Vi m.jb, Vi m.ep, Vi m.st, Vi m.ar, .string m.tx]) hE_ 2 rfl Try.underlying27 rfl inf27 rfl (by kernel_rfl) rfl) rfl ?_
                    refine WE.v0 12 hx 6 (by rfl) (fun w_ hE_ => Runs.loadPart (vs := #[Vi f.cr, .slice Ap f.ps.length cp, Vi f.cd, .bool f.bz]) hE_ 2 rfl Try.underlying31 rfl inf31 rfl (by kernel_rfl) rfl) rfl ?_
                    refine WE.op2 (.inr h49) (i := 7) (j := 12) (by rfl) (by rfl) (by kernel_rfl) ?_ ?_
                    · skip
                      refine WL.call can13 rfl rfl (facts_c _ h49) ?_
                      rintro _ w50 ⟨rfl, h50⟩
                      refine ⟨_, rfl, ?_⟩
                      refine WL.nil (WE.next ?_)
                      refine WE.op2 (.inr h50) (i := 8) (j := 12) (by rfl) (by rfl) (by kernel_rfl) ?_ ?_
                      · skip
                        refine WL.call can11 rfl rfl (decide_c (m := m) _ id hz hZ41 hf hfn h50) ?_
                        rintro _ w51 ⟨G81, A81, c81, hG81, rfl, hrd81, h51⟩
                        refine ⟨_, rfl, ?_⟩
                        replace hleF := Le.trans hleF hG81
                        replace hf := hf.mono hG81
                        replace hZ41 := hZ41.mono hG81
                        replace hrd53 := hrd53.mono hG81
                        refine WL.nil (WE.next ?_)
                        refine WE.p0 hx 9 (by rfl) (fun w_ => Runs.move rfl) rfl ?_
                        refine WE.p0 hx 10 (by rfl) (fun w_ => Runs.extract rfl rfl) rfl ?_
                        refine WE.p0 hx 11 (by rfl) (fun w_ => Runs.extract rfl rfl) rfl ?_
                        refine WE.op (.inr (h51.weak hG81)) (i := 12) (by rfl) (by kernel_rfl) ?_
                        refine WL.alloc' rfl h51 inf39 ?_
                        intro b12 w52 h52
                        refine WL.nil (WE.next ?_)
                        refine WE.op (.inr ((h52.weak hG81).drop 0)) (i := 13) (by rfl) (by kernel_rfl) ?_
                        refine WL.storeAll h52 0 rfl rfl rfl inf39 rfl rfl rfl (Free.zero _) ?_
                        intro  w53 h53
                        try simp only [lz, ls, ez, es'] at h53
                        refine WL.nil (WE.next ?_)
                        refine WE.p0 hx 14 (by rfl) (fun w_ => Runs.assign rfl) rfl ?_
                        refine WE.fin (.inl ⟨13, rfl, by kernel_rfl⟩) (by kernel_rfl) ?_
                        exact WN.at_ (⟨b12, _, A81, c81⟩ : Nat × Snap × Option Addr × Nat) (by repeat (first | exact trivial | refine ⟨rfl, ?_⟩)) ⟨hG81, hrd81, (h53.drop 2)⟩
                      · skip
                        refine WL.alloc' rfl h50 inf39 ?_
                        intro b12 w54 h54
                        refine WL.nil (WE.next ?_)
                        refine WE.op (.inr (h54.drop 0)) (i := 8) (by rfl) (by kernel_rfl) ?_
                        refine WL.call can11 rfl rfl (decide_c (m := m) _ id hz hZ41 hf hfn h54) ?_
                        rintro _ w55 ⟨G81, A81, c81, hG81, rfl, hrd81, h55⟩
                        refine ⟨_, rfl, ?_⟩
                        replace hleF := Le.trans hleF hG81
                        replace hf := hf.mono hG81
                        replace hZ41 := hZ41.mono hG81
                        replace hrd53 := hrd53.mono hG81
                        refine WL.nil (WE.next ?_)
                        refine WE.p0 hx 9 (by rfl) (fun w_ => Runs.move rfl) rfl ?_
                        refine WE.p0 hx 10 (by rfl) (fun w_ => Runs.extract rfl rfl) rfl ?_
                        refine WE.p0 hx 11 (by rfl) (fun w_ => Runs.extract rfl rfl) rfl ?_
                        refine WE.op (.inr ((h55.weak hG81).drop 0)) (i := 13) (by rfl) (by kernel_rfl) ?_
                        refine WL.storeAll h55 0 rfl rfl rfl inf39 rfl rfl rfl (Free.zero _) ?_
                        intro  w56 h56
                        try simp only [lz, ls, ez, es'] at h56
                        refine WL.nil (WE.next ?_)
                        refine WE.p0 hx 14 (by rfl) (fun w_ => Runs.assign rfl) rfl ?_
                        refine WE.fin (.inl ⟨13, rfl, by kernel_rfl⟩) (by kernel_rfl) ?_
                        exact WN.at_ (⟨b12, _, A81, c81⟩ : Nat × Snap × Option Addr × Nat) (by repeat (first | exact trivial | refine ⟨rfl, ?_⟩)) ⟨hG81, hrd81, (h56.drop 2)⟩
                    · skip
                      refine WL.alloc' rfl h49 inf39 ?_
                      intro b12 w57 h57
                      refine WL.nil (WE.next ?_)
                      refine WE.op (.inr (h57.drop 0)) (i := 7) (by rfl) (by kernel_rfl) ?_
                      refine WL.call can13 rfl rfl (facts_c _ h57) ?_
                      rintro _ w58 ⟨rfl, h58⟩
                      refine ⟨_, rfl, ?_⟩
                      refine WL.nil (WE.next ?_)
                      refine WE.op (.inr (h58.drop 0)) (i := 8) (by rfl) (by kernel_rfl) ?_
                      refine WL.call can11 rfl rfl (decide_c (m := m) _ id hz hZ41 hf hfn h58) ?_
                      rintro _ w59 ⟨G81, A81, c81, hG81, rfl, hrd81, h59⟩
                      refine ⟨_, rfl, ?_⟩
                      replace hleF := Le.trans hleF hG81
                      replace hf := hf.mono hG81
                      replace hZ41 := hZ41.mono hG81
                      replace hrd53 := hrd53.mono hG81
                      refine WL.nil (WE.next ?_)
                      refine WE.p0 hx 9 (by rfl) (fun w_ => Runs.move rfl) rfl ?_
                      refine WE.p0 hx 10 (by rfl) (fun w_ => Runs.extract rfl rfl) rfl ?_
                      refine WE.p0 hx 11 (by rfl) (fun w_ => Runs.extract rfl rfl) rfl ?_
                      refine WE.op (.inr ((h59.weak hG81).drop 0)) (i := 13) (by rfl) (by kernel_rfl) ?_
                      refine WL.storeAll h59 0 rfl rfl rfl inf39 rfl rfl rfl (Free.zero _) ?_
                      intro  w60 h60
                      try simp only [lz, ls, ez, es'] at h60
                      refine WL.nil (WE.next ?_)
                      refine WE.p0 hx 14 (by rfl) (fun w_ => Runs.assign rfl) rfl ?_
                      refine WE.fin (.inl ⟨13, rfl, by kernel_rfl⟩) (by kernel_rfl) ?_
                      exact WN.at_ (⟨b12, _, A81, c81⟩ : Nat × Snap × Option Addr × Nat) (by repeat (first | exact trivial | refine ⟨rfl, ?_⟩)) ⟨hG81, hrd81, (h60.drop 2)⟩
                  · rintro ⟨b12, G2, A81, c81⟩ w61 ⟨hleG2, hrd81, hL⟩
                    dsimp only at hleG2 hrd81 hL
                    replace hleF := Le.trans hleF hleG2
                    replace hf := hf.mono hleG2
                    replace hZ41 := hZ41.mono hleG2
                    replace hrd53 := hrd53.mono hleG2
                    refine WC.seq (WC.seq ?_)
                    have htw : TW m (decideM id (foldM Z0 l).1 m f).1 (decideM id (foldM Z0 l).1 m f) := twice_no he0 c26
                    obtain ⟨t1, t2, t3, t4, t5, t6⟩ := htw
                    
                    refine WC.reg ?_
                    refine WL.v (Runs.move rfl) rfl ?_
                    refine WL.v (Runs.boolT (c := false) (Runs.neq rfl rfl) (by rw [t1]; rfl)) rfl ?_
                    refine WL.v (Runs.move rfl) rfl ?_
                    refine WL.gon rfl rfl rfl ?_
                    refine WL.v (Runs.fld fld39_0 rfl) rfl ?_
                    refine WL.gon rfl rfl rfl ?_
                    refine WL.v (Runs.boolT (c := false) (Runs.load1 Try.underlying4 rfl rfl (hL.ocell (i := 0) rfl rfl)) t2) rfl ?_
                    refine WL.v (Runs.pick rfl rfl rfl) rfl ?_
                    refine WL.v (Runs.move rfl) rfl ?_
                    refine WL.gon rfl rfl rfl ?_
                    refine WL.v (Runs.fld fld39_4 rfl) rfl ?_
                    refine WL.gon rfl rfl rfl ?_
                    refine WL.v (Runs.boolT (c := false) (Runs.load1 Try.underlying4 rfl rfl (hL.ocell (i := 0) rfl rfl)) t3) rfl ?_
                    refine WL.v (Runs.pick rfl rfl rfl) rfl ?_
                    refine WL.v (Runs.move rfl) rfl ?_
                    refine WL.gon rfl rfl rfl ?_
                    refine WL.v (Runs.fld fld39_5 rfl) rfl ?_
                    refine WL.gon rfl rfl rfl ?_
                    refine WL.v (Runs.boolT (c := false) (Runs.load1 Try.underlying4 rfl rfl (hL.ocell (i := 0) rfl rfl)) t4) rfl ?_
                    refine WL.v (Runs.pick rfl rfl rfl) rfl ?_
                    refine WL.nil (WN.thn ?_)
                    refine WC.condF rfl (rfl) ?_
                    refine WC.skip (WN.thn (WC.seq (WC.seq ?_)))
                    rcases two ((decideM id (foldM Z0 l).1 m f).1.bk = true) (m.kd ≠ 8) with g0 | ⟨g0, g1⟩ | ⟨g0, g1⟩
                    · replace g0 := Bool.eq_false_iff.2 g0
                      refine WC.reg ?_
                      refine WL.v (Runs.fld fld39_2 rfl) rfl ?_
                      refine WL.v (Runs.boolT (c := false) (Runs.load1 Try.underlying4 rfl rfl (hL.ocell (i := 1) rfl rfl)) g0) rfl ?_
                      refine WL.v (Runs.move rfl) rfl ?_
                      refine WL.goff rfl rfl rfl rfl ?_
                      refine WL.goff rfl rfl rfl rfl ?_
                      refine WL.goff rfl rfl rfl rfl ?_
                      refine WL.goff rfl rfl rfl rfl ?_
                      refine WL.v (Runs.pick rfl rfl rfl) rfl ?_
                      refine WL.v (Runs.move rfl) rfl ?_
                      refine WL.goff rfl rfl rfl rfl ?_
                      refine WL.goff rfl rfl rfl rfl ?_
                      refine WL.goff rfl rfl rfl rfl ?_
                      refine WL.goff rfl rfl rfl rfl ?_
                      refine WL.goffU rfl rfl rfl ?_
                      refine WL.goffU rfl rfl rfl ?_
                      refine WL.goffU rfl rfl rfl ?_
                      refine WL.goffU rfl rfl rfl ?_
                      refine WL.goffU rfl rfl rfl ?_
                      refine WL.goff rfl rfl rfl rfl ?_
                      refine WL.v (Runs.pick rfl rfl rfl) rfl ?_
                      refine WL.nil (WN.thn ?_)
                      refine WC.condF rfl (rfl) ?_
                      refine WC.skip (WN.thn (WC.seq (WC.reg ?_)))
                      refine WL.v (Runs.fld fld39_2 rfl) rfl ?_
                      refine WL.v (Runs.boolT (c := false) (Runs.load1 Try.underlying4 rfl rfl (hL.ocell (i := 1) rfl rfl)) g0) rfl ?_
                      refine WL.v (Runs.not rfl) rfl ?_
                      refine WL.v (Runs.move rfl) rfl ?_
                      refine WL.goff rfl rfl rfl rfl ?_
                      refine WL.goff rfl rfl rfl rfl ?_
                      refine WL.v (Runs.pick rfl rfl rfl) rfl ?_
                      refine WL.v (Runs.move rfl) rfl ?_
                      refine WL.gon rfl rfl rfl ?_
                      refine WL.call can10 rfl rfl (live_c _ hL) ?_
                      rintro _ w62 ⟨G126, hG126, rfl, h62⟩
                      refine ⟨_, rfl, ?_⟩
                      replace hleF := Le.trans hleF hG126
                      replace hf := hf.mono hG126
                      replace hZ41 := hZ41.mono hG126
                      replace hrd53 := hrd53.mono hG126
                      replace hrd81 := hrd81.mono hG126
                      refine WL.v (Runs.pick rfl rfl rfl) rfl ?_
                      refine WL.v (Runs.assign rfl) rfl ?_
                      refine WL.nil (WN.thn (WC.ret ?_))
                      exact ret1 rfl rfl ⟨rfl, ((((h62.drop 0).drop 0).drop 0)).weak hleF⟩
                    · skip
                      refine WC.reg ?_
                      refine WL.v (Runs.fld fld39_2 rfl) rfl ?_
                      refine WL.v (Runs.boolT (c := true) (Runs.load1 Try.underlying4 rfl rfl (hL.ocell (i := 1) rfl rfl)) g0) rfl ?_
                      refine WL.v (Runs.move rfl) rfl ?_
                      refine WL.gon rfl rfl rfl ?_
                      refine WL.v (Runs.fld fld33_2 rfl) rfl ?_
                      refine WL.gon rfl rfl rfl ?_
                      refine WL.v (Runs.fld fld27_0 rfl) rfl ?_
                      refine WL.gon rfl rfl rfl ?_
                      refine WL.v (Runs.load1 Try.underlying3 rfl rfl (hL.ocell (i := 2) rfl rfl)) rfl ?_
                      refine WL.gon rfl rfl rfl ?_
                      refine WL.v (Runs.boolT (c := false) (Runs.neq rfl rfl) (by rw [Classical.not_not.1 g1]; rfl)) rfl ?_
                      refine WL.v (Runs.pick rfl rfl rfl) rfl ?_
                      refine WL.v (Runs.move rfl) rfl ?_
                      refine WL.goff rfl rfl rfl rfl ?_
                      refine WL.goff rfl rfl rfl rfl ?_
                      refine WL.goff rfl rfl rfl rfl ?_
                      refine WL.goff rfl rfl rfl rfl ?_
                      refine WL.goffU rfl rfl rfl ?_
                      refine WL.goffU rfl rfl rfl ?_
                      refine WL.goffU rfl rfl rfl ?_
                      refine WL.goffU rfl rfl rfl ?_
                      refine WL.goffU rfl rfl rfl ?_
                      refine WL.goff rfl rfl rfl rfl ?_
                      refine WL.v (Runs.pick rfl rfl rfl) rfl ?_
                      refine WL.nil (WN.thn ?_)
                      refine WC.condF rfl (rfl) ?_
                      refine WC.skip (WN.thn (WC.seq (WC.reg ?_)))
                      refine WL.v (Runs.fld fld39_2 rfl) rfl ?_
                      refine WL.v (Runs.boolT (c := true) (Runs.load1 Try.underlying4 rfl rfl (hL.ocell (i := 1) rfl rfl)) g0) rfl ?_
                      refine WL.v (Runs.not rfl) rfl ?_
                      refine WL.v (Runs.move rfl) rfl ?_
                      refine WL.gon rfl rfl rfl ?_
                      refine WL.v (Runs.fld fld39_2 rfl) rfl ?_
                      refine WL.gon rfl rfl rfl ?_
                      refine WL.v (Runs.boolT (c := true) (Runs.load1 Try.underlying4 rfl rfl (hL.ocell (i := 0) rfl rfl)) (t5 g0)) rfl ?_
                      refine WL.v (Runs.pick rfl rfl rfl) rfl ?_
                      refine WL.v (Runs.move rfl) rfl ?_
                      refine WL.gon rfl rfl rfl ?_
                      refine WL.call can10 rfl rfl (live_c _ hL) ?_
                      rintro _ w63 ⟨G126, hG126, rfl, h63⟩
                      refine ⟨_, rfl, ?_⟩
                      replace hleF := Le.trans hleF hG126
                      replace hf := hf.mono hG126
                      replace hZ41 := hZ41.mono hG126
                      replace hrd53 := hrd53.mono hG126
                      replace hrd81 := hrd81.mono hG126
                      refine WL.v (Runs.pick rfl rfl rfl) rfl ?_
                      refine WL.v (Runs.assign rfl) rfl ?_
                      refine WL.nil (WN.thn (WC.ret ?_))
                      exact ret1 rfl rfl ⟨rfl, ((((h63.drop 0).drop 0).drop 0)).weak hleF⟩
                    · skip
                      refine WC.reg ?_
                      refine WL.v (Runs.fld fld39_2 rfl) rfl ?_
                      refine WL.v (Runs.boolT (c := true) (Runs.load1 Try.underlying4 rfl rfl (hL.ocell (i := 1) rfl rfl)) g0) rfl ?_
                      refine WL.v (Runs.move rfl) rfl ?_
                      refine WL.gon rfl rfl rfl ?_
                      refine WL.v (Runs.fld fld33_2 rfl) rfl ?_
                      refine WL.gon rfl rfl rfl ?_
                      refine WL.v (Runs.fld fld27_0 rfl) rfl ?_
                      refine WL.gon rfl rfl rfl ?_
                      refine WL.v (Runs.load1 Try.underlying3 rfl rfl (hL.ocell (i := 2) rfl rfl)) rfl ?_
                      refine WL.gon rfl rfl rfl ?_
                      refine WL.v (Runs.boolT (c := true) (Runs.neq rfl rfl) (by rw [decide_eq_false g1]; rfl)) rfl ?_
                      refine WL.v (Runs.pick rfl rfl rfl) rfl ?_
                      refine WL.v (Runs.move rfl) rfl ?_
                      refine WL.gon rfl rfl rfl ?_
                      refine WL.v (Runs.fld fld39_2 rfl) rfl ?_
                      refine WL.gon rfl rfl rfl ?_
                      refine WL.v (Runs.boolT (c := true) (Runs.load1 Try.underlying4 rfl rfl (hL.ocell (i := 0) rfl rfl)) (t5 g0)) rfl ?_
                      refine WL.gon rfl rfl rfl ?_
                      refine WL.v (Runs.not rfl) rfl ?_
                      refine WL.gon rfl rfl rfl ?_
                      refine WL.v (Runs.move rfl) rfl ?_
                      refine WL.gon rfl rfl rfl ?_
                      refine WL.v (Runs.fld fld39_3 rfl) rfl ?_
                      refine WL.gon rfl rfl rfl ?_
                      refine WL.v (Runs.loadPart (vs := #[Vi (decideM id (foldM Z0 l).1 m f).1.rp.kd, Vi (decideM id (foldM Z0 l).1 m f).1.rp.fr, Vi (decideM id (foldM Z0 l).1 m f).1.rp.to, Vi (decideM id (foldM Z0 l).1 m f).1.rp.jb, Vi (decideM id (foldM Z0 l).1 m f).1.rp.ep, Vi (decideM id (foldM Z0 l).1 m f).1.rp.st, Vi (decideM id (foldM Z0 l).1 m f).1.rp.ar, .string (decideM id (foldM Z0 l).1 m f).1.rp.tx]) hL 1 rfl Try.underlying27 rfl inf27 rfl (by kernel_rfl) rfl) rfl ?_
                      refine WL.gon rfl rfl rfl ?_
                      refine WL.v (Runs.fld fld39_3 rfl) rfl ?_
                      refine WL.gon rfl rfl rfl ?_
                      refine WL.v (Runs.loadPart (vs := #[Vi (decideM id (foldM Z0 l).1 m f).1.rp.kd, Vi (decideM id (foldM Z0 l).1 m f).1.rp.fr, Vi (decideM id (foldM Z0 l).1 m f).1.rp.to, Vi (decideM id (foldM Z0 l).1 m f).1.rp.jb, Vi (decideM id (foldM Z0 l).1 m f).1.rp.ep, Vi (decideM id (foldM Z0 l).1 m f).1.rp.st, Vi (decideM id (foldM Z0 l).1 m f).1.rp.ar, .string (decideM id (foldM Z0 l).1 m f).1.rp.tx]) hL 0 rfl Try.underlying27 rfl inf27 rfl (by kernel_rfl) rfl) rfl ?_
                      refine WL.gon rfl rfl rfl ?_
                      refine WL.v (Runs.boolT (c := false) (Runs.aneq (by kernel_rfl) rfl rfl (eqMsg _ (decideM id (foldM Z0 l).1 m f).1.rp (decideM id (foldM Z0 l).1 m f).1.rp)) (by rw [t6 g0 g1]; simp)) rfl ?_
                      refine WL.gon rfl rfl rfl ?_
                      refine WL.v (Runs.pick rfl rfl rfl) rfl ?_
                      refine WL.v (Runs.pick rfl rfl rfl) rfl ?_
                      refine WL.nil (WN.thn ?_)
                      refine WC.condF rfl (rfl) ?_
                      refine WC.skip (WN.thn (WC.seq (WC.reg ?_)))
                      refine WL.v (Runs.fld fld39_2 rfl) rfl ?_
                      refine WL.v (Runs.boolT (c := true) (Runs.load1 Try.underlying4 rfl rfl (hL.ocell (i := 1) rfl rfl)) g0) rfl ?_
                      refine WL.v (Runs.not rfl) rfl ?_
                      refine WL.v (Runs.move rfl) rfl ?_
                      refine WL.gon rfl rfl rfl ?_
                      refine WL.v (Runs.fld fld39_2 rfl) rfl ?_
                      refine WL.gon rfl rfl rfl ?_
                      refine WL.v (Runs.boolT (c := true) (Runs.load1 Try.underlying4 rfl rfl (hL.ocell (i := 0) rfl rfl)) (t5 g0)) rfl ?_
                      refine WL.v (Runs.pick rfl rfl rfl) rfl ?_
                      refine WL.v (Runs.move rfl) rfl ?_
                      refine WL.gon rfl rfl rfl ?_
                      refine WL.call can10 rfl rfl (live_c _ hL) ?_
                      rintro _ w64 ⟨G126, hG126, rfl, h64⟩
                      refine ⟨_, rfl, ?_⟩
                      replace hleF := Le.trans hleF hG126
                      replace hf := hf.mono hG126
                      replace hZ41 := hZ41.mono hG126
                      replace hrd53 := hrd53.mono hG126
                      replace hrd81 := hrd81.mono hG126
                      refine WL.v (Runs.pick rfl rfl rfl) rfl ?_
                      refine WL.v (Runs.assign rfl) rfl ?_
                      refine WL.nil (WN.thn (WC.ret ?_))
                      exact ret1 rfl rfl ⟨rfl, ((((h64.drop 0).drop 0).drop 0)).weak hleF⟩
end Rc
end Go.Proofs.Ytanlminnobonnaa
