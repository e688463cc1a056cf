/- Walks of package dag: one pass in the order is so many rounds: plainly. -/
import Derived.Test.YtkfkdenikkadhaaD17
namespace Go.Proofs.Ytkfkdenikkadhaa
open Go Go.RowKit B
set_option linter.unusedVariables false
set_option linter.unusedSimpArgs false
namespace Dg


theorem getD_set (c : List Int) (m j : Nat) (v : Int) : (c.set m v).getD j 0 = if m = j ∧ j < c.length then v else c.getD j 0 := by
  rw [List.getD_eq_getElem?_getD, List.getD_eq_getElem?_getD, List.getElem?_set]
  by_cases h : m = j
  · subst h
    by_cases h2 : m < c.length
    · simp [h2]
    · simp [h2]
  · rw [if_neg h, if_neg (fun hh => h hh.1)]
theorem getD_lt {c : List Int} {j : Nat} (h : c.getD j 0 = -1) : j < c.length := Classical.byContradiction fun hh => by
  rw [List.getD_eq_getElem?_getD, List.getElem?_eq_none (by omega)] at h
  cases h
/-- some that were Open are skipped -/
def leC (c d : List Int) : Prop := c.length = d.length ∧ ∀ j, c.getD j 0 = d.getD j 0 ∨ (c.getD j 0 = -1 ∧ d.getD j 0 = 256)
theorem leC.refl (c : List Int) : leC c c := ⟨rfl, fun _ => .inl rfl⟩
theorem leC.trans {a b c : List Int} (h : leC a b) (h2 : leC b c) : leC a c := ⟨h.1.trans h2.1, fun j => by
  have := h.2 j
  have := h2.2 j
  omega⟩
theorem leC.anti {c d : List Int} (h : leC c d) (h2 : leC d c) : c = d := by
  apply List.ext_getElem h.1
  intro j hj hj2
  have a := h.2 j
  have b := h2.2 j
  have ec : c.getD j 0 = c[j] := by simp [hj]
  have ed : d.getD j 0 = d[j] := by simp [hj2]
  omega
theorem stlS_y {l : List S} {c : List Int} {x : Int} (h : doomM l c x.toNat) : stlS l c x = c.set x.toNat 256 := if_pos h
theorem stlS_n {l : List S} {c : List Int} {x : Int} (h : ¬ doomM l c x.toNat) : stlS l c x = c := if_neg h
theorem stlS_le (l : List S) (c : List Int) (x : Int) : leC c (stlS l c x) := by
  by_cases h : doomM l c x.toNat
  · rw [stlS_y h]
    refine ⟨by rw [List.length_set], fun j => ?_⟩
    rw [getD_set]
    split
    · rename_i h2
      exact .inr ⟨by rw [← h2.1]; exact h.1, rfl⟩
    · exact .inl rfl
  · rw [stlS_n h]; exact leC.refl c
theorem fail_congr {e : E} {c d : List Int} (h : c.getD e.st.toNat 0 = d.getD e.st.toNat 0) : failM e c = failM e d := by
  unfold failM holdsM
  rw [h]
theorem fail_open {e : E} {c : List Int} (h : failM e c = true) : c.getD e.st.toNat 0 ≠ -1 := by
  intro h2
  unfold failM at h
  rw [decide_eq_true h2] at h
  cases h
def fixC (l : List S) (d : List Int) : Prop := ∀ i, i < l.length → ¬ doomM l d i
theorem stlS_fix {l : List S} {c d : List Int} {x : Int} (h : leC c d) (hd : fixC l d) (hx : x.toNat < l.length) : leC (stlS l c x) d := by
  by_cases h1 : doomM l c x.toNat
  · rw [stlS_y h1]
    refine ⟨by rw [List.length_set]; exact h.1, fun j => ?_⟩
    rw [getD_set]
    split
    · rename_i h2
      rw [← h2.1]
      have h3 := h1.1
      have h4 := h.2 x.toNat
      have h5 : d.getD x.toNat 0 ≠ -1 := fun h5 => hd _ hx ⟨h5, by
        have h6 := h1.2
        rw [List.any_eq_true] at h6 ⊢
        obtain ⟨e, he, hf⟩ := h6
        refine ⟨e, he, ?_⟩
        have h7 := fail_open hf
        have h8 := h.2 e.st.toNat
        rw [← fail_congr (c := c) (by omega)]
        exact hf⟩
      exact .inl (by omega)
    · exact h.2 j
  · rw [stlS_n h1]; exact h
theorem stlF_app (l : List S) (xs ys c : List Int) : stlF l (xs ++ ys) c = stlF l ys (stlF l xs c) := List.foldl_append
theorem stlF_cons (l : List S) (x : Int) (xs c : List Int) : stlF l (x :: xs) c = stlF l xs (stlS l c x) := rfl
theorem stlF_len (l : List S) : ∀ (xs c : List Int), (stlF l xs c).length = c.length
  | [], _ => rfl
  | x :: xs, c => by rw [stlF_cons, stlF_len l xs, stlS_len]
theorem stlF_le (l : List S) : ∀ (xs c : List Int), leC c (stlF l xs c)
  | [], c => leC.refl c
  | x :: xs, c => by rw [stlF_cons]; exact (stlS_le l c x).trans (stlF_le l xs _)
theorem stlF_fix {l : List S} {d : List Int} (hd : fixC l d) : ∀ {xs c : List Int}, (∀ x ∈ xs, 0 ≤ x ∧ x < l.length) → leC c d → leC (stlF l xs c) d
  | [], c, _, h => h
  | x :: xs, c, hx, h => by
    rw [stlF_cons]
    have := hx x (List.mem_cons_self ..)
    exact stlF_fix hd (fun y hy => hx y (List.mem_cons_of_mem _ hy)) (stlS_fix h hd (by omega))
theorem stlF_id {l : List S} {d : List Int} (hd : fixC l d) : ∀ {xs : List Int}, (∀ x ∈ xs, 0 ≤ x ∧ x < l.length) → stlF l xs d = d
  | [], _ => rfl
  | x :: xs, hx => by
    have := hx x (List.mem_cons_self ..)
    rw [stlF_cons, stlS_n (hd _ (by omega))]
    exact stlF_id hd (fun y hy => hx y (List.mem_cons_of_mem _ hy))
theorem stlF_off {l : List S} {j : Nat} : ∀ {xs c : List Int}, (∀ x ∈ xs, x.toNat ≠ j) → (stlF l xs c).getD j 0 = c.getD j 0
  | [], c, _ => rfl
  | x :: xs, c, h => by
    rw [stlF_cons, stlF_off (fun y hy => h y (List.mem_cons_of_mem _ hy))]
    have hx := h x (List.mem_cons_self ..)
    by_cases h1 : doomM l c x.toNat
    · rw [stlS_y h1, getD_set, if_neg (fun hh => hx hh.1)]
    · rw [stlS_n h1]
/-- each stands once, behind those that it waits for -/
def goodO (l : List S) (out : List Int) : Prop := ∀ ys x zs, out = ys ++ x :: zs → x ∉ ys ∧ ∀ k, k < (l.getD x.toNat S0).af.length → ((l.getD x.toNat S0).af.getD k E0).st ∈ ys
theorem goodO.snoc {l : List S} {out : List Int} {i : Nat} (h : goodO l out) (h2 : okAt l out i) : goodO l (out ++ [(i : Int)]) := by
  intro ys x zs e
  rcases List.eq_nil_or_concat zs with rfl | ⟨zs', z, rfl⟩
  · obtain ⟨rfl, e2⟩ := List.append_inj' e rfl
    injection e2 with e2
    subst e2
    exact h2
  · rw [List.concat_eq_append, ← List.cons_append, ← List.append_assoc] at e
    obtain ⟨e1, _⟩ := List.append_inj' e rfl
    exact h ys x zs' e1
theorem ordF_good {l : List S} : ∀ {n : Nat} {out : List Int}, goodO l out → goodO l (ordF l n out)
  | 0, out, h => h
  | n + 1, out, h => by
    rw [ordF]
    split
    · exact h
    · rename_i i hi
      exact ordF_good (h.snoc (nextM_spec hi).2)
theorem ordM_good (l : List S) : goodO l (ordM l) := ordF_good (fun ys x zs e => by cases ys <;> cases e)
theorem ordF_cnt {l : List S} : ∀ {n : Nat} {out : List Int}, cnt out l.length + out.length = l.length → cnt (ordF l n out) l.length + (ordF l n out).length = l.length
  | 0, out, h => h
  | n + 1, out, h => by
    rw [ordF]
    split
    · exact h
    · rename_i i hi
      refine ordF_cnt ?_
      have h1 := nextM_spec hi
      have h2 := cnt_add h1.2.1 l.length
      rw [if_pos h1.1] at h2
      rw [List.length_append]
      show _ + (out.length + 1) = _
      omega
theorem ordM_all {l : List S} (h : l.length ≤ (ordM l).length) {i : Nat} (hi : i < l.length) : (i : Int) ∈ ordM l := by
  have h1 : cnt (ordM l) l.length + (ordM l).length = l.length := ordF_cnt (by rw [cnt_nil]; rfl)
  exact cnt_zero (by omega) i hi
theorem pass_fix {l : List S} {codes : List Int} (h : l.length ≤ (ordM l).length) (hc : codes.length = l.length) : fixC l (stlF l (ordM l) codes) := by
  intro i hi hd
  obtain ⟨ys, zs, e⟩ := List.append_of_mem (ordM_all h hi)
  have hg := ordM_good l
  have hin := ordM_in (l := l)
  have h1 := hg ys i zs e
  have hz : ∀ y ∈ zs, y ∉ ys ∧ y ≠ (i : Int) := fun y hy => by
    obtain ⟨z1, z2, e2⟩ := List.append_of_mem hy
    have := (hg (ys ++ (i : Int) :: z1) y z2 (by rw [e, e2]; simp)).1
    rw [List.mem_append, List.mem_cons] at this
    exact ⟨fun hh => this (.inl hh), fun hh => this (.inr (.inl hh))⟩
  have hp : ∀ y ∈ ordM l, 0 ≤ y := fun y hy => (hin y hy).1
  have hpz : ∀ y ∈ zs, 0 ≤ y := fun y hy => hp y (by rw [e]; exact List.mem_append_right _ (List.mem_cons_of_mem _ hy))
  have hpy : ∀ y ∈ ys, 0 ≤ y := fun y hy => hp y (by rw [e]; exact List.mem_append_left _ hy)
  have ep : stlF l (ordM l) codes = stlF l zs (stlS l (stlF l ys codes) (i : Int)) := by rw [e, stlF_app, stlF_cons]
  rw [ep] at hd
  have e1 : (stlF l zs (stlS l (stlF l ys codes) (i : Int))).getD i 0 = (stlS l (stlF l ys codes) (i : Int)).getD i 0 := stlF_off (fun y hy => by
    have := (hz y hy).2
    have := hpz y hy
    omega)
  have hd1 := hd.1
  rw [e1] at hd1
  by_cases h2 : doomM l (stlF l ys codes) i
  · rw [stlS_y (x := (i : Int)) h2, getD_set, if_pos ⟨rfl, by rw [stlF_len]; omega⟩] at hd1
    cases hd1
  · have e2 := stlS_n (x := (i : Int)) h2
    rw [e2] at hd1 hd
    refine h2 ⟨hd1, ?_⟩
    have h6 := hd.2
    rw [List.any_eq_true] at h6 ⊢
    obtain ⟨x, hx, hf⟩ := h6
    refine ⟨x, hx, ?_⟩
    obtain ⟨k, hk, rfl⟩ := List.getElem_of_mem hx
    have hm : ((l.getD i S0).af.getD k E0).st ∈ ys := h1.2 k hk
    rw [List.getD_eq_getElem?_getD, List.getElem?_eq_getElem hk] at hm
    have hm : ((l.getD i S0).af[k]).st ∈ ys := hm
    rw [fail_congr (d := stlF l zs (stlF l ys codes)) (stlF_off (fun y hy hh => ?_)).symm]
    · exact hf
    · have h7 := (hz y hy).1
      have h8 := hpz y hy
      have h9 := hpy _ hm
      rw [show y = ((l.getD i S0).af[k]).st by omega] at h7
      exact h7 hm
def cntO : List Int → Nat
  | [] => 0
  | x :: xs => (if x = -1 then 1 else 0) + cntO xs
theorem cntO_set : ∀ {c : List Int} {m : Nat}, c.getD m 0 = -1 → cntO (c.set m 256) + 1 = cntO c
  | [], m, h => by cases m <;> cases h
  | x :: xs, 0, h => by
    have h : x = -1 := h
    rw [List.set_cons_zero, cntO, cntO, if_pos h, if_neg (by decide)]
    omega
  | x :: xs, m + 1, h => by
    have := cntO_set (c := xs) (m := m) h
    rw [List.set_cons_succ, cntO, cntO]
    omega
theorem cntO_len : ∀ (c : List Int), cntO c ≤ c.length
  | [] => Nat.le_refl _
  | x :: xs => by
    have := cntO_len xs
    rw [cntO, List.length_cons]
    split <;> omega
theorem rnd_le (l : List S) (c : List Int) : ∀ n, leC c (rnd l c n)
  | 0 => leC.refl c
  | n + 1 => by rw [rnd]; exact (rnd_le l c n).trans (stlS_le l _ _)
theorem rndN_le (l : List S) (c : List Int) : ∀ n, leC c (rndN l c n)
  | 0 => leC.refl c
  | n + 1 => by rw [rndN]; exact (rndN_le l c n).trans (rnd_le l _ _)
theorem rnd_fix {l : List S} {c d : List Int} (hd : fixC l d) (h : leC c d) : ∀ {n : Nat}, n ≤ l.length → leC (rnd l c n) d
  | 0, _ => h
  | n + 1, hn => by rw [rnd]; exact stlS_fix (rnd_fix hd h (by omega)) hd (by show n < _; omega)
theorem rndN_fix {l : List S} {c d : List Int} (hd : fixC l d) (h : leC c d) : ∀ n : Nat, leC (rndN l c n) d
  | 0 => h
  | n + 1 => by rw [rndN]; exact rnd_fix hd (rndN_fix hd h n) (Nat.le_refl _)
theorem rnd_two (l : List S) (c : List Int) : ∀ n, (rnd l c n = c ∧ ∀ i, i < n → ¬ doomM l c i) ∨ cntO (rnd l c n) < cntO c
  | 0 => .inl ⟨rfl, fun i hi => absurd hi (Nat.not_lt_zero _)⟩
  | n + 1 => by
    rw [rnd]
    rcases rnd_two l c n with ⟨h1, h2⟩ | h1
    · rw [h1]
      by_cases h3 : doomM l c n
      · have := cntO_set h3.1
        rw [stlS_y (x := (n : Int)) h3]
        exact .inr (by show cntO (c.set n 256) < _; omega)
      · rw [stlS_n (x := (n : Int)) h3]
        exact .inl ⟨rfl, fun i hi => by
          by_cases e : i = n
          · subst e; exact h3
          · exact h2 i (by omega)⟩
    · by_cases h3 : doomM l (rnd l c n) n
      · have := cntO_set h3.1
        rw [stlS_y (x := (n : Int)) h3]
        exact .inr (by show cntO ((rnd l c n).set n 256) < _; omega)
      · rw [stlS_n (x := (n : Int)) h3]
        exact .inr h1
theorem rnd_id {l : List S} {c : List Int} (hd : fixC l c) : ∀ {n : Nat}, n ≤ l.length → rnd l c n = c
  | 0, _ => rfl
  | n + 1, hn => by rw [rnd, rnd_id hd (by omega), stlS_n (x := (n : Int)) (hd n (by omega))]
theorem rndN_two (l : List S) (c : List Int) : ∀ n, fixC l (rndN l c n) ∨ cntO (rndN l c n) + n ≤ cntO c
  | 0 => .inr (Nat.le_refl _)
  | n + 1 => by
    rw [rndN]
    rcases rndN_two l c n with h | h
    · rw [rnd_id h (Nat.le_refl _)]; exact .inl h
    · rcases rnd_two l (rndN l c n) l.length with ⟨h1, h2⟩ | h1
      · rw [h1]; exact .inl h2
      · exact .inr (by omega)
theorem rndN_done {l : List S} {c : List Int} (hc : c.length = l.length) : fixC l (rndN l c l.length) := by
  rcases rndN_two l c l.length with h | h
  · exact h
  · intro i hi hd
    have h1 := cntO_set hd.1
    have h2 := cntO_len c
    omega
theorem settle_eq {l : List S} {codes : List Int} (h : l.length ≤ (ordM l).length) (hc : codes.length = l.length) : rndN l codes l.length = stlF l (ordM l) codes :=
  leC.anti (rndN_fix (pass_fix h hc) (stlF_le l _ _) _) (stlF_fix (rndN_done hc) ordM_in (rndN_le l _ _))
theorem qsettle_eq (l : List S) (codes : List Int) : qsettleM l codes = settleM l codes := by
  unfold qsettleM settleM
  split
  · rename_i h
    have hw := with_ok h
    exact settle_eq (chk_ok hw.1).2.2 hw.2.1
  · rfl
/-- what is settled: of as many, some skipped, none doomed any more -/
theorem settle_spec {l : List S} {codes : List Int} (h : withM l codes = 0) : leC codes (settleM l codes) ∧ fixC l (settleM l codes) := by
  have hw := with_ok h
  unfold settleM
  rw [if_pos h]
  exact ⟨stlF_le l _ _, pass_fix (chk_ok hw.1).2.2 hw.2.1⟩
theorem with_of {l : List S} {codes : List Int} (h : chkM l = 0) (h2 : codes.length = l.length) (h3 : ∀ c ∈ codes, -1 ≤ c ∧ c ≤ 256) : withM l codes = 0 := by
  unfold withM
  rw [if_neg (by omega), if_neg]
  rintro (h4 | h4)
  · exact h4 h2
  · rw [List.any_eq_true] at h4
    obtain ⟨c, hc, h5⟩ := h4
    rw [inB_t (h3 c hc)] at h5
    cases h5
theorem leC.vals {c d : List Int} (h : leC c d) (h2 : ∀ x ∈ c, -1 ≤ x ∧ x ≤ 256) : ∀ x ∈ d, -1 ≤ x ∧ x ≤ 256 := by
  intro x hx
  obtain ⟨j, hj, rfl⟩ := List.getElem_of_mem hx
  have h3 := h.2 j
  have h4 := h2 (c.getD j 0) (mem_getD (by have := h.1; omega))
  rw [List.getD_eq_getElem?_getD (l := d), List.getElem?_eq_getElem hj] at h3
  have h3 : c.getD j 0 = d[j] ∨ (c.getD j 0 = -1 ∧ d[j] = 256) := h3
  omega
theorem settle_with {l : List S} {codes : List Int} (h : withM l codes = 0) : withM l (settleM l codes) = 0 := by
  have hw := with_ok h
  exact with_of hw.1 (by rw [settle_len _ _ h]; exact hw.2.1) ((settle_spec h).1.vals hw.2.2)
theorem settle_twice {l : List S} {codes : List Int} (h : withM l codes = 0) : settleM l (settleM l codes) = settleM l codes := by
  have h2 := (settle_spec h).2
  have e : ∀ c, withM l c = 0 → settleM l c = stlF l (ordM l) c := fun c h => by unfold settleM; rw [if_pos h]
  rw [e _ (settle_with h)]
  exact stlF_id h2 ordM_in
end Dg
end Go.Proofs.Ytkfkdenikkadhaa
