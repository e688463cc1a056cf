/- Walks of package wire: numbers and texts, read again: plainly. -/
import Derived.Test.YthjcfhfbaeokeaaMW6
namespace Go.Proofs.Ythjcfhfbaeokeaa
open Go Go.RowKit B
set_option linter.unusedVariables false
set_option linter.unusedSimpArgs false
namespace Wir


theorem hi_ne {n : Nat} (h : n ≠ 0) : hi n ≠ [] := by rw [hi_s h]; simp
theorem hi_head : ∀ (n : Nat), n ≠ 0 → (hi n).getD 0 0 ≠ 0 := by
  intro n
  induction n using Nat.strongRecOn with
  | _ n ih =>
    intro h
    rw [hi_s h]
    by_cases h2 : n / 256 = 0
    · rw [h2, hi_0]
      intro e
      have := congrArg UInt8.toNat e
      simp at this
      omega
    · have h3 := ih (n / 256) (by omega) h2
      cases e : hi (n / 256) with
      | nil => exact absurd e (hi_ne h2)
      | cons a t => rw [e] at h3; simpa using h3
theorem valN_cons_pos {a : UInt8} {t : List UInt8} (h : a ≠ 0) : valN (a :: t) ≠ 0 := by
  have key : ∀ (t : List UInt8) (x : Nat), x ≠ 0 → t.foldl (fun a b => 256 * a + b.toNat) x ≠ 0 := by
    intro t
    induction t with
    | nil => intro x hx; exact hx
    | cons b t ih => intro x hx; exact ih _ (by show 256 * x + b.toNat ≠ 0; omega)
  refine key t _ ?_
  have : a.toNat ≠ 0 := fun e => h (UInt8.toNat_inj.1 (by simpa using e))
  simpa using this
theorem hi_valN : ∀ (n : Nat) (ds : List UInt8), ds.length = n → (ds = [] ∨ ds.getD 0 0 ≠ 0) → hi (valN ds) = ds := by
  intro n
  induction n with
  | zero => intro ds hl _; rw [List.eq_nil_of_length_eq_zero hl]; exact hi_0
  | succ n ih =>
    intro ds hl h
    have hne : ds ≠ [] := fun e => by rw [e] at hl; simp at hl
    have hh : ds.getD 0 0 ≠ 0 := by
      rcases h with h | h
      · exact absurd h hne
      · exact h
    have e := (List.dropLast_concat_getLast hne).symm
    have hpos : valN ds ≠ 0 := by
      cases ds with
      | nil => exact absurd rfl hne
      | cons a t => exact valN_cons_pos (by simpa using hh)
    have e2 : valN ds = 256 * valN ds.dropLast + (ds.getLast hne).toNat := by
      conv => lhs; rw [e]
      exact valN_snoc _ _
    have hlt := (ds.getLast hne).toNat_lt
    rw [hi_s hpos]
    have e3 : valN ds / 256 = valN ds.dropLast := by omega
    have e4 : UInt8.ofNat (valN ds) = ds.getLast hne := by
      apply UInt8.toNat_inj.1
      rw [UInt8.toNat_ofNat', e2]; omega
    rw [e3, e4, ih ds.dropLast (by simp [hl]) ?_]
    · exact e.symm
    · cases ds with
      | nil => exact absurd rfl hne
      | cons a t =>
        cases t with
        | nil => exact .inl rfl
        | cons b t => exact .inr (by simpa using hh)
theorem valN_hi : ∀ (n : Nat), valN (hi n) = n := by
  intro n
  induction n using Nat.strongRecOn with
  | _ n ih =>
    by_cases h : n = 0
    · subst h; rw [hi_0]; rfl
    · rw [hi_s h, valN_snoc, ih (n / 256) (by omega), UInt8.toNat_ofNat']
      omega
theorem numN_len (n : Nat) (h : n ≤ 1099511627776) : (UInt8.ofNat (hi n).length).toNat = (hi n).length := by
  have := hi_six h
  rw [UInt8.toNat_ofNat']; omega
theorem rdN_num (pre rest : List UInt8) {n : Nat} (h : n ≤ 1099511627776) : rdN (pre ++ (numN n ++ rest)) pre.length 0 = (n, (pre ++ numN n).length, 0) := by
  have h6 := hi_six h
  have e1 : szB (pre ++ (numN n ++ rest)) pre.length = (hi n).length := by
    unfold szB numN
    rw [List.getD_eq_getElem?_getD, List.getElem?_append_right (Nat.le_refl _), Nat.sub_self]
    exact numN_len n h
  have e2 : dig (pre ++ (numN n ++ rest)) pre.length = hi n := by
    unfold dig
    rw [e1]
    unfold numN
    rw [List.drop_append, List.drop_eq_nil_of_le (by omega), List.nil_append, show pre.length + 1 - pre.length = 1 by omega]
    show ((hi n) ++ rest).take _ = _
    rw [List.take_left' rfl]
  have e3 : rerr (pre ++ (numN n ++ rest)) pre.length = 0 := by
    unfold rerr
    rw [e1, e2, valN_hi]
    rw [if_neg (by simp [numN]), if_neg (by omega), if_neg (by simp [numN]; omega), if_neg]
    rintro (h1 | ⟨h1, h2⟩)
    · omega
    · refine hi_head n ?_ h2
      intro e; subst e; rw [hi_0] at h1; simp at h1
  unfold rdN
  rw [if_neg (by simp), if_pos e3]
  unfold rval rnx
  rw [e1, e2, valN_hi]
  simp only [Prod.mk.injEq, true_and, and_true]
  simp [numN]; omega
theorem numB_y {n : Int} (h : mayN n) : numB n = numN n.toNat := if_pos h
theorem tn {n : Int} (h : mayN n) : n.toNat ≤ 1099511627776 ∧ ((n.toNat : Nat) : Int) = n := by have := h.1; have := h.2; omega
theorem num_rdN {l : List UInt8} {p : Nat} {e : Int} (h : (rdN l p e).2.2 = 0) : e = 0 ∧ rerr l p = 0 ∧ rdN l p e = (rval l p, rnx l p, 0) := by
  unfold rdN at h ⊢
  by_cases he : e = 0
  · rw [if_neg (by rw [he]; simp)] at h ⊢
    by_cases hr : rerr l p = 0
    · exact ⟨he, hr, if_pos hr⟩
    · rw [if_neg hr] at h
      exact absurd h hr
  · rw [if_pos he] at h
    exact absurd h he
theorem rerr_0 {l : List UInt8} {p : Nat} (h : rerr l p = 0) : p + 1 + szB l p ≤ l.length ∧ szB l p ≤ 6 ∧ valN (dig l p) ≤ 1099511627776 ∧ (szB l p = 0 ∨ (dig l p).getD 0 0 ≠ 0) := by
  unfold rerr at h
  split at h
  · cases h
  · split at h
    · cases h
    · split at h
      · cases h
      · split at h
        · cases h
        · rename_i h1 h2 h3 h4
          refine ⟨by omega, by omega, by omega, ?_⟩
          by_cases h0 : szB l p = 0
          · exact .inl h0
          · exact .inr fun hh => h4 (.inr ⟨by omega, hh⟩)
theorem numN_val {l : List UInt8} {p : Nat} (h : rerr l p = 0) : l.drop p = numN (rval l p) ++ l.drop (rnx l p) := by
  obtain ⟨h1, h2, h3, h4⟩ := rerr_0 h
  have hd := dig_len h1
  have hv : hi (rval l p) = dig l p := hi_valN _ _ rfl (by
    rcases h4 with h4 | h4
    · exact .inl (List.eq_nil_of_length_eq_zero (hd.trans h4))
    · exact .inr h4)
  unfold numN
  rw [hv, hd]
  have hp : p < l.length := by omega
  have hb : UInt8.ofNat (szB l p) = l[p] := by
    unfold szB
    rw [List.getD_eq_getElem?_getD, List.getElem?_eq_getElem hp]
    simp
  rw [hb, List.drop_eq_getElem_cons hp]
  show _ :: _ = _ :: (dig l p ++ _)
  congr 1
  unfold dig rnx
  rw [show l.drop (p + 1 + szB l p) = (l.drop (p + 1)).drop (szB l p) by rw [List.drop_drop]]
  exact (List.take_append_drop _ _).symm
theorem numB_ne {n : Int} (h : mayN n) : numB n ≠ [] := by
  unfold numB numN
  rw [if_pos h]
  simp
theorem text_len {l : List UInt8} (h : l.length ≤ 100000) : (textB l).length ≤ 200000 := by
  unfold textB
  split
  · simp
  · have := numB_len (l.length : Int)
    rw [List.length_append]; omega
theorem one_el {c b : UInt8} {j : Nat} (h : [c][j]? = some b) : (([c] : List UInt8).map V8).toArray[j]? = some (V8 b) := by
  rcases j with _ | j
  · have : c = b := by simpa using h
    subst this; rfl
  · simp at h
theorem numB_nil {n : Int} : numB n ≠ [] ↔ mayN n := by
  constructor
  · intro h
    by_cases hn : mayN n
    · exact hn
    · exact absurd (by unfold numB; rw [if_neg hn]) h
  · exact numB_ne
end Wir
end Go.Proofs.Ythjcfhfbaeokeaa
