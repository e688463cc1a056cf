/- What is written is read as it was; what is read is written as it was: plainly. -/
import Derived.Test.YtfiknofmniiehaaW10
namespace Go.Proofs.Ytfiknofmniiehaa
open Go Go.RowKit B
set_option linter.unusedVariables false
set_option linter.unusedSimpArgs false
namespace Wir


theorem valN_hi : ∀ (n : Nat), valN (hi n) = n := by
  intro n
  induction n using Nat.strongRecOn with
  | _ n ih =>
    by_cases h : n = 0
    · subst h; rw [hi_0]; rfl
    · rw [hi_s h, valN_snoc, ih (n / 256) (by omega), UInt8.toNat_ofNat']
      omega
theorem hi_ne {n : Nat} (h : n ≠ 0) : hi n ≠ [] := by rw [hi_s h]; simp
theorem hi_head : ∀ (n : Nat), n ≠ 0 → (hi n).getD 0 0 ≠ 0 := by
  intro n
  induction n using Nat.strongRecOn with
  | _ n ih =>
    intro h
    rw [hi_s h]
    by_cases h2 : n / 256 = 0
    · rw [h2, hi_0]
      intro e
      have := congrArg UInt8.toNat e
      simp at this
      omega
    · have h3 := ih (n / 256) (by omega) h2
      cases e : hi (n / 256) with
      | nil => exact absurd e (hi_ne h2)
      | cons a t => rw [e] at h3; simpa using h3
theorem valN_cons_pos {a : UInt8} {t : List UInt8} (h : a ≠ 0) : valN (a :: t) ≠ 0 := by
  have key : ∀ (t : List UInt8) (x : Nat), x ≠ 0 → t.foldl (fun a b => 256 * a + b.toNat) x ≠ 0 := by
    intro t
    induction t with
    | nil => intro x hx; exact hx
    | cons b t ih => intro x hx; exact ih _ (by show 256 * x + b.toNat ≠ 0; omega)
  refine key t _ ?_
  have : a.toNat ≠ 0 := fun e => h (UInt8.toNat_inj.1 (by simpa using e))
  simpa using this
theorem hi_valN : ∀ (n : Nat) (ds : List UInt8), ds.length = n → (ds = [] ∨ ds.getD 0 0 ≠ 0) → hi (valN ds) = ds := by
  intro n
  induction n with
  | zero => intro ds hl _; rw [List.eq_nil_of_length_eq_zero hl]; exact hi_0
  | succ n ih =>
    intro ds hl h
    have hne : ds ≠ [] := fun e => by rw [e] at hl; simp at hl
    have hh : ds.getD 0 0 ≠ 0 := by
      rcases h with h | h
      · exact absurd h hne
      · exact h
    have e := (List.dropLast_concat_getLast hne).symm
    have hpos : valN ds ≠ 0 := by
      cases ds with
      | nil => exact absurd rfl hne
      | cons a t => exact valN_cons_pos (by simpa using hh)
    have e2 : valN ds = 256 * valN ds.dropLast + (ds.getLast hne).toNat := by
      conv => lhs; rw [e]
      exact valN_snoc _ _
    have hlt := (ds.getLast hne).toNat_lt
    rw [hi_s hpos]
    have e3 : valN ds / 256 = valN ds.dropLast := by omega
    have e4 : UInt8.ofNat (valN ds) = ds.getLast hne := by
      apply UInt8.toNat_inj.1
      rw [UInt8.toNat_ofNat', e2]; omega
    rw [e3, e4, ih ds.dropLast (by simp [hl]) ?_]
    · exact e.symm
    · cases ds with
      | nil => exact absurd rfl hne
      | cons a t =>
        cases t with
        | nil => exact .inl rfl
        | cons b t => exact .inr (by simpa using hh)
theorem numN_len (n : Nat) (h : n ≤ 1099511627776) : (UInt8.ofNat (hi n).length).toNat = (hi n).length := by
  have := hi_six h
  rw [UInt8.toNat_ofNat']; omega
/-- a number that is written is read as it was -/
theorem rdN_num (pre rest : List UInt8) {n : Nat} (h : n ≤ 1099511627776) : rdN (pre ++ (numN n ++ rest)) pre.length 0 = (n, (pre ++ numN n).length, 0) := by
  have h6 := hi_six h
  have e1 : szB (pre ++ (numN n ++ rest)) pre.length = (hi n).length := by
    unfold szB numN
    rw [List.getD_eq_getElem?_getD, List.getElem?_append_right (Nat.le_refl _), Nat.sub_self]
    exact numN_len n h
  have e2 : dig (pre ++ (numN n ++ rest)) pre.length = hi n := by
    unfold dig
    rw [e1]
    unfold numN
    rw [List.drop_append, List.drop_eq_nil_of_le (by omega), List.nil_append, show pre.length + 1 - pre.length = 1 by omega]
    show ((hi n) ++ rest).take _ = _
    rw [List.take_left' rfl]
  have e3 : rerr (pre ++ (numN n ++ rest)) pre.length = 0 := by
    unfold rerr
    rw [e1, e2, valN_hi]
    rw [if_neg (by simp [numN]), if_neg (by omega), if_neg (by simp [numN]; omega), if_neg]
    rintro (h1 | ⟨h1, h2⟩)
    · omega
    · refine hi_head n ?_ h2
      intro e; subst e; rw [hi_0] at h1; simp at h1
  unfold rdN
  rw [if_neg (by simp), if_pos e3]
  unfold rval rnx
  rw [e1, e2, valN_hi]
  simp only [Prod.mk.injEq, true_and, and_true]
  simp [numN]; omega
theorem rdT_text (pre : List UInt8) {t : List UInt8} (h : t.length ≤ 4096) : rdT (pre ++ textB t) pre.length 0 = (t, (pre ++ textB t).length, 0) := by
  have et : textB t = numN t.length ++ t := by
    unfold textB numB
    rw [if_neg (by omega), if_pos ⟨by omega, by omega⟩]; rfl
  rw [et]
  have hr := rdN_num pre t (n := t.length) (by omega)
  unfold rdN at hr
  rw [if_neg (by simp)] at hr
  have he : rerr (pre ++ (numN t.length ++ t)) pre.length = 0 := by
    by_cases h0 : rerr (pre ++ (numN t.length ++ t)) pre.length = 0
    · exact h0
    · rw [if_neg h0] at hr
      simp only [Prod.mk.injEq] at hr
      exact absurd hr.2.2 h0
  rw [if_pos he] at hr
  simp only [Prod.mk.injEq, and_true] at hr
  obtain ⟨hv, hx⟩ := hr
  have hc : cerr (pre ++ (numN t.length ++ t)) pre.length 4096 = 0 := by
    unfold cerr
    rw [if_neg (by rw [he]; simp), hv, if_neg (by omega)]
  unfold rdT
  rw [if_neg (by simp), if_neg (by rw [hc]; simp), hv, hx, if_neg (by simp; omega)]
  simp only [Prod.mk.injEq, and_true]
  refine ⟨?_, by simp; omega⟩
  rw [← List.append_assoc, List.drop_left' rfl, List.take_of_length_le (Nat.le_refl _)]
theorem numB_y {n : Int} (h : mayN n) : numB n = numN n.toNat := if_pos h
theorem tn {n : Int} (h : mayN n) : n.toNat ≤ 1099511627776 ∧ ((n.toNat : Nat) : Int) = n := by have := h.1; have := h.2; omega
theorem encB_y {m : M} (h : mayM m) : encB m = numN m.k.toNat ++ (numN (m.f + 1).toNat ++ (numN (m.t + 1).toNat ++ (numN m.j.toNat ++ (numN m.ep.toNat ++ (numN m.st.toNat ++ (numN m.ar.toNat ++ textB m.tx)))))) := by
  unfold encB
  rw [if_pos h]
  obtain ⟨q0, q1, q2, q3, q4, q5, q6, q7, q8⟩ := h
  show (numB m.k ++ (numB (m.f + 1) ++ (numB (m.t + 1) ++ (numB m.j ++ (numB m.ep ++ (numB m.st ++ (numB m.ar ++ []))))))) ++ textB m.tx = _
  rw [numB_y (n := m.k) ⟨q0, by omega⟩, numB_y (n := m.f + 1) ⟨by omega, by omega⟩, numB_y (n := m.t + 1) ⟨by omega, by omega⟩, numB_y q4, numB_y q5, numB_y q6, numB_y q7]
  simp
theorem enc_len {m : M} (h : m.tx.length ≤ 500) : (encB m).length ≤ 100000 := by
  unfold encB
  split
  · have := flat_len (numsM m)
    have h7 : (numsM m).length = 7 := rfl
    have := text_len (l := m.tx) (by omega)
    have h2 : (textB m.tx).length ≤ 1000 := by
      unfold textB
      rw [if_neg (by omega), List.length_append]
      have := numB_len (m.tx.length : Int)
      omega
    rw [List.length_append]; omega
  · simp
theorem decB_enc {m : M} (h : mayM m) : decB (encB m) = (m, 0) := by
  have h' := h
  obtain ⟨q0, q1, q2, q3, q4, q5, q6, q7, q8⟩ := h'
  have t0 := tn (n := m.k) ⟨q0, by omega⟩
  have t1 := tn (n := m.f + 1) ⟨by omega, by omega⟩
  have t2 := tn (n := m.t + 1) ⟨by omega, by omega⟩
  have t3 := tn q4
  have t4 := tn q5
  have t5 := tn q6
  have t6 := tn q7
  have e := encB_y h
  generalize hl : encB m = l at e
  have d0 : D0 l = (m.k.toNat, (numN m.k.toNat).length, 0) := by
    unfold D0; rw [e]; exact rdN_num [] _ t0.1
  have d1 : D1 l = ((m.f + 1).toNat, (numN m.k.toNat ++ numN (m.f + 1).toNat).length, 0) := by
    unfold D1; rw [d0, e]; exact rdN_num _ _ t1.1
  have d2 : D2 l = ((m.t + 1).toNat, ((numN m.k.toNat ++ numN (m.f + 1).toNat) ++ numN (m.t + 1).toNat).length, 0) := by
    unfold D2; rw [d1, e, ← List.append_assoc]; exact rdN_num _ _ t2.1
  have d3 : D3 l = (m.j.toNat, (((numN m.k.toNat ++ numN (m.f + 1).toNat) ++ numN (m.t + 1).toNat) ++ numN m.j.toNat).length, 0) := by
    unfold D3; rw [d2, e, ← List.append_assoc, ← List.append_assoc]; exact rdN_num _ _ t3.1
  have d4 : D4 l = (m.ep.toNat, ((((numN m.k.toNat ++ numN (m.f + 1).toNat) ++ numN (m.t + 1).toNat) ++ numN m.j.toNat) ++ numN m.ep.toNat).length, 0) := by
    unfold D4; rw [d3, e, ← List.append_assoc, ← List.append_assoc, ← List.append_assoc]; exact rdN_num _ _ t4.1
  have d5 : D5 l = (m.st.toNat, (((((numN m.k.toNat ++ numN (m.f + 1).toNat) ++ numN (m.t + 1).toNat) ++ numN m.j.toNat) ++ numN m.ep.toNat) ++ numN m.st.toNat).length, 0) := by
    unfold D5; rw [d4, e, ← List.append_assoc, ← List.append_assoc, ← List.append_assoc, ← List.append_assoc]; exact rdN_num _ _ t5.1
  have d6 : D6 l = (m.ar.toNat, ((((((numN m.k.toNat ++ numN (m.f + 1).toNat) ++ numN (m.t + 1).toNat) ++ numN m.j.toNat) ++ numN m.ep.toNat) ++ numN m.st.toNat) ++ numN m.ar.toNat).length, 0) := by
    unfold D6; rw [d5, e, ← List.append_assoc, ← List.append_assoc, ← List.append_assoc, ← List.append_assoc, ← List.append_assoc]; exact rdN_num _ _ t6.1
  have e' : l = ((((((numN m.k.toNat ++ numN (m.f + 1).toNat) ++ numN (m.t + 1).toNat) ++ numN m.j.toNat) ++ numN m.ep.toNat) ++ numN m.st.toNat) ++ numN m.ar.toNat) ++ textB m.tx := by rw [e]; simp
  have dT : DT l = (m.tx, l.length, 0) := by
    unfold DT; rw [d6]
    conv => lhs; rw [e']
    conv => rhs; rw [e']
    exact rdT_text _ (by omega)
  have hE : decE l = 0 := by
    unfold decE rdEnd
    rw [dT, if_neg (by simp)]
  have hM : decM l = m := by
    unfold decM
    rw [d0, d1, d2, d3, d4, d5, d6, dT]
    cases m
    simp only [M.mk.injEq] at *
    refine ⟨t0.2, by omega, by omega, t3.2, t4.2, t5.2, t6.2, trivial⟩
  unfold decB
  rw [if_neg (by rw [hE]; simp), hM, if_pos h]
/-- a number that is read is written as it was -/
theorem num_rdN {l : List UInt8} {p : Nat} {e : Int} (h : (rdN l p e).2.2 = 0) : e = 0 ∧ rerr l p = 0 ∧ rdN l p e = (rval l p, rnx l p, 0) := by
  unfold rdN at h ⊢
  by_cases he : e = 0
  · rw [if_neg (by rw [he]; simp)] at h ⊢
    by_cases hr : rerr l p = 0
    · exact ⟨he, hr, if_pos hr⟩
    · rw [if_neg hr] at h
      exact absurd h hr
  · rw [if_pos he] at h
    exact absurd h he
theorem rerr_0 {l : List UInt8} {p : Nat} (h : rerr l p = 0) : p + 1 + szB l p ≤ l.length ∧ szB l p ≤ 6 ∧ valN (dig l p) ≤ 1099511627776 ∧ (szB l p = 0 ∨ (dig l p).getD 0 0 ≠ 0) := by
  unfold rerr at h
  split at h
  · cases h
  · split at h
    · cases h
    · split at h
      · cases h
      · split at h
        · cases h
        · rename_i h1 h2 h3 h4
          refine ⟨by omega, by omega, by omega, ?_⟩
          by_cases h0 : szB l p = 0
          · exact .inl h0
          · exact .inr fun hh => h4 (.inr ⟨by omega, hh⟩)
theorem numN_val {l : List UInt8} {p : Nat} (h : rerr l p = 0) : l.drop p = numN (rval l p) ++ l.drop (rnx l p) := by
  obtain ⟨h1, h2, h3, h4⟩ := rerr_0 h
  have hd := dig_len h1
  have hv : hi (rval l p) = dig l p := hi_valN _ _ rfl (by
    rcases h4 with h4 | h4
    · exact .inl (List.eq_nil_of_length_eq_zero (hd.trans h4))
    · exact .inr h4)
  unfold numN
  rw [hv, hd]
  have hp : p < l.length := by omega
  have hb : UInt8.ofNat (szB l p) = l[p] := by
    unfold szB
    rw [List.getD_eq_getElem?_getD, List.getElem?_eq_getElem hp]
    simp
  rw [hb, List.drop_eq_getElem_cons hp]
  show _ :: _ = _ :: (dig l p ++ _)
  congr 1
  unfold dig rnx
  rw [show l.drop (p + 1 + szB l p) = (l.drop (p + 1)).drop (szB l p) by rw [List.drop_drop]]
  exact (List.take_append_drop _ _).symm
theorem encB_dec {l : List UInt8} (h : (decB l).2 = 0) : encB (decB l).1 = l := by
  unfold decB at h ⊢
  by_cases hE : decE l = 0
  · rw [if_neg (by rw [hE]; simp)] at h ⊢
    by_cases hm : mayM (decM l)
    · rw [if_pos hm] at h ⊢
      show encB (decM l) = l
      have hT : (DT l).2.2 = 0 ∧ l.length ≤ (DT l).2.1 := by
        unfold decE rdEnd at hE
        split at hE
        · cases hE
        · rename_i h1
          refine ⟨hE, ?_⟩
          rcases Nat.lt_or_ge (DT l).2.1 l.length with h2 | h2
          · exact absurd ⟨hE, h2⟩ h1
          · exact h2
      obtain ⟨hT1, hT2⟩ := hT
      have hT3 : (D6 l).2.2 = 0 ∧ cerr l (D6 l).2.1 4096 = 0 ∧ DT l = ((l.drop (rnx l (D6 l).2.1)).take (rval l (D6 l).2.1), rnx l (D6 l).2.1 + rval l (D6 l).2.1, 0) := by
        unfold DT at hT1 ⊢
        unfold rdT at hT1 ⊢
        by_cases h1 : (D6 l).2.2 = 0
        · rw [if_neg (by rw [h1]; simp)] at hT1 ⊢
          by_cases h2 : cerr l (D6 l).2.1 4096 = 0
          · rw [if_neg (by rw [h2]; simp)] at hT1 ⊢
            split at hT1
            · cases hT1
            · rename_i h3; exact ⟨h1, h2, if_neg h3⟩
          · rw [if_pos h2] at hT1; exact absurd hT1 h2
        · rw [if_pos h1] at hT1; exact absurd hT1 h1
      obtain ⟨h6, hc, hDT⟩ := hT3
      obtain ⟨h5, r6, e6⟩ := num_rdN (l := l) (p := (D5 l).2.1) (e := (D5 l).2.2) h6
      obtain ⟨h4, r5, e5⟩ := num_rdN (l := l) (p := (D4 l).2.1) (e := (D4 l).2.2) h5
      obtain ⟨h3, r4, e4⟩ := num_rdN (l := l) (p := (D3 l).2.1) (e := (D3 l).2.2) h4
      obtain ⟨h2, r3, e3⟩ := num_rdN (l := l) (p := (D2 l).2.1) (e := (D2 l).2.2) h3
      obtain ⟨h1, r2, e2⟩ := num_rdN (l := l) (p := (D1 l).2.1) (e := (D1 l).2.2) h2
      obtain ⟨h0, r1, e1⟩ := num_rdN (l := l) (p := (D0 l).2.1) (e := (D0 l).2.2) h1
      obtain ⟨_, r0, e0⟩ := num_rdN (l := l) (p := 0) (e := 0) h0
      change D0 l = _ at e0
      change D1 l = _ at e1
      change D2 l = _ at e2
      change D3 l = _ at e3
      change D4 l = _ at e4
      change D5 l = _ at e5
      change D6 l = _ at e6
      have hc' := cerr_0 hc
      have n0 := numN_val r0
      have n1 := numN_val r1
      have n2 := numN_val r2
      have n3 := numN_val r3
      have n4 := numN_val r4
      have n5 := numN_val r5
      have n6 := numN_val r6
      have n7 := numN_val hc'.1
      have htx : (decM l).tx = (l.drop (rnx l (D6 l).2.1)).take (rval l (D6 l).2.1) := by show (DT l).1 = _; rw [hDT]
      have hfin : l.length ≤ rnx l (D6 l).2.1 + rval l (D6 l).2.1 := by rw [hDT] at hT2; exact hT2
      have htx2 : (decM l).tx = l.drop (rnx l (D6 l).2.1) := by rw [htx, List.take_of_length_le (by rw [List.length_drop]; omega)]
      have hle : rnx l (D6 l).2.1 + rval l (D6 l).2.1 ≤ l.length := by
        have := rdT_le (l := l) (p := (D6 l).2.1) (D6 l).2.2 (by
          rw [e6]; exact rnx_le r6)
        have h9 : (DT l).2.1 ≤ l.length := this
        rw [hDT] at h9; exact h9
      have htl : (decM l).tx.length = rval l (D6 l).2.1 := by rw [htx2, List.length_drop]; omega
      have ht : textB (decM l).tx = l.drop (D6 l).2.1 := by
        unfold textB
        rw [if_neg (by rw [htl]; have := hc'.2; omega), numB_y ⟨by omega, by rw [htl]; have := hc'.2; omega⟩]
        rw [show ((decM l).tx.length : Int).toNat = rval l (D6 l).2.1 by rw [htl]; simp, htx2]
        exact n7.symm
      rw [encB_y hm, ht]
      have k0 : (decM l).k.toNat = rval l 0 := by show ((D0 l).1 : Int).toNat = _; rw [e0]; simp
      have k1 : ((decM l).f + 1).toNat = rval l (D0 l).2.1 := by show (((D1 l).1 : Int) - 1 + 1).toNat = _; rw [e1]; simp
      have k2 : ((decM l).t + 1).toNat = rval l (D1 l).2.1 := by show (((D2 l).1 : Int) - 1 + 1).toNat = _; rw [e2]; simp
      have k3 : (decM l).j.toNat = rval l (D2 l).2.1 := by show ((D3 l).1 : Int).toNat = _; rw [e3]; simp
      have k4 : (decM l).ep.toNat = rval l (D3 l).2.1 := by show ((D4 l).1 : Int).toNat = _; rw [e4]; simp
      have k5 : (decM l).st.toNat = rval l (D4 l).2.1 := by show ((D5 l).1 : Int).toNat = _; rw [e5]; simp
      have k6 : (decM l).ar.toNat = rval l (D5 l).2.1 := by show ((D6 l).1 : Int).toNat = _; rw [e6]; simp
      rw [k0, k1, k2, k3, k4, k5, k6]
      have p0 : (D0 l).2.1 = rnx l 0 := by rw [e0]
      have p1 : (D1 l).2.1 = rnx l (D0 l).2.1 := by rw [e1]
      have p2 : (D2 l).2.1 = rnx l (D1 l).2.1 := by rw [e2]
      have p3 : (D3 l).2.1 = rnx l (D2 l).2.1 := by rw [e3]
      have p4 : (D4 l).2.1 = rnx l (D3 l).2.1 := by rw [e4]
      have p5 : (D5 l).2.1 = rnx l (D4 l).2.1 := by rw [e5]
      have p6 : (D6 l).2.1 = rnx l (D5 l).2.1 := by rw [e6]
      rw [p6, ← n6, p5, ← n5, p4, ← n4, p3, ← n3, p2, ← n2, p1, ← n1, p0, ← n0]
      rfl
    · rw [if_neg hm] at h; cases h
  · rw [if_pos hE] at h
    exact absurd h hE
theorem decB_err {l : List UInt8} (h : (decB l).2 ≠ 0) : (decB l).1 = M0 := by
  unfold decB at h ⊢
  split
  · rfl
  · split
    · rename_i h1 h2
      rw [if_neg h1, if_pos h2] at h
      exact absurd rfl h
    · rfl
end Wir
end Go.Proofs.Ytfiknofmniiehaa
