/- A credential that is written is read as it was: plainly. -/
import Derived.Test.YtbkfjedecepfoaaMC8
import Derived.Test.YtbkfjedecepfoaaMW14
namespace Go.Proofs.Ytbkfjedecepfoaa
open Go Go.RowKit B
set_option linter.unusedVariables false
set_option linter.unusedSimpArgs false
namespace Cr
open Wir (numN okL rdn cerr rerr rval rnx Vi mayN numB listB rdN rdL rdEnd)


theorem ok_nd {xs : List Int} (h : nodesOk xs) : okL xs := fun x hx => by
  obtain ⟨i, hi, rfl⟩ := List.getElem_of_mem hx
  have h1 := node_ge h.1 i hi
  have h2 := (h.1 i hi).2
  have e : xs.getD i 0 = xs[i] := by rw [List.getD_eq_getElem?_getD, List.getElem?_eq_getElem hi]; rfl
  exact ⟨by omega, by omega⟩
theorem listB_yes {xs : List Int} (h : okL xs) (h2 : xs.length ≤ 4096) : listB xs = numB (xs.length : Int) ++ xs.flatMap numB := by
  unfold Wir.listB
  rw [if_neg (by omega), if_pos h]
theorem rdn_flat (rest : List UInt8) : ∀ (xs : List Int) (pre : List UInt8) (acc : List Int), okL xs → rdn (pre ++ (xs.flatMap numB ++ rest)) xs.length pre.length acc = (acc ++ xs, (pre ++ xs.flatMap numB).length, 0)
  | [], pre, acc, _ => by simp [rdn]
  | x :: t, pre, acc, h => by
    have hx : mayN x := h x List.mem_cons_self
    have e : pre ++ ((x :: t).flatMap numB ++ rest) = pre ++ (numN x.toNat ++ (t.flatMap numB ++ rest)) := by rw [List.flatMap_cons, Wir.numB_y hx, List.append_assoc]
    have h1 := Wir.rdN_num pre (t.flatMap numB ++ rest) (Wir.tn hx).1
    have h2 := Wir.num_rdN (l := pre ++ (numN x.toNat ++ (t.flatMap numB ++ rest))) (p := pre.length) (e := 0) (by rw [h1])
    have h3 := h1.symm.trans h2.2.2
    have hv : x.toNat = rval (pre ++ (numN x.toNat ++ (t.flatMap numB ++ rest))) pre.length := congrArg (·.1) h3
    have hp : (pre ++ numN x.toNat).length = rnx (pre ++ (numN x.toNat ++ (t.flatMap numB ++ rest))) pre.length := congrArg (·.2.1) h3
    have ih := rdn_flat rest t (pre ++ numN x.toNat) (acc ++ [x]) (fun y hy => h y (List.mem_cons_of_mem _ hy))
    rw [e, List.length_cons, rdn, if_pos h2.2.1, ← hv, ← hp, (Wir.tn hx).2, ← List.append_assoc]
    rw [ih, List.flatMap_cons, Wir.numB_y hx]
    simp only [List.append_assoc, List.singleton_append]
theorem rdL_list (pre : List UInt8) {xs : List Int} (h : okL xs) (h2 : xs.length ≤ 16) : rdL (pre ++ listB xs) pre.length 0 16 = (xs, (pre ++ listB xs).length, 0) := by
  have hm : mayN (xs.length : Int) := ⟨by omega, by omega⟩
  have e : pre ++ listB xs = pre ++ (numN xs.length ++ (xs.flatMap numB ++ [])) := by rw [listB_yes h (by omega), Wir.numB_y hm, List.append_nil]; rfl
  have h1 := Wir.rdN_num pre (xs.flatMap numB ++ []) (n := xs.length) (by omega)
  have h3 := Wir.num_rdN (l := pre ++ (numN xs.length ++ (xs.flatMap numB ++ []))) (p := pre.length) (e := 0) (by rw [h1])
  have h4 := h1.symm.trans h3.2.2
  rw [e]
  generalize hl : pre ++ (numN xs.length ++ (xs.flatMap numB ++ [])) = l at *
  have hv : xs.length = rval l pre.length := congrArg (·.1) h4
  have hp : (pre ++ numN xs.length).length = rnx l pre.length := congrArg (·.2.1) h4
  have hc : cerr l pre.length 16 = 0 := by unfold Wir.cerr; rw [if_neg (by rw [h3.2.1]; simp), if_neg (by rw [← hv]; omega)]
  have hr := rdn_flat [] xs (pre ++ numN xs.length) [] h
  rw [List.append_assoc, hl] at hr
  unfold Wir.rdL
  rw [if_neg (by simp), if_neg (by rw [hc]; simp), ← hv, ← hp, hr, ← hl]
  simp
theorem decM_enc {c : C} (h : okC c) : decM (encC c) = (c, 0) := by
  have h' := h
  obtain ⟨q0, q1, q2, q3, q4, q5, q6⟩ := h'
  have t0 := Wir.tn q0
  have t1 := Wir.tn (n := c.ep) ⟨q4.1, by have := q4.2; omega⟩
  have t2 := Wir.tn q1
  have t3 := Wir.tn q2
  have t4 := Wir.tn q3
  have t5 := Wir.tn (n := c.co) ⟨by have := q5.1; omega, by have := q5.2; omega⟩
  have e : encC c = numN c.jb.toNat ++ (numN c.ep.toNat ++ (numN c.st.toNat ++ (numN c.fr.toNat ++ (numN c.un.toNat ++ (numN c.co.toNat ++ listB c.nd))))) := by
    rw [encC_y h, enc_six, Wir.numB_y q0, Wir.numB_y (n := c.ep) ⟨q4.1, by have := q4.2; omega⟩, Wir.numB_y q1, Wir.numB_y q2, Wir.numB_y q3, Wir.numB_y (n := c.co) ⟨by have := q5.1; omega, by have := q5.2; omega⟩]
    simp only [List.append_assoc]
  generalize hl : encC c = l at e
  have d0 : D0 l = (c.jb.toNat, (numN c.jb.toNat).length, 0) := by
    unfold D0; rw [e]; exact Wir.rdN_num [] _ t0.1
  have d1 : D1 l = (c.ep.toNat, ((numN c.jb.toNat ++ numN c.ep.toNat)).length, 0) := by
    unfold D1; rw [d0, e]; exact Wir.rdN_num _ _ t1.1
  have d2 : D2 l = (c.st.toNat, (((numN c.jb.toNat ++ numN c.ep.toNat) ++ numN c.st.toNat)).length, 0) := by
    unfold D2; rw [d1, e, ← List.append_assoc]; exact Wir.rdN_num _ _ t2.1
  have d3 : D3 l = (c.fr.toNat, ((((numN c.jb.toNat ++ numN c.ep.toNat) ++ numN c.st.toNat) ++ numN c.fr.toNat)).length, 0) := by
    unfold D3; rw [d2, e, ← List.append_assoc, ← List.append_assoc]; exact Wir.rdN_num _ _ t3.1
  have d4 : D4 l = (c.un.toNat, (((((numN c.jb.toNat ++ numN c.ep.toNat) ++ numN c.st.toNat) ++ numN c.fr.toNat) ++ numN c.un.toNat)).length, 0) := by
    unfold D4; rw [d3, e, ← List.append_assoc, ← List.append_assoc, ← List.append_assoc]; exact Wir.rdN_num _ _ t4.1
  have d5 : D5 l = (c.co.toNat, ((((((numN c.jb.toNat ++ numN c.ep.toNat) ++ numN c.st.toNat) ++ numN c.fr.toNat) ++ numN c.un.toNat) ++ numN c.co.toNat)).length, 0) := by
    unfold D5; rw [d4, e, ← List.append_assoc, ← List.append_assoc, ← List.append_assoc, ← List.append_assoc]; exact Wir.rdN_num _ _ t5.1
  have e' : l = (((((numN c.jb.toNat ++ numN c.ep.toNat) ++ numN c.st.toNat) ++ numN c.fr.toNat) ++ numN c.un.toNat) ++ numN c.co.toNat) ++ listB c.nd := by rw [e]; simp
  have dL : DL l = (c.nd, l.length, 0) := by
    unfold DL; rw [d5]
    conv => lhs; rw [e']
    conv => rhs; rw [e']
    exact rdL_list _ (ok_nd q6) (nodes_len q6)
  have hE : decE l = 0 := by
    unfold decE Wir.rdEnd
    rw [dL, if_neg (by simp)]
  have hM : decV l = c := by
    unfold decV
    rw [d0, d1, d2, d3, d4, d5, dL]
    obtain ⟨a0, a1, a2, a3, a4, a5, a6⟩ := c
    simp only [t0.2, t1.2, t2.2, t3.2, t4.2, t5.2]
  unfold decM
  rw [if_neg (fun hh => hh hE), hM, if_pos h]
theorem encC_ne {c : C} (h : okC c) : encC c ≠ [] := by
  rw [encC_y h, enc_six, Wir.numB_y h.1]
  unfold Wir.numN
  simp
theorem signM_y (k : List UInt8) {c : C} (h : okC c) : signM k c = encC c ++ ShaM.hmac k (encC c) := if_neg (encC_ne h)
theorem signM_len {k : List UInt8} {c : C} (h : okC c) : (signM k c).length = (encC c).length + 32 := by rw [signM_y k h, List.length_append, hmac_len]
theorem d32_sign {k : List UInt8} {c : C} (h : okC c) : d32 (signM k c) = encC c := by
  unfold d32
  rw [signM_len h, signM_y k h, Nat.add_sub_cancel, List.take_left' rfl]
theorem t32_sign {k : List UInt8} {c : C} (h : okC c) : t32 (signM k c) = ShaM.hmac k (encC c) := by
  unfold t32
  rw [signM_len h, signM_y k h, Nat.add_sub_cancel, List.drop_left' rfl]
theorem openM_sign {k : List UInt8} {c : C} (h : okC c) : openM k (signM k c) = (c, 0) := by
  rw [openM_y (by rw [signM_len h]; omega) (by rw [d32_sign h, t32_sign h]), d32_sign h]
  exact decM_enc h
theorem openM_cut {k l : List UInt8} (h : l.length < 32) : openM k l = (C0, 2) := if_pos h
theorem signM_e {k : List UInt8} {c : C} : signM k c = [] ↔ ¬ okC c := by
  constructor
  · intro h hc
    have := signM_len (k := k) hc
    rw [h] at this
    simp at this
  · intro h
    unfold signM
    rw [encC_n h, if_pos rfl]
end Cr
end Go.Proofs.Ytbkfjedecepfoaa
