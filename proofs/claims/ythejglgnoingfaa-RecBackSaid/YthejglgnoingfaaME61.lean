/- A record that is written is read as it was: plainly. -/
import Derived.Test.YthejglgnoingfaaProg
import Derived.KernelRfl
import Derived.Test.YthejglgnoingfaaMBaseAH
import Derived.Test.YthejglgnoingfaaME4
import Derived.Test.YthejglgnoingfaaMW14
namespace Go.Proofs.Ythejglgnoingfaa
open Go Go.RowKit B
set_option linter.unusedVariables false
set_option linter.unusedSimpArgs false
namespace Rc
open Wir (numB listB rdN rdL rdEnd numN rdn cerr rerr rval rnx)


theorem pd_pos {xs : List Int} (h : ∀ i, i < xs.length → pdAt xs i) : ∀ i, i < xs.length → 0 < xs.getD i 0
  | 0, hi => by
    have := (h 0 hi).1
    unfold lastP at this
    rw [if_pos rfl] at this
    exact this
  | i + 1, hi => by
    have h1 := pd_pos h i (by omega)
    have := (h (i + 1) hi).1
    unfold lastP at this
    rw [if_neg (by omega), Nat.add_sub_cancel] at this
    omega
theorem ok_ls {r : R} (h : Rc.okL r) : Wir.okL r.ls := fun x hx => by
  rcases h with ⟨_, h⟩ | ⟨_, h⟩
  · obtain ⟨i, hi, rfl⟩ := List.getElem_of_mem hx
    have h1 := pd_pos h.1 i hi
    have h2 := (h.1 i hi).2
    have e : r.ls.getD i 0 = r.ls[i] := by rw [List.getD_eq_getElem?_getD, List.getElem?_eq_getElem hi]; rfl
    exact ⟨by omega, by omega⟩
  · rw [List.eq_nil_of_length_eq_zero h] at hx; cases hx
theorem listB_yes {xs : List Int} (h : Wir.okL xs) (h2 : xs.length ≤ 4096) : listB xs = numB (xs.length : Int) ++ xs.flatMap numB := by
  unfold Wir.listB
  rw [if_neg (by omega), if_pos h]
theorem rdn_flat (rest : List UInt8) : ∀ (xs : List Int) (pre : List UInt8) (acc : List Int), Wir.okL xs → rdn (pre ++ (xs.flatMap numB ++ rest)) xs.length pre.length acc = (acc ++ xs, (pre ++ xs.flatMap numB).length, 0)
  | [], pre, acc, _ => by simp [rdn]
  | x :: t, pre, acc, h => by
    have hx : Wir.mayN x := h x List.mem_cons_self
    have e : pre ++ ((x :: t).flatMap numB ++ rest) = pre ++ (numN x.toNat ++ (t.flatMap numB ++ rest)) := by rw [List.flatMap_cons, Wir.numB_y hx, List.append_assoc]
    have h1 := Wir.rdN_num pre (t.flatMap numB ++ rest) (Wir.tn hx).1
    have h2 := Wir.num_rdN (l := pre ++ (numN x.toNat ++ (t.flatMap numB ++ rest))) (p := pre.length) (e := 0) (by rw [h1])
    have h3 := h1.symm.trans h2.2.2
    have hv : x.toNat = rval (pre ++ (numN x.toNat ++ (t.flatMap numB ++ rest))) pre.length := congrArg (·.1) h3
    have hp : (pre ++ numN x.toNat).length = rnx (pre ++ (numN x.toNat ++ (t.flatMap numB ++ rest))) pre.length := congrArg (·.2.1) h3
    have ih := rdn_flat rest t (pre ++ numN x.toNat) (acc ++ [x]) (fun y hy => h y (List.mem_cons_of_mem _ hy))
    rw [e, List.length_cons, rdn, if_pos h2.2.1, ← hv, ← hp, (Wir.tn hx).2, ← List.append_assoc]
    rw [ih, List.flatMap_cons, Wir.numB_y hx]
    simp only [List.append_assoc, List.singleton_append]
theorem rdL_list (pre : List UInt8) {xs : List Int} (h : Wir.okL xs) (h2 : xs.length ≤ 256) : rdL (pre ++ listB xs) pre.length 0 256 = (xs, (pre ++ listB xs).length, 0) := by
  have hm : Wir.mayN (xs.length : Int) := ⟨by omega, by omega⟩
  have e : pre ++ listB xs = pre ++ (numN xs.length ++ (xs.flatMap numB ++ [])) := by rw [listB_yes h (by omega), Wir.numB_y hm, List.append_nil]; rfl
  have h1 := Wir.rdN_num pre (xs.flatMap numB ++ []) (n := xs.length) (by omega)
  have h3 := Wir.num_rdN (l := pre ++ (numN xs.length ++ (xs.flatMap numB ++ []))) (p := pre.length) (e := 0) (by rw [h1])
  have h4 := h1.symm.trans h3.2.2
  rw [e]
  generalize hl : pre ++ (numN xs.length ++ (xs.flatMap numB ++ [])) = l at *
  have hv : xs.length = rval l pre.length := congrArg (·.1) h4
  have hp : (pre ++ numN xs.length).length = rnx l pre.length := congrArg (·.2.1) h4
  have hc : cerr l pre.length 256 = 0 := by unfold Wir.cerr; rw [if_neg (by rw [h3.2.1]; simp), if_neg (by rw [← hv]; omega)]
  have hr := rdn_flat [] xs (pre ++ numN xs.length) [] h
  rw [List.append_assoc, hl] at hr
  unfold Wir.rdL
  rw [if_neg (by simp), if_neg (by rw [hc]; simp), ← hv, ← hp, hr, ← hl]
  simp
theorem decM_enc {r : R} (h : okR r) : decM (encR r) = (r, 0) := by
  have h' := h
  obtain ⟨⟨q1, q2, q3⟩, q0, q4, q5⟩ := h'
  have m0 : Wir.mayN r.kd := ⟨q0.1, by have := q0.2; omega⟩
  have m4 : Wir.mayN r.ar := ⟨q4.1, by have := q4.2; omega⟩
  have t0 := Wir.tn m0
  have t1 := Wir.tn q1
  have t2 := Wir.tn q2
  have t3 := Wir.tn q3
  have t4 := Wir.tn m4
  have e : encR r = numN r.kd.toNat ++ (numN r.jb.toNat ++ (numN r.ep.toNat ++ (numN r.st.toNat ++ (numN r.ar.toNat ++ listB r.ls)))) := by
    rw [encR_y h, enc_five, Wir.numB_y m0, Wir.numB_y q1, Wir.numB_y q2, Wir.numB_y q3, Wir.numB_y m4]
    simp only [List.append_assoc]
  generalize hl : encR r = l at e
  have d0 : D0 l = (r.kd.toNat, (numN r.kd.toNat).length, 0) := by
    unfold D0; rw [e]; exact Wir.rdN_num [] _ t0.1
  have d1 : D1 l = (r.jb.toNat, ((numN r.kd.toNat ++ numN r.jb.toNat)).length, 0) := by
    unfold D1; rw [d0, e]; exact Wir.rdN_num _ _ t1.1
  have d2 : D2 l = (r.ep.toNat, (((numN r.kd.toNat ++ numN r.jb.toNat) ++ numN r.ep.toNat)).length, 0) := by
    unfold D2; rw [d1, e, ← List.append_assoc]; exact Wir.rdN_num _ _ t2.1
  have d3 : D3 l = (r.st.toNat, ((((numN r.kd.toNat ++ numN r.jb.toNat) ++ numN r.ep.toNat) ++ numN r.st.toNat)).length, 0) := by
    unfold D3; rw [d2, e, ← List.append_assoc, ← List.append_assoc]; exact Wir.rdN_num _ _ t3.1
  have d4 : D4 l = (r.ar.toNat, (((((numN r.kd.toNat ++ numN r.jb.toNat) ++ numN r.ep.toNat) ++ numN r.st.toNat) ++ numN r.ar.toNat)).length, 0) := by
    unfold D4; rw [d3, e, ← List.append_assoc, ← List.append_assoc, ← List.append_assoc]; exact Wir.rdN_num _ _ t4.1
  have e' : l = ((((numN r.kd.toNat ++ numN r.jb.toNat) ++ numN r.ep.toNat) ++ numN r.st.toNat) ++ numN r.ar.toNat) ++ listB r.ls := by rw [e]; simp
  have dL : DL l = (r.ls, l.length, 0) := by
    unfold DL; rw [d4]
    conv => lhs; rw [e']
    conv => rhs; rw [e']
    exact rdL_list _ (ok_ls q5) (okR_len h)
  have hE : decE l = 0 := by
    unfold decE Wir.rdEnd
    rw [dL, if_neg (by simp)]
  have hM : decV l = r := by
    unfold decV
    rw [d0, d1, d2, d3, d4, dL]
    obtain ⟨a0, a1, a2, a3, a4, a5⟩ := r
    simp only [t0.2, t1.2, t2.2, t3.2, t4.2]
  unfold decM
  rw [if_neg (fun hh => hh hE), hM, if_pos h]
theorem numN_ne (n : Nat) : numN n ≠ [] := by unfold Wir.numN; simp
theorem encR_e {r : R} : encR r = [] ↔ ¬ okR r := by
  constructor
  · intro h hc
    rw [encR_y hc, enc_five, Wir.numB_y ⟨hc.2.1.1, by have := hc.2.1.2; omega⟩] at h
    have := numN_ne r.kd.toNat
    simp at h
    exact this h.1
  · exact encR_n
theorem numB_nat {n : Nat} (h : n ≤ 1099511627776) : numB (n : Int) = numN n := (Wir.numB_y ⟨by omega, by omega⟩).trans (by rw [Int.toNat_natCast])
theorem rdn_inv {l : List UInt8} : ∀ (n q : Nat) (acc : List Int), (rdn l n q acc).2.2 = 0 → ∃ ys q', rdn l n q acc = (acc ++ ys, q', 0) ∧ ys.length = n ∧ Wir.okL ys ∧ l.drop q = ys.flatMap numB ++ l.drop q'
  | 0, q, acc, _ => ⟨[], q, by simp [rdn], rfl, (fun x hx => by cases hx), by simp⟩
  | n + 1, q, acc, h => by
    by_cases hr : rerr l q = 0
    · rw [rdn, if_pos hr] at h
      obtain ⟨ys, q', h1, h2, h3, h4⟩ := rdn_inv n (rnx l q) _ h
      have hb : rval l q ≤ 1099511627776 := (Wir.rerr_0 hr).2.2.1
      refine ⟨(rval l q : Int) :: ys, q', by rw [rdn, if_pos hr, h1]; simp, by simp [h2], fun x hx => ?_, ?_⟩
      · rcases List.mem_cons.1 hx with rfl | hx
        · exact ⟨by omega, by omega⟩
        · exact h3 x hx
      · rw [Wir.numN_val hr, h4, List.flatMap_cons, numB_nat hb, List.append_assoc]
    · rw [rdn, if_neg hr] at h
      exact absurd h hr
theorem encR_dec {l : List UInt8} (h : (decM l).2 = 0) : encR (decM l).1 = l := by
  by_cases hE : decE l = 0
  · by_cases hm : okR (decV l)
    · rw [decM_y hE hm]
      show encR (decV l) = l
      have hT : (DL l).2.2 = 0 ∧ l.length ≤ (DL l).2.1 := by
        unfold decE rdEnd at hE
        split at hE
        · cases hE
        · rename_i h1
          refine ⟨hE, ?_⟩
          rcases Nat.lt_or_ge (DL l).2.1 l.length with h2 | h2
          · exact absurd ⟨hE, h2⟩ h1
          · exact h2
      obtain ⟨hT1, hT2⟩ := hT
      have hT3 : (D4 l).2.2 = 0 ∧ cerr l (D4 l).2.1 256 = 0 ∧ DL l = rdn l (rval l (D4 l).2.1) (rnx l (D4 l).2.1) [] := by
        unfold DL at hT1 ⊢
        unfold Wir.rdL at hT1 ⊢
        by_cases h1 : (D4 l).2.2 = 0
        · rw [if_neg (by rw [h1]; simp)] at hT1 ⊢
          by_cases h2 : cerr l (D4 l).2.1 256 = 0
          · rw [if_neg (by rw [h2]; simp)] at hT1 ⊢
            exact ⟨h1, h2, rfl⟩
          · rw [if_pos h2] at hT1; exact absurd hT1 h2
        · rw [if_pos h1] at hT1; exact absurd hT1 h1
      obtain ⟨h4, hc, hDL⟩ := hT3
      obtain ⟨h3, r4, e4⟩ := Wir.num_rdN (l := l) (p := (D3 l).2.1) (e := (D3 l).2.2) h4
      obtain ⟨h2, r3, e3⟩ := Wir.num_rdN (l := l) (p := (D2 l).2.1) (e := (D2 l).2.2) h3
      obtain ⟨h1, r2, e2⟩ := Wir.num_rdN (l := l) (p := (D1 l).2.1) (e := (D1 l).2.2) h2
      obtain ⟨h0, r1, e1⟩ := Wir.num_rdN (l := l) (p := (D0 l).2.1) (e := (D0 l).2.2) h1
      obtain ⟨_, r0, e0⟩ := Wir.num_rdN (l := l) (p := 0) (e := 0) h0
      change D0 l = _ at e0
      change D1 l = _ at e1
      change D2 l = _ at e2
      change D3 l = _ at e3
      change D4 l = _ at e4
      obtain ⟨r5, hc2⟩ := Wir.cerr_0 hc
      have hT4 := hT1
      rw [hDL] at hT4
      obtain ⟨ys, q', f1, f2, f3, f4⟩ := rdn_inv _ _ _ hT4
      rw [f1] at hDL
      have n0 := Wir.numN_val r0
      have n1 := Wir.numN_val r1
      have n2 := Wir.numN_val r2
      have n3 := Wir.numN_val r3
      have n4 := Wir.numN_val r4
      have n5 := Wir.numN_val r5
      have p0 : (D0 l).2.1 = rnx l 0 := by rw [e0]
      have p1 : (D1 l).2.1 = rnx l (D0 l).2.1 := by rw [e1]
      have p2 : (D2 l).2.1 = rnx l (D1 l).2.1 := by rw [e2]
      have p3 : (D3 l).2.1 = rnx l (D2 l).2.1 := by rw [e3]
      have p4 : (D4 l).2.1 = rnx l (D3 l).2.1 := by rw [e4]
      rw [← p0] at n0
      rw [← p1] at n1
      rw [← p2] at n2
      rw [← p3] at n3
      rw [← p4] at n4
      have k0 : numB ((D0 l).1 : Int) = numN (rval l 0) := by rw [e0]; exact numB_nat (Wir.rerr_0 r0).2.2.1
      have k1 : numB ((D1 l).1 : Int) = numN (rval l (D0 l).2.1) := by rw [e1]; exact numB_nat (Wir.rerr_0 r1).2.2.1
      have k2 : numB ((D2 l).1 : Int) = numN (rval l (D1 l).2.1) := by rw [e2]; exact numB_nat (Wir.rerr_0 r2).2.2.1
      have k3 : numB ((D3 l).1 : Int) = numN (rval l (D2 l).2.1) := by rw [e3]; exact numB_nat (Wir.rerr_0 r3).2.2.1
      have k4 : numB ((D4 l).1 : Int) = numN (rval l (D3 l).2.1) := by rw [e4]; exact numB_nat (Wir.rerr_0 r4).2.2.1
      have hq : l.drop q' = [] := List.drop_eq_nil_of_le (by rw [hDL] at hT2; exact hT2)
      have kL : listB (DL l).1 = l.drop (D4 l).2.1 := by
        rw [hDL]
        show listB ([] ++ ys) = _
        rw [List.nil_append, listB_yes f3 (by omega), f2, numB_nat (by omega), n5, f4, hq, List.append_nil]
      rw [encR_y hm, enc_five]
      show (numB ((D0 l).1 : Int) ++ (numB ((D1 l).1 : Int) ++ (numB ((D2 l).1 : Int) ++ (numB ((D3 l).1 : Int) ++ numB ((D4 l).1 : Int))))) ++ listB (DL l).1 = l
      rw [k0, k1, k2, k3, k4, kL]
      simp only [List.append_assoc]
      rw [← n4, ← n3, ← n2, ← n1, ← n0]
      rfl
    · rw [decM_n hE hm] at h; cases h
  · have : decM l = (R0, decE l) := if_pos hE
    rw [this] at h
    exact absurd h hE
end Rc
end Go.Proofs.Ythejglgnoingfaa
