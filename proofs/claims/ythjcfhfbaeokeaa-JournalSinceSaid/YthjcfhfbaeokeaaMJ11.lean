/- What is written is read: plainly. -/
import Derived.Test.YthjcfhfbaeokeaaMJ10
namespace Go.Proofs.Ythjcfhfbaeokeaa
open Go Go.RowKit B
set_option linter.unusedVariables false
set_option linter.unusedSimpArgs false
namespace Jo
open Wir (Vi textB numB rdT rdEnd wtext_c)


def okX (x : Ent) : Prop := okR x.1 x.2
def writeL (xs : List Ent) : List UInt8 := xs.flatMap fun x => recB x.1 x.2
theorem writeL_cons (x : Ent) (xs : List Ent) : writeL (x :: xs) = recB x.1 x.2 ++ writeL xs := List.flatMap_cons
theorem writeL_app (xs ys : List Ent) : writeL (xs ++ ys) = writeL xs ++ writeL ys := List.flatMap_append
theorem rdT_text0 {t rest : List UInt8} (h : t.length ≤ 4096) : rdT (textB t ++ rest) 0 0 = (t, (textB t).length, 0) := by
  have hm : Wir.mayN (t.length : Int) := ⟨by omega, by omega⟩
  have e0 : textB t = Wir.numN t.length ++ t := by
    unfold textB
    rw [if_neg (by omega), Wir.numB_y hm]
    rfl
  have h1 := Wir.rdN_num [] (t ++ rest) (n := t.length) (by omega)
  have e1 : textB t ++ rest = [] ++ (Wir.numN t.length ++ (t ++ rest)) := by rw [e0, List.append_assoc]; rfl
  rw [e1]
  have h2 := Wir.num_rdN (l := [] ++ (Wir.numN t.length ++ (t ++ rest))) (p := 0) (e := 0) (by have h1' : Wir.rdN ([] ++ (Wir.numN t.length ++ (t ++ rest))) 0 0 = _ := h1; rw [h1'])
  have h3 : (t.length, ([] ++ Wir.numN t.length).length, (0 : Int)) = _ := h1.symm.trans h2.2.2
  injection h3 with hv h4
  injection h4 with hx _
  have hc : Wir.cerr ([] ++ (Wir.numN t.length ++ (t ++ rest))) 0 4096 = 0 := by unfold Wir.cerr; rw [if_neg (by rw [h2.2.1]; simp), if_neg (by rw [← hv]; omega)]
  have hx2 : Wir.rnx ([] ++ (Wir.numN t.length ++ (t ++ rest))) 0 = (Wir.numN t.length).length := hx.symm
  unfold rdT
  rw [if_neg (by simp), if_neg (by rw [hc]; simp), hx2, ← hv, if_neg (by first | (simp; done) | (simp; omega)), e0]
  simp
theorem kOf_rec {k : Int} {t rest : List UInt8} (h : okK k) : kOf (74 :: UInt8.ofNat k.toNat :: rest) = k := by
  rcases h with rfl | rfl <;> rfl
theorem first_rec {k : Int} {t : List UInt8} (rest : List UInt8) (h : okR k t) : firstM (recB k t ++ rest) = some (k, t) := by
  have e1 : recB k t ++ rest = 74 :: UInt8.ofNat k.toNat :: (textB t ++ (sumB (hdB k t) ++ rest)) := by
    rw [recB_y h, hdB, List.append_assoc, List.cons_append, List.cons_append]
  have hk : kOf (recB k t ++ rest) = k := by rw [e1]; exact kOf_rec (t := t) h.1
  have hr : rdT ((recB k t ++ rest).drop 2) 0 0 = (t, (textB t).length, 0) := by rw [e1]; exact rdT_text0 h.2
  have ht : txOf (recB k t ++ rest) = t := by unfold txOf; rw [hr]
  have := firstM_d (s := recB k t ++ rest) ⟨by rw [e1]; simp, by rw [e1]; simp, fun hh => hh (by rw [hk]; exact h.1)⟩ (by rw [hr]) (by rw [hk, ht, List.length_append]; omega) (by rw [hk, ht]; exact List.take_left' rfl)
  rw [this, hk, ht]
theorem first_nil : firstM [] = none := firstM_a (.inl (by decide))
/-- what is at the front of a first part is at the front -/
theorem first_take {s : List UInt8} {j : Nat} {x : Ent} (h : firstM (s.take j) = some x) : firstM s = some x ∧ (recB x.1 x.2).length ≤ j ∧ (recB x.1 x.2).length ≤ s.length := by
  have hp := first_pos h
  have h1 := hp.2.1
  have h2 := hp.2.2
  rw [List.length_take] at h2
  rw [List.take_take, Nat.min_eq_left (by omega)] at h1
  have e : s = recB x.1 x.2 ++ s.drop (recB x.1 x.2).length := by
    conv => lhs; rw [← List.take_append_drop (recB x.1 x.2).length s, h1]
  refine ⟨?_, by omega, by omega⟩
  rw [e]
  exact first_rec _ hp.1
theorem first_torn {k : Int} {t : List UInt8} {j : Nat} (h : okR k t) (hj : j < (recB k t).length) : firstM ((recB k t).take j) = none := by
  cases hf : firstM ((recB k t).take j) with
  | none => rfl
  | some x =>
    have h1 := first_take hf
    have h2 := first_rec [] h
    rw [List.append_nil, h1.1] at h2
    injection h2 with h2
    subst h2
    have : (recB k t).length ≤ j := h1.2.1
    omega
theorem recsM_write {log : List UInt8} (hl : True) : ∀ (xs : List Ent) {n q : Nat} {out : List Ent} {rest : List UInt8}, (∀ x ∈ xs, okX x) → log.drop q = writeL xs ++ rest → q ≤ log.length → log.length ≤ q + n → firstM rest = none → recsM log n q out = (out ++ xs, q + (writeL xs).length)
  | [], n, q, out, rest, _, he, _, _, hf => by
    rw [recsM_none (by rw [he]; exact hf), List.append_nil]; rfl
  | x :: xs, n, q, out, rest, hok, he, hq, hn, hf => by
    have hx : okR x.1 x.2 := hok x List.mem_cons_self
    have hp := recB_pos hx
    rw [writeL_cons, List.append_assoc] at he
    have hlen : log.length - q = (recB x.1 x.2).length + ((writeL xs).length + rest.length) := by
      have := congrArg List.length he
      rwa [List.length_drop, List.length_append, List.length_append] at this
    have hst := recsM_some (log := log) (n := n) (q := q) (out := out) (x := x) hn (by omega) (by rw [he]; exact first_rec _ hx)
    rw [hst.2, recsM_write hl xs (fun y hy => hok y (List.mem_cons_of_mem _ hy)) (by rw [← List.drop_drop, he, List.drop_left' rfl]) (by omega) (by omega) hf, writeL_cons, List.length_append, List.append_assoc]
    rw [Nat.add_assoc]
    rfl
theorem readM_write {xs : List Ent} {rest : List UInt8} (hok : ∀ x ∈ xs, okX x) (hf : firstM rest = none) : readM (writeL xs ++ rest) = (xs, (writeL xs).length) := by
  have := recsM_write (log := writeL xs ++ rest) trivial xs (n := (writeL xs ++ rest).length) (q := 0) (out := []) hok rfl (Nat.zero_le _) (by omega) hf
  rw [Nat.zero_add] at this
  exact this
theorem recsM_spec {log : List UInt8} : ∀ {n q : Nat} {out : List Ent}, log.length ≤ q + n → q ≤ log.length → ∃ xs rest, (recsM log n q out).1 = out ++ xs ∧ (∀ x ∈ xs, okX x) ∧ log.drop q = writeL xs ++ rest ∧ firstM rest = none
  | 0, q, out, h, hq => ⟨[], [], by rw [List.append_nil]; rfl, fun x hx => (by cases hx), by rw [List.drop_eq_nil_of_le (by omega)]; rfl, first_nil⟩
  | n + 1, q, out, h, hq => by
    rw [recsM]
    split
    · split
      · rename_i hf
        exact ⟨[], log.drop q, by rw [List.append_nil], fun x hx => (by cases hx), rfl, hf⟩
      · rename_i x hx
        have hp := first_pos hx
        have hp1 := recB_pos hp.1
        have hp2 := hp.2.2
        rw [List.length_drop] at hp2
        obtain ⟨xs, rest, h1, h2, h3, h4⟩ := recsM_spec (log := log) (n := n) (q := q + (recB x.1 x.2).length) (out := out ++ [x]) (by omega) (by omega)
        refine ⟨x :: xs, rest, by rw [h1, List.append_assoc]; rfl, fun y hy => ?_, ?_, h4⟩
        · rcases List.mem_cons.1 hy with rfl | hy
          · exact hp.1
          · exact h2 y hy
        · rw [writeL_cons, List.append_assoc, ← h3, ← List.drop_drop]
          conv => lhs; rw [← List.take_append_drop (recB x.1 x.2).length (log.drop q), hp.2.1]
    · rename_i hlt
      exact ⟨[], [], by rw [List.append_nil], fun x hx => (by cases hx), by rw [List.drop_eq_nil_of_le (by omega)]; rfl, first_nil⟩
/-- what is read is what was written, up to where it is good -/
theorem readM_spec (log : List UInt8) : ∃ rest, log = writeL (readM log).1 ++ rest ∧ (∀ x ∈ (readM log).1, okX x) ∧ firstM rest = none ∧ (readM log).2 = (writeL (readM log).1).length := by
  obtain ⟨xs, rest, h1, h2, h3, h4⟩ := recsM_spec (log := log) (n := log.length) (q := 0) (out := []) (by omega) (Nat.zero_le _)
  rw [List.drop_zero] at h3
  have h5 : readM log = (xs, (writeL xs).length) := by
    conv => lhs; rw [h3]
    exact readM_write h2 h4
  refine ⟨rest, ?_, ?_, h4, ?_⟩
  · rw [h5]; exact h3
  · rw [h5]; exact h2
  · rw [h5]
theorem read_repair (log : List UInt8) : log.take (readM log).2 = writeL (readM log).1 ∧ readM (log.take (readM log).2) = readM log := by
  obtain ⟨rest, h1, h2, h3, h4⟩ := readM_spec log
  have e : log.take (readM log).2 = writeL (readM log).1 := by
    have h5 := congrArg (List.take (writeL (readM log).1).length) h1
    rw [List.take_left' rfl] at h5
    rw [h4]
    exact h5
  refine ⟨e, ?_⟩
  rw [e]
  have := readM_write (rest := []) h2 first_nil
  rw [List.append_nil] at this
  rw [this, ← h4]
theorem read_take (log : List UInt8) (j : Nat) (hj : j ≤ log.length) : (readM (log.take j)).2 ≤ j ∧ (readM (log.take j)).2 ≤ (readM log).2 ∧ ∃ zs, (readM log).1 = (readM (log.take j)).1 ++ zs := by
  obtain ⟨rest, h1, h2, h3, h4⟩ := readM_spec (log.take j)
  generalize hys : (readM (log.take j)).1 = ys at *
  obtain ⟨r4, g1, g2, g3, g4⟩ := readM_spec (rest ++ log.drop j)
  generalize hzs : (readM (rest ++ log.drop j)).1 = zs at *
  have e : log = writeL (ys ++ zs) ++ r4 := by
    conv => lhs; rw [← List.take_append_drop j log, h1, List.append_assoc, g1]
    rw [writeL_app, List.append_assoc]
  have e2 : readM log = (ys ++ zs, (writeL (ys ++ zs)).length) := by
    conv => lhs; rw [e]
    exact readM_write (fun x hx => by
      rcases List.mem_append.1 hx with hx | hx
      · exact h2 x hx
      · exact g2 x hx) g3
  have h5 := congrArg List.length h1
  rw [List.length_take, List.length_append] at h5
  refine ⟨by omega, ?_, zs, by rw [e2]⟩
  rw [e2, h4, writeL_app, List.length_append]
  show _ ≤ (writeL ys).length + (writeL zs).length
  omega
theorem sinceL_zero {xs ys : List Ent} (h : ∀ y ∈ ys, y.1 ≠ 1) (s : List UInt8) : sinceL (xs ++ (1, s) :: ys) = (1, s) :: ys := by
  unfold sinceL
  rw [List.foldl_append, List.foldl_cons]
  have e : sinceS (xs.foldl sinceS []) (1, s) = [(1, s)] := if_pos rfl
  rw [e]
  have key : ∀ (ys acc : List Ent), (∀ y ∈ ys, y.1 ≠ 1) → ys.foldl sinceS acc = acc ++ ys := by
    intro ys
    induction ys with
    | nil => intro acc _; rw [List.append_nil]; rfl
    | cons y ys ih =>
      intro acc hy
      rw [List.foldl_cons, ih _ (fun z hz => hy z (List.mem_cons_of_mem _ hz))]
      have e2 : sinceS acc y = acc ++ [y] := if_neg (hy y List.mem_cons_self)
      rw [e2, List.append_assoc]; rfl
  exact key ys _ h
end Jo
end Go.Proofs.Ythjcfhfbaeokeaa
