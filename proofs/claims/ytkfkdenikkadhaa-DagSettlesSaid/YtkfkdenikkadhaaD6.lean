/- Walks of package dag: the reference: whether a step may be. -/
import Derived.Test.YtkfkdenikkadhaaD5
namespace Go.Proofs.Ytkfkdenikkadhaa
open Go Go.RowKit B
set_option linter.unusedVariables false
set_option linter.unusedSimpArgs false
namespace Dg


theorem first5 (P0 P1 P2 P3 P4 : Prop) : (P0) ∨ (¬ P0 ∧ P1) ∨ (¬ P0 ∧ ¬ P1 ∧ P2) ∨ (¬ P0 ∧ ¬ P1 ∧ ¬ P2 ∧ P3) ∨ (¬ P0 ∧ ¬ P1 ∧ ¬ P2 ∧ ¬ P3 ∧ P4) ∨ (¬ P0 ∧ ¬ P1 ∧ ¬ P2 ∧ ¬ P3 ∧ ¬ P4) := by
  by_cases h0 : P0
  · exact .inl h0
  · by_cases h1 : P1
    · exact .inr (.inl ⟨h0, h1⟩)
    · by_cases h2 : P2
      · exact .inr (.inr (.inl ⟨h0, h1, h2⟩))
      · by_cases h3 : P3
        · exact .inr (.inr (.inr (.inl ⟨h0, h1, h2, h3⟩)))
        · by_cases h4 : P4
          · exact .inr (.inr (.inr (.inr (.inl ⟨h0, h1, h2, h3, h4⟩))))
          · exact .inr (.inr (.inr (.inr (.inr (⟨h0, h1, h2, h3, h4⟩)))))
theorem first8 (P0 P1 P2 P3 P4 P5 P6 P7 : Prop) : (¬ P0) ∨ (P0 ∧ ¬ P1) ∨ (P0 ∧ P1 ∧ ¬ P2) ∨ (P0 ∧ P1 ∧ P2 ∧ ¬ P3) ∨ (P0 ∧ P1 ∧ P2 ∧ P3 ∧ ¬ P4) ∨ (P0 ∧ P1 ∧ P2 ∧ P3 ∧ P4 ∧ ¬ P5) ∨ (P0 ∧ P1 ∧ P2 ∧ P3 ∧ P4 ∧ P5 ∧ ¬ P6) ∨ (P0 ∧ P1 ∧ P2 ∧ P3 ∧ P4 ∧ P5 ∧ P6 ∧ ¬ P7) ∨ (P0 ∧ P1 ∧ P2 ∧ P3 ∧ P4 ∧ P5 ∧ P6 ∧ P7) := by
  by_cases h0 : P0
  · by_cases h1 : P1
    · by_cases h2 : P2
      · by_cases h3 : P3
        · by_cases h4 : P4
          · by_cases h5 : P5
            · by_cases h6 : P6
              · by_cases h7 : P7
                · exact .inr (.inr (.inr (.inr (.inr (.inr (.inr (.inr (⟨h0, h1, h2, h3, h4, h5, h6, h7⟩))))))))
                · exact .inr (.inr (.inr (.inr (.inr (.inr (.inr (.inl ⟨h0, h1, h2, h3, h4, h5, h6, h7⟩)))))))
              · exact .inr (.inr (.inr (.inr (.inr (.inr (.inl ⟨h0, h1, h2, h3, h4, h5, h6⟩))))))
            · exact .inr (.inr (.inr (.inr (.inr (.inl ⟨h0, h1, h2, h3, h4, h5⟩)))))
          · exact .inr (.inr (.inr (.inr (.inl ⟨h0, h1, h2, h3, h4⟩))))
        · exact .inr (.inr (.inr (.inl ⟨h0, h1, h2, h3⟩)))
      · exact .inr (.inr (.inl ⟨h0, h1, h2⟩))
    · exact .inr (.inl ⟨h0, h1⟩)
  · exact .inl h0
theorem edgeCell {W w : World} {F : Snap} {cs : List Res} {ad : Addr} {es : List E} {n : Nat} (h : St W F cs w) (hR : RdS KE F (some ad) es) (hn : n < es.length) : w.cell? ((ad.add (n * 2)).add 0) = some (Vi (es.getD n E0).st) ∧ w.cell? ((ad.add (n * 2)).add 1) = some (Vi (es.getD n E0).kd) := by
  obtain ⟨ad', c, hA', hc, hr⟩ := hR.at_ (i := n) (x := es.getD n E0) (by rw [List.getD_eq_getElem?_getD, List.getElem?_eq_getElem hn]; rfl)
  injection hA' with hA'
  subst hA'
  have hc' : c = E.cs (es.getD n E0) := hc
  subst hc'
  rw [add_add, add_add]
  exact ⟨h.cell (hr 0 _ rfl), h.cell (hr 1 _ rfl)⟩
theorem okE_iff {a : Int} {n : Nat} {af : List E} {k : Nat} (hk : k ≤ af.length) : okE a n af k ↔ (0 ≤ (af.getD k E0).st ∧ (af.getD k E0).st < n ∧ (af.getD k E0).st ≠ a ∧ 0 ≤ (af.getD k E0).kd ∧ (af.getD k E0).kd ≤ 2) ∧ ∀ j, j < k → (af.getD j E0).st ≠ (af.getD k E0).st := by
  unfold okE inB
  simp only [decide_eq_true_eq, List.mem_cons, not_or, List.mem_map, not_exists, not_and]
  constructor
  · rintro ⟨h1, h2, h3, h4⟩
    refine ⟨by omega, fun j hj => ?_⟩
    exact h4 _ (List.mem_take_iff_getElem.2 ⟨j, by omega, by rw [List.getD_eq_getElem?_getD, List.getElem?_eq_getElem (by omega)]; rfl⟩)
  · rintro ⟨h1, h2⟩
    refine ⟨by omega, by omega, by omega, fun x hx => ?_⟩
    obtain ⟨j, hj, rfl⟩ := List.mem_take_iff_getElem.1 hx
    have := h2 j (by omega)
    rwa [List.getD_eq_getElem?_getD, List.getElem?_eq_getElem (by omega)] at this
set_option maxRecDepth 100000 in
set_option maxHeartbeats 8000000 in
theorem qstep_c {W : World} {F : Snap} {cs : List Res} (w : World) {A : Option Addr} {cap : Nat} (s : S) (a : Int) (n : Nat) (h : St W F cs w) (hR : RdS KE F A s.af) (hn : n ≤ 100000) (ha : s.af.length ≤ 100000) : Calls Try.prog 26 #[.agg #[Vi s.rk, Vi s.per, Vi s.ds, Vi s.lim, .slice A s.af.length cap], Vi a, Vi (n : Nat)] w fun r w' => r = .returned (.bool (decide (okS s a n))) ∧ St W F cs w'  := by
  refine enter (P := Try.prog) (args := [.agg #[Vi s.rk, Vi s.per, Vi s.ds, Vi s.lim, .slice A s.af.length cap], Vi a, Vi (n : Nat)]) Try.func26 rfl rfl rfl ?_
  refine WC.seq ?_
  refine WC.reg ?_
  refine WL.box rfl h rfl ?_
  intro b3 w1 h1
  refine WL.v (Runs.assign rfl) rfl ?_
  refine WL.nil ?_
  refine WN.thn ?_
  refine WC.seq ?_
  refine WC.seq ?_
  refine WC.reg ?_
  refine WL.v (Runs.assign rfl) rfl ?_
  refine WL.nil ?_
  refine WN.thn ?_
  refine WC.block ?_
  refine WC.loop (σ := Nat) (fun q_ => [(1, Vi a), (2, Vi (n : Nat)), (3, .pointer (some ⟨b3, 0, none⟩)), (7, .int .i64 (q_ : Int))]) (fun q_ w => q_ ≤ s.af.length ∧ (∀ j, j < q_ → okE a n s.af j) ∧ St W F ([(b3, .cells #[Vi s.rk, Vi s.per, Vi s.ds, Vi s.lim, .slice A s.af.length cap] 38 (0, 0))] :: cs) w) (fun q_ => s.af.length - q_) (0) (by repeat (first | exact trivial | refine ⟨rfl, ?_⟩)) (⟨Nat.zero_le _, fun j hj => absurd hj (Nat.not_lt_zero _), h1⟩) ?_
  rintro k w2 ⟨hk, hok, hL⟩
  try dsimp only at hk hok hL
  refine WC.sub (s := [(1, Vi a), (2, Vi (n : Nat)), (3, .pointer (some ⟨b3, 0, none⟩)), (7, .int .i64 (k : Int))]) (by repeat (first | exact trivial | refine ⟨rfl, ?_⟩)) ?_
  refine WC.seq ?_
  refine WC.seq ?_
  refine WC.reg ?_
  refine WL.v (Runs.move rfl) rfl ?_
  refine WL.v (Runs.fld fld38_4 rfl) rfl ?_
  refine WL.v (Runs.load1 Try.underlying36 rfl rfl (hL.ocell (i := 0) rfl rfl)) rfl ?_
  refine WL.v (Runs.intT (n := (s.af.length : Int)) (Runs.llen Try.underlying36 rfl rfl) rfl) rfl ?_
  refine WL.v (Runs.lss rfl rfl) rfl ?_
  refine WL.nil ?_
  refine WN.thn ?_
  refine WC.cond rfl (fun c3 => ?_) (fun c3 => ?_)
  · try simp only [decide_eq_true_eq, decide_eq_false_iff_not, Bool.not_eq_true', Bool.not_eq_false', Bool.and_eq_true, Int.not_lt, Int.not_le] at c3
    first
    | (exfalso; omega)
    | skip
      refine WC.skip ?_
      refine WN.thn ?_
      refine WC.seq ?_
      refine WC.block ?_
      refine WC.seq ?_
      have hk2 : k < s.af.length := by omega
      obtain ⟨ae, rfl⟩ := rdA hR (by omega)
      refine WC.reg ?_
      refine WL.v (Runs.fld fld38_4 rfl) rfl ?_
      refine WL.v (Runs.load1 Try.underlying36 rfl rfl (hL.ocell (i := 0) rfl rfl)) rfl ?_
      refine WL.v (Runs.move rfl) rfl ?_
      refine WL.v (Runs.lidxK Try.underlying36 inf40 rfl rfl (n := k) rfl (by omega)) rfl ?_
      refine WL.v (Runs.edgeA hL hR rfl (by omega) Try.underlying40 rfl inf40 rfl) rfl ?_
      refine WL.alloc' rfl hL inf40 ?_
      intro b8 w4 h4
      refine WL.storeAll h4 0 rfl rfl rfl inf40 rfl rfl rfl (Free.zero _) ?_
      intro  w5 h5
      try simp only [List.set_cons_zero, List.set_cons_succ, List.eraseIdx_cons_zero, List.eraseIdx_cons_succ] at h5
      refine WL.nil ?_
      refine WN.thn ?_
      refine WC.seq ?_
      refine WC.seq ?_
      rcases first5 ((s.af.getD k E0).st < 0) ((s.af.getD k E0).st ≥ (n : Int)) ((s.af.getD k E0).st = a) ((s.af.getD k E0).kd < 0) ((s.af.getD k E0).kd > 2) with q0 | ⟨q0, q1⟩ | ⟨q0, q1, q2⟩ | ⟨q0, q1, q2, q3⟩ | ⟨q0, q1, q2, q3, q4⟩ | ⟨q0, q1, q2, q3, q4⟩
      · skip
        refine WC.reg ?_
        refine WL.v (Runs.fld fld40_0 rfl) rfl ?_
        refine WL.v (Runs.load1 Try.underlying3 rfl rfl (h5.ocell (i := 0) rfl rfl)) rfl ?_
        refine WL.v (Runs.boolT (c := true) (Runs.lss rfl rfl) (decide_eq_true (by omega))) rfl ?_
        refine WL.v (Runs.move rfl) rfl ?_
        refine WL.goff rfl rfl rfl rfl ?_
        refine WL.goff rfl rfl rfl rfl ?_
        refine WL.goff rfl rfl rfl rfl ?_
        refine WL.goff rfl rfl rfl rfl ?_
        refine WL.v (Runs.pick rfl rfl rfl) rfl ?_
        refine WL.v (Runs.move rfl) rfl ?_
        refine WL.goff rfl rfl rfl rfl ?_
        refine WL.goff rfl rfl rfl rfl ?_
        refine WL.goff rfl rfl rfl rfl ?_
        refine WL.goff rfl rfl rfl rfl ?_
        refine WL.v (Runs.pick rfl rfl rfl) rfl ?_
        refine WL.v (Runs.move rfl) rfl ?_
        refine WL.goff rfl rfl rfl rfl ?_
        refine WL.goff rfl rfl rfl rfl ?_
        refine WL.goff rfl rfl rfl rfl ?_
        refine WL.v (Runs.pick rfl rfl rfl) rfl ?_
        refine WL.v (Runs.move rfl) rfl ?_
        refine WL.goff rfl rfl rfl rfl ?_
        refine WL.goff rfl rfl rfl rfl ?_
        refine WL.goff rfl rfl rfl rfl ?_
        refine WL.v (Runs.pick rfl rfl rfl) rfl ?_
        refine WL.nil ?_
        refine WN.thn ?_
        refine WC.condT rfl (rfl) ?_
        refine WC.seq ?_
        refine WC.reg ?_
        refine WL.v (Runs.assign rfl) rfl ?_
        refine WL.nil ?_
        refine WN.thn ?_
        refine WC.ret ?_
        refine ret1 rfl rfl ⟨?_, (h5.drop 0).drop 0⟩
        rw [decide_eq_false]
        intro hh
        have h9 := (okE_iff (Nat.le_of_lt hk2)).1 (hh.2 k hk2)
        omega
      · skip
        refine WC.reg ?_
        refine WL.v (Runs.fld fld40_0 rfl) rfl ?_
        refine WL.v (Runs.load1 Try.underlying3 rfl rfl (h5.ocell (i := 0) rfl rfl)) rfl ?_
        refine WL.v (Runs.boolT (c := false) (Runs.lss rfl rfl) (decide_eq_false (by omega))) rfl ?_
        refine WL.v (Runs.move rfl) rfl ?_
        refine WL.gon rfl rfl rfl ?_
        refine WL.v (Runs.fld fld40_0 rfl) rfl ?_
        refine WL.gon rfl rfl rfl ?_
        refine WL.v (Runs.load1 Try.underlying3 rfl rfl (h5.ocell (i := 0) rfl rfl)) rfl ?_
        refine WL.gon rfl rfl rfl ?_
        refine WL.v (Runs.move rfl) rfl ?_
        refine WL.gon rfl rfl rfl ?_
        refine WL.v (Runs.boolT (c := true) (Runs.geq rfl rfl) (decide_eq_true (by omega))) rfl ?_
        refine WL.v (Runs.pick rfl rfl rfl) rfl ?_
        refine WL.v (Runs.move rfl) rfl ?_
        refine WL.goff rfl rfl rfl rfl ?_
        refine WL.goff rfl rfl rfl rfl ?_
        refine WL.goff rfl rfl rfl rfl ?_
        refine WL.goff rfl rfl rfl rfl ?_
        refine WL.v (Runs.pick rfl rfl rfl) rfl ?_
        refine WL.v (Runs.move rfl) rfl ?_
        refine WL.goff rfl rfl rfl rfl ?_
        refine WL.goff rfl rfl rfl rfl ?_
        refine WL.goff rfl rfl rfl rfl ?_
        refine WL.v (Runs.pick rfl rfl rfl) rfl ?_
        refine WL.v (Runs.move rfl) rfl ?_
        refine WL.goff rfl rfl rfl rfl ?_
        refine WL.goff rfl rfl rfl rfl ?_
        refine WL.goff rfl rfl rfl rfl ?_
        refine WL.v (Runs.pick rfl rfl rfl) rfl ?_
        refine WL.nil ?_
        refine WN.thn ?_
        refine WC.condT rfl (rfl) ?_
        refine WC.seq ?_
        refine WC.reg ?_
        refine WL.v (Runs.assign rfl) rfl ?_
        refine WL.nil ?_
        refine WN.thn ?_
        refine WC.ret ?_
        refine ret1 rfl rfl ⟨?_, (h5.drop 0).drop 0⟩
        rw [decide_eq_false]
        intro hh
        have h9 := (okE_iff (Nat.le_of_lt hk2)).1 (hh.2 k hk2)
        omega
      · skip
        refine WC.reg ?_
        refine WL.v (Runs.fld fld40_0 rfl) rfl ?_
        refine WL.v (Runs.load1 Try.underlying3 rfl rfl (h5.ocell (i := 0) rfl rfl)) rfl ?_
        refine WL.v (Runs.boolT (c := false) (Runs.lss rfl rfl) (decide_eq_false (by omega))) rfl ?_
        refine WL.v (Runs.move rfl) rfl ?_
        refine WL.gon rfl rfl rfl ?_
        refine WL.v (Runs.fld fld40_0 rfl) rfl ?_
        refine WL.gon rfl rfl rfl ?_
        refine WL.v (Runs.load1 Try.underlying3 rfl rfl (h5.ocell (i := 0) rfl rfl)) rfl ?_
        refine WL.gon rfl rfl rfl ?_
        refine WL.v (Runs.move rfl) rfl ?_
        refine WL.gon rfl rfl rfl ?_
        refine WL.v (Runs.boolT (c := false) (Runs.geq rfl rfl) (decide_eq_false (by omega))) rfl ?_
        refine WL.v (Runs.pick rfl rfl rfl) rfl ?_
        refine WL.v (Runs.move rfl) rfl ?_
        refine WL.gon rfl rfl rfl ?_
        refine WL.v (Runs.fld fld40_0 rfl) rfl ?_
        refine WL.gon rfl rfl rfl ?_
        refine WL.v (Runs.load1 Try.underlying3 rfl rfl (h5.ocell (i := 0) rfl rfl)) rfl ?_
        refine WL.gon rfl rfl rfl ?_
        refine WL.v (Runs.move rfl) rfl ?_
        refine WL.gon rfl rfl rfl ?_
        refine WL.v (Runs.boolT (c := true) (Runs.eql rfl rfl) (decide_eq_true (by omega))) rfl ?_
        refine WL.v (Runs.pick rfl rfl rfl) rfl ?_
        refine WL.v (Runs.move rfl) rfl ?_
        refine WL.goff rfl rfl rfl rfl ?_
        refine WL.goff rfl rfl rfl rfl ?_
        refine WL.goff rfl rfl rfl rfl ?_
        refine WL.v (Runs.pick rfl rfl rfl) rfl ?_
        refine WL.v (Runs.move rfl) rfl ?_
        refine WL.goff rfl rfl rfl rfl ?_
        refine WL.goff rfl rfl rfl rfl ?_
        refine WL.goff rfl rfl rfl rfl ?_
        refine WL.v (Runs.pick rfl rfl rfl) rfl ?_
        refine WL.nil ?_
        refine WN.thn ?_
        refine WC.condT rfl (rfl) ?_
        refine WC.seq ?_
        refine WC.reg ?_
        refine WL.v (Runs.assign rfl) rfl ?_
        refine WL.nil ?_
        refine WN.thn ?_
        refine WC.ret ?_
        refine ret1 rfl rfl ⟨?_, (h5.drop 0).drop 0⟩
        rw [decide_eq_false]
        intro hh
        have h9 := (okE_iff (Nat.le_of_lt hk2)).1 (hh.2 k hk2)
        omega
      · skip
        refine WC.reg ?_
        refine WL.v (Runs.fld fld40_0 rfl) rfl ?_
        refine WL.v (Runs.load1 Try.underlying3 rfl rfl (h5.ocell (i := 0) rfl rfl)) rfl ?_
        refine WL.v (Runs.boolT (c := false) (Runs.lss rfl rfl) (decide_eq_false (by omega))) rfl ?_
        refine WL.v (Runs.move rfl) rfl ?_
        refine WL.gon rfl rfl rfl ?_
        refine WL.v (Runs.fld fld40_0 rfl) rfl ?_
        refine WL.gon rfl rfl rfl ?_
        refine WL.v (Runs.load1 Try.underlying3 rfl rfl (h5.ocell (i := 0) rfl rfl)) rfl ?_
        refine WL.gon rfl rfl rfl ?_
        refine WL.v (Runs.move rfl) rfl ?_
        refine WL.gon rfl rfl rfl ?_
        refine WL.v (Runs.boolT (c := false) (Runs.geq rfl rfl) (decide_eq_false (by omega))) rfl ?_
        refine WL.v (Runs.pick rfl rfl rfl) rfl ?_
        refine WL.v (Runs.move rfl) rfl ?_
        refine WL.gon rfl rfl rfl ?_
        refine WL.v (Runs.fld fld40_0 rfl) rfl ?_
        refine WL.gon rfl rfl rfl ?_
        refine WL.v (Runs.load1 Try.underlying3 rfl rfl (h5.ocell (i := 0) rfl rfl)) rfl ?_
        refine WL.gon rfl rfl rfl ?_
        refine WL.v (Runs.move rfl) rfl ?_
        refine WL.gon rfl rfl rfl ?_
        refine WL.v (Runs.boolT (c := false) (Runs.eql rfl rfl) (decide_eq_false (by omega))) rfl ?_
        refine WL.v (Runs.pick rfl rfl rfl) rfl ?_
        refine WL.v (Runs.move rfl) rfl ?_
        refine WL.gon rfl rfl rfl ?_
        refine WL.v (Runs.fld fld40_1 rfl) rfl ?_
        refine WL.gon rfl rfl rfl ?_
        refine WL.v (Runs.load1 Try.underlying3 rfl rfl (h5.ocell (i := 0) rfl rfl)) rfl ?_
        refine WL.gon rfl rfl rfl ?_
        refine WL.v (Runs.boolT (c := true) (Runs.lss rfl rfl) (decide_eq_true (by omega))) rfl ?_
        refine WL.v (Runs.pick rfl rfl rfl) rfl ?_
        refine WL.v (Runs.move rfl) rfl ?_
        refine WL.goff rfl rfl rfl rfl ?_
        refine WL.goff rfl rfl rfl rfl ?_
        refine WL.goff rfl rfl rfl rfl ?_
        refine WL.v (Runs.pick rfl rfl rfl) rfl ?_
        refine WL.nil ?_
        refine WN.thn ?_
        refine WC.condT rfl (rfl) ?_
        refine WC.seq ?_
        refine WC.reg ?_
        refine WL.v (Runs.assign rfl) rfl ?_
        refine WL.nil ?_
        refine WN.thn ?_
        refine WC.ret ?_
        refine ret1 rfl rfl ⟨?_, (h5.drop 0).drop 0⟩
        rw [decide_eq_false]
        intro hh
        have h9 := (okE_iff (Nat.le_of_lt hk2)).1 (hh.2 k hk2)
        omega
      · skip
        refine WC.reg ?_
        refine WL.v (Runs.fld fld40_0 rfl) rfl ?_
        refine WL.v (Runs.load1 Try.underlying3 rfl rfl (h5.ocell (i := 0) rfl rfl)) rfl ?_
        refine WL.v (Runs.boolT (c := false) (Runs.lss rfl rfl) (decide_eq_false (by omega))) rfl ?_
        refine WL.v (Runs.move rfl) rfl ?_
        refine WL.gon rfl rfl rfl ?_
        refine WL.v (Runs.fld fld40_0 rfl) rfl ?_
        refine WL.gon rfl rfl rfl ?_
        refine WL.v (Runs.load1 Try.underlying3 rfl rfl (h5.ocell (i := 0) rfl rfl)) rfl ?_
        refine WL.gon rfl rfl rfl ?_
        refine WL.v (Runs.move rfl) rfl ?_
        refine WL.gon rfl rfl rfl ?_
        refine WL.v (Runs.boolT (c := false) (Runs.geq rfl rfl) (decide_eq_false (by omega))) rfl ?_
        refine WL.v (Runs.pick rfl rfl rfl) rfl ?_
        refine WL.v (Runs.move rfl) rfl ?_
        refine WL.gon rfl rfl rfl ?_
        refine WL.v (Runs.fld fld40_0 rfl) rfl ?_
        refine WL.gon rfl rfl rfl ?_
        refine WL.v (Runs.load1 Try.underlying3 rfl rfl (h5.ocell (i := 0) rfl rfl)) rfl ?_
        refine WL.gon rfl rfl rfl ?_
        refine WL.v (Runs.move rfl) rfl ?_
        refine WL.gon rfl rfl rfl ?_
        refine WL.v (Runs.boolT (c := false) (Runs.eql rfl rfl) (decide_eq_false (by omega))) rfl ?_
        refine WL.v (Runs.pick rfl rfl rfl) rfl ?_
        refine WL.v (Runs.move rfl) rfl ?_
        refine WL.gon rfl rfl rfl ?_
        refine WL.v (Runs.fld fld40_1 rfl) rfl ?_
        refine WL.gon rfl rfl rfl ?_
        refine WL.v (Runs.load1 Try.underlying3 rfl rfl (h5.ocell (i := 0) rfl rfl)) rfl ?_
        refine WL.gon rfl rfl rfl ?_
        refine WL.v (Runs.boolT (c := false) (Runs.lss rfl rfl) (decide_eq_false (by omega))) rfl ?_
        refine WL.v (Runs.pick rfl rfl rfl) rfl ?_
        refine WL.v (Runs.move rfl) rfl ?_
        refine WL.gon rfl rfl rfl ?_
        refine WL.v (Runs.fld fld40_1 rfl) rfl ?_
        refine WL.gon rfl rfl rfl ?_
        refine WL.v (Runs.load1 Try.underlying3 rfl rfl (h5.ocell (i := 0) rfl rfl)) rfl ?_
        refine WL.gon rfl rfl rfl ?_
        refine WL.v (Runs.boolT (c := true) (Runs.gtr rfl rfl) (decide_eq_true (by omega))) rfl ?_
        refine WL.v (Runs.pick rfl rfl rfl) rfl ?_
        refine WL.nil ?_
        refine WN.thn ?_
        refine WC.condT rfl (rfl) ?_
        refine WC.seq ?_
        refine WC.reg ?_
        refine WL.v (Runs.assign rfl) rfl ?_
        refine WL.nil ?_
        refine WN.thn ?_
        refine WC.ret ?_
        refine ret1 rfl rfl ⟨?_, (h5.drop 0).drop 0⟩
        rw [decide_eq_false]
        intro hh
        have h9 := (okE_iff (Nat.le_of_lt hk2)).1 (hh.2 k hk2)
        omega
      · skip
        refine WC.reg ?_
        refine WL.v (Runs.fld fld40_0 rfl) rfl ?_
        refine WL.v (Runs.load1 Try.underlying3 rfl rfl (h5.ocell (i := 0) rfl rfl)) rfl ?_
        refine WL.v (Runs.boolT (c := false) (Runs.lss rfl rfl) (decide_eq_false (by omega))) rfl ?_
        refine WL.v (Runs.move rfl) rfl ?_
        refine WL.gon rfl rfl rfl ?_
        refine WL.v (Runs.fld fld40_0 rfl) rfl ?_
        refine WL.gon rfl rfl rfl ?_
        refine WL.v (Runs.load1 Try.underlying3 rfl rfl (h5.ocell (i := 0) rfl rfl)) rfl ?_
        refine WL.gon rfl rfl rfl ?_
        refine WL.v (Runs.move rfl) rfl ?_
        refine WL.gon rfl rfl rfl ?_
        refine WL.v (Runs.boolT (c := false) (Runs.geq rfl rfl) (decide_eq_false (by omega))) rfl ?_
        refine WL.v (Runs.pick rfl rfl rfl) rfl ?_
        refine WL.v (Runs.move rfl) rfl ?_
        refine WL.gon rfl rfl rfl ?_
        refine WL.v (Runs.fld fld40_0 rfl) rfl ?_
        refine WL.gon rfl rfl rfl ?_
        refine WL.v (Runs.load1 Try.underlying3 rfl rfl (h5.ocell (i := 0) rfl rfl)) rfl ?_
        refine WL.gon rfl rfl rfl ?_
        refine WL.v (Runs.move rfl) rfl ?_
        refine WL.gon rfl rfl rfl ?_
        refine WL.v (Runs.boolT (c := false) (Runs.eql rfl rfl) (decide_eq_false (by omega))) rfl ?_
        refine WL.v (Runs.pick rfl rfl rfl) rfl ?_
        refine WL.v (Runs.move rfl) rfl ?_
        refine WL.gon rfl rfl rfl ?_
        refine WL.v (Runs.fld fld40_1 rfl) rfl ?_
        refine WL.gon rfl rfl rfl ?_
        refine WL.v (Runs.load1 Try.underlying3 rfl rfl (h5.ocell (i := 0) rfl rfl)) rfl ?_
        refine WL.gon rfl rfl rfl ?_
        refine WL.v (Runs.boolT (c := false) (Runs.lss rfl rfl) (decide_eq_false (by omega))) rfl ?_
        refine WL.v (Runs.pick rfl rfl rfl) rfl ?_
        refine WL.v (Runs.move rfl) rfl ?_
        refine WL.gon rfl rfl rfl ?_
        refine WL.v (Runs.fld fld40_1 rfl) rfl ?_
        refine WL.gon rfl rfl rfl ?_
        refine WL.v (Runs.load1 Try.underlying3 rfl rfl (h5.ocell (i := 0) rfl rfl)) rfl ?_
        refine WL.gon rfl rfl rfl ?_
        refine WL.v (Runs.boolT (c := false) (Runs.gtr rfl rfl) (decide_eq_false (by omega))) rfl ?_
        refine WL.v (Runs.pick rfl rfl rfl) rfl ?_
        refine WL.nil ?_
        refine WN.thn ?_
        refine WC.condF rfl (rfl) ?_
        refine WC.skip ?_
        refine WN.thn ?_
        refine WC.seq ?_
        refine WC.reg ?_
        refine WL.v (Runs.assign rfl) rfl ?_
        refine WL.nil ?_
        refine WN.thn ?_
        refine WC.block ?_
        refine WC.loop (σ := Nat) (fun q_ => [(1, Vi a), (2, Vi (n : Nat)), (3, .pointer (some ⟨b3, 0, none⟩)), (7, .int .i64 (k : Int)), (8, .pointer (some ⟨b8, 0, none⟩)), (9, .int .i64 (q_ : Int))]) (fun q_ w => q_ ≤ k ∧ (∀ i, i < q_ → (s.af.getD i E0).st ≠ (s.af.getD k E0).st) ∧ St W F ([(b8, .cells #[Vi (s.af.getD k E0).st, Vi (s.af.getD k E0).kd] 40 (0, 0))] :: [(b3, .cells #[Vi s.rk, Vi s.per, Vi s.ds, Vi s.lim, .slice (some ae) s.af.length cap] 38 (0, 0))] :: cs) w) (fun q_ => k - q_) (0) (by repeat (first | exact trivial | refine ⟨rfl, ?_⟩)) (⟨Nat.zero_le _, fun j hj => absurd hj (Nat.not_lt_zero _), h5⟩) ?_
        rintro j w6 ⟨hj, hne, hL⟩
        try dsimp only at hj hne hL
        refine WC.sub (s := [(1, Vi a), (2, Vi (n : Nat)), (3, .pointer (some ⟨b3, 0, none⟩)), (7, .int .i64 (k : Int)), (8, .pointer (some ⟨b8, 0, none⟩)), (9, .int .i64 (j : Int))]) (by repeat (first | exact trivial | refine ⟨rfl, ?_⟩)) ?_
        refine WC.seq ?_
        refine WC.seq ?_
        refine WC.reg ?_
        refine WL.v (Runs.move rfl) rfl ?_
        refine WL.v (Runs.move rfl) rfl ?_
        refine WL.v (Runs.lss rfl rfl) rfl ?_
        refine WL.nil ?_
        refine WN.thn ?_
        refine WC.cond rfl (fun c7 => ?_) (fun c7 => ?_)
        · try simp only [decide_eq_true_eq, decide_eq_false_iff_not, Bool.not_eq_true', Bool.not_eq_false', Bool.and_eq_true, Int.not_lt, Int.not_le] at c7
          first
          | (exfalso; omega)
          | skip
            refine WC.skip ?_
            refine WN.thn ?_
            refine WC.seq ?_
            refine WC.block ?_
            refine WC.seq ?_
            refine WC.qreg (C := fun w_ => St W F _ w_) mixed (by kernel_rfl) (hL.drew) ?_
            refine WQ.val (fun w_ hC_ => Runs.fld fld38_4 rfl) rfl ?_
            refine WQ.val (fun w_ hC_ => Runs.load1 Try.underlying36 rfl rfl (hC_.ocell (i := 1) rfl rfl)) rfl ?_
            refine WQ.val (fun w_ hC_ => Runs.move rfl) rfl ?_
            refine WQ.val (fun w_ hC_ => Runs.lidxK Try.underlying36 inf40 rfl rfl (n := j) rfl (by omega)) rfl ?_
            refine WQ.val (fun w_ hC_ => Runs.fld fld40_0 rfl) rfl ?_
            refine WQ.val (fun w_ hC_ => Runs.load1 Try.underlying3 rfl rfl (edgeCell hC_ hR (by omega)).1) rfl ?_
            refine WQ.val (fun w_ hC_ => Runs.fld fld40_0 rfl) rfl ?_
            refine WQ.val (fun w_ hC_ => Runs.load1 Try.underlying3 rfl rfl (hC_.ocell (i := 0) rfl rfl)) rfl ?_
            refine WQ.val (fun w_ hC_ => Runs.eql rfl rfl) rfl ?_
            refine WQ.fin ?_
            intro w8 h8
            refine WN.thn ?_
            refine WC.cond rfl (fun c9 => ?_) (fun c9 => ?_)
            · try simp only [decide_eq_true_eq, decide_eq_false_iff_not, Bool.not_eq_true', Bool.not_eq_false', Bool.and_eq_true, Int.not_lt, Int.not_le] at c9
              first
              | (exfalso; omega)
              | skip
                refine WC.seq ?_
                refine WC.reg ?_
                refine WL.v (Runs.assign rfl) rfl ?_
                refine WL.nil ?_
                refine WN.thn ?_
                refine WC.ret ?_
                refine ret1 rfl rfl ⟨?_, (h8.drop 0).drop 0⟩
                rw [decide_eq_false]
                intro hh
                have h9 := (okE_iff (Nat.le_of_lt hk2)).1 (hh.2 k hk2)
                exact h9.2 j (by omega) c9
            · try simp only [decide_eq_true_eq, decide_eq_false_iff_not, Bool.not_eq_true', Bool.not_eq_false', Bool.and_eq_true, Int.not_lt, Int.not_le] at c9
              first
              | (exfalso; omega)
              | skip
                refine WC.skip ?_
                refine WN.blk ?_
                refine WN.thn ?_
                refine WC.reg ?_
                refine WL.v (Runs.move rfl) rfl ?_
                refine WL.v (Runs.addn rfl rfl (by omega)) rfl ?_
                refine WL.v (Runs.assign rfl) rfl ?_
                refine WL.nil ?_
                exact WN.again (j + 1) (by omega) ⟨rfl, rfl, rfl, rfl, rfl, rfl, trivial⟩ ⟨by omega, fun i2 hi2 => (by
                  by_cases e : i2 = j
                  · subst e; exact c9
                  · exact hne i2 (by omega)), h8⟩
        · try simp only [decide_eq_true_eq, decide_eq_false_iff_not, Bool.not_eq_true', Bool.not_eq_false', Bool.and_eq_true, Int.not_lt, Int.not_le] at c7
          first
          | (exfalso; omega)
          | skip
            refine WC.exit ?_
            refine WX.thn ?_
            refine WX.cut ?_
            refine WX.hit ?_
            refine WN.blk ?_
            refine WN.thn ?_
            refine WC.reg ?_
            refine WL.v (Runs.move rfl) rfl ?_
            refine WL.v (Runs.addn rfl rfl (by omega)) rfl ?_
            refine WL.v (Runs.assign rfl) rfl ?_
            refine WL.nil ?_
            exact WN.again (k + 1) (by omega) ⟨rfl, rfl, rfl, rfl, trivial⟩ ⟨by omega, fun j2 hj2 => (by
              by_cases e : j2 = k
              · subst e; exact (okE_iff (by omega)).2 ⟨by omega, fun i2 hi2 => hne i2 (by omega)⟩
              · exact hok j2 (by omega)), hL.drop 0⟩
  · try simp only [decide_eq_true_eq, decide_eq_false_iff_not, Bool.not_eq_true', Bool.not_eq_false', Bool.and_eq_true, Int.not_lt, Int.not_le] at c3
    first
    | (exfalso; omega)
    | skip
      refine WC.exit ?_
      refine WX.thn ?_
      refine WX.cut ?_
      refine WX.hit ?_
      refine WN.thn ?_
      refine WC.seq ?_
      rcases first8 (s.rk ≥ 1) (s.rk ≤ 32) (s.per ≥ 1) (s.per ≤ 256) (s.ds ≥ 0) (s.ds ≤ 1) (s.lim ≥ 1) (s.lim ≤ 1073741824) with q0 | ⟨q0, q1⟩ | ⟨q0, q1, q2⟩ | ⟨q0, q1, q2, q3⟩ | ⟨q0, q1, q2, q3, q4⟩ | ⟨q0, q1, q2, q3, q4, q5⟩ | ⟨q0, q1, q2, q3, q4, q5, q6⟩ | ⟨q0, q1, q2, q3, q4, q5, q6, q7⟩ | ⟨q0, q1, q2, q3, q4, q5, q6, q7⟩
      · skip
        refine WC.reg ?_
        refine WL.v (Runs.fld fld38_0 rfl) rfl ?_
        refine WL.v (Runs.load1 Try.underlying3 rfl rfl (hL.ocell (i := 0) rfl rfl)) rfl ?_
        refine WL.v (Runs.boolT (c := false) (Runs.geq rfl rfl) (decide_eq_false (by omega))) rfl ?_
        refine WL.v (Runs.move rfl) rfl ?_
        refine WL.goff rfl rfl rfl rfl ?_
        refine WL.goff rfl rfl rfl rfl ?_
        refine WL.goff rfl rfl rfl rfl ?_
        refine WL.v (Runs.pick rfl rfl rfl) rfl ?_
        refine WL.v (Runs.move rfl) rfl ?_
        refine WL.goff rfl rfl rfl rfl ?_
        refine WL.goff rfl rfl rfl rfl ?_
        refine WL.goff rfl rfl rfl rfl ?_
        refine WL.v (Runs.pick rfl rfl rfl) rfl ?_
        refine WL.v (Runs.move rfl) rfl ?_
        refine WL.goff rfl rfl rfl rfl ?_
        refine WL.goff rfl rfl rfl rfl ?_
        refine WL.goff rfl rfl rfl rfl ?_
        refine WL.v (Runs.pick rfl rfl rfl) rfl ?_
        refine WL.v (Runs.move rfl) rfl ?_
        refine WL.goff rfl rfl rfl rfl ?_
        refine WL.goff rfl rfl rfl rfl ?_
        refine WL.goff rfl rfl rfl rfl ?_
        refine WL.v (Runs.pick rfl rfl rfl) rfl ?_
        refine WL.v (Runs.move rfl) rfl ?_
        refine WL.goff rfl rfl rfl rfl ?_
        refine WL.goff rfl rfl rfl rfl ?_
        refine WL.goff rfl rfl rfl rfl ?_
        refine WL.v (Runs.pick rfl rfl rfl) rfl ?_
        refine WL.v (Runs.move rfl) rfl ?_
        refine WL.goff rfl rfl rfl rfl ?_
        refine WL.goff rfl rfl rfl rfl ?_
        refine WL.goff rfl rfl rfl rfl ?_
        refine WL.v (Runs.pick rfl rfl rfl) rfl ?_
        refine WL.v (Runs.move rfl) rfl ?_
        refine WL.goff rfl rfl rfl rfl ?_
        refine WL.goff rfl rfl rfl rfl ?_
        refine WL.goff rfl rfl rfl rfl ?_
        refine WL.v (Runs.pick rfl rfl rfl) rfl ?_
        refine WL.v (Runs.assign rfl) rfl ?_
        refine WL.nil ?_
        refine WN.thn ?_
        refine WC.ret ?_
        have hz : ¬ okS s a n := by
          intro hh
          obtain ⟨⟨g0, g1, g2, g3⟩, _⟩ := hh
          have g0 := of_decide_eq_true g0
          have g1 := of_decide_eq_true g1
          have g2 := of_decide_eq_true g2
          have g3 := of_decide_eq_true g3
          omega
        refine ret1 rfl rfl ⟨?_, hL.drop 0⟩
        rw [decide_eq_false hz]
        rfl
      · skip
        refine WC.reg ?_
        refine WL.v (Runs.fld fld38_0 rfl) rfl ?_
        refine WL.v (Runs.load1 Try.underlying3 rfl rfl (hL.ocell (i := 0) rfl rfl)) rfl ?_
        refine WL.v (Runs.boolT (c := true) (Runs.geq rfl rfl) (decide_eq_true (by omega))) rfl ?_
        refine WL.v (Runs.move rfl) rfl ?_
        refine WL.gon rfl rfl rfl ?_
        refine WL.v (Runs.fld fld38_0 rfl) rfl ?_
        refine WL.gon rfl rfl rfl ?_
        refine WL.v (Runs.load1 Try.underlying3 rfl rfl (hL.ocell (i := 0) rfl rfl)) rfl ?_
        refine WL.gon rfl rfl rfl ?_
        refine WL.v (Runs.boolT (c := false) (Runs.leq rfl rfl) (decide_eq_false (by omega))) rfl ?_
        refine WL.v (Runs.pick rfl rfl rfl) rfl ?_
        refine WL.v (Runs.move rfl) rfl ?_
        refine WL.goff rfl rfl rfl rfl ?_
        refine WL.goff rfl rfl rfl rfl ?_
        refine WL.goff rfl rfl rfl rfl ?_
        refine WL.v (Runs.pick rfl rfl rfl) rfl ?_
        refine WL.v (Runs.move rfl) rfl ?_
        refine WL.goff rfl rfl rfl rfl ?_
        refine WL.goff rfl rfl rfl rfl ?_
        refine WL.goff rfl rfl rfl rfl ?_
        refine WL.v (Runs.pick rfl rfl rfl) rfl ?_
        refine WL.v (Runs.move rfl) rfl ?_
        refine WL.goff rfl rfl rfl rfl ?_
        refine WL.goff rfl rfl rfl rfl ?_
        refine WL.goff rfl rfl rfl rfl ?_
        refine WL.v (Runs.pick rfl rfl rfl) rfl ?_
        refine WL.v (Runs.move rfl) rfl ?_
        refine WL.goff rfl rfl rfl rfl ?_
        refine WL.goff rfl rfl rfl rfl ?_
        refine WL.goff rfl rfl rfl rfl ?_
        refine WL.v (Runs.pick rfl rfl rfl) rfl ?_
        refine WL.v (Runs.move rfl) rfl ?_
        refine WL.goff rfl rfl rfl rfl ?_
        refine WL.goff rfl rfl rfl rfl ?_
        refine WL.goff rfl rfl rfl rfl ?_
        refine WL.v (Runs.pick rfl rfl rfl) rfl ?_
        refine WL.v (Runs.move rfl) rfl ?_
        refine WL.goff rfl rfl rfl rfl ?_
        refine WL.goff rfl rfl rfl rfl ?_
        refine WL.goff rfl rfl rfl rfl ?_
        refine WL.v (Runs.pick rfl rfl rfl) rfl ?_
        refine WL.v (Runs.assign rfl) rfl ?_
        refine WL.nil ?_
        refine WN.thn ?_
        refine WC.ret ?_
        have hz : ¬ okS s a n := by
          intro hh
          obtain ⟨⟨g0, g1, g2, g3⟩, _⟩ := hh
          have g0 := of_decide_eq_true g0
          have g1 := of_decide_eq_true g1
          have g2 := of_decide_eq_true g2
          have g3 := of_decide_eq_true g3
          omega
        refine ret1 rfl rfl ⟨?_, hL.drop 0⟩
        rw [decide_eq_false hz]
        rfl
      · skip
        refine WC.reg ?_
        refine WL.v (Runs.fld fld38_0 rfl) rfl ?_
        refine WL.v (Runs.load1 Try.underlying3 rfl rfl (hL.ocell (i := 0) rfl rfl)) rfl ?_
        refine WL.v (Runs.boolT (c := true) (Runs.geq rfl rfl) (decide_eq_true (by omega))) rfl ?_
        refine WL.v (Runs.move rfl) rfl ?_
        refine WL.gon rfl rfl rfl ?_
        refine WL.v (Runs.fld fld38_0 rfl) rfl ?_
        refine WL.gon rfl rfl rfl ?_
        refine WL.v (Runs.load1 Try.underlying3 rfl rfl (hL.ocell (i := 0) rfl rfl)) rfl ?_
        refine WL.gon rfl rfl rfl ?_
        refine WL.v (Runs.boolT (c := true) (Runs.leq rfl rfl) (decide_eq_true (by omega))) rfl ?_
        refine WL.v (Runs.pick rfl rfl rfl) rfl ?_
        refine WL.v (Runs.move rfl) rfl ?_
        refine WL.gon rfl rfl rfl ?_
        refine WL.v (Runs.fld fld38_1 rfl) rfl ?_
        refine WL.gon rfl rfl rfl ?_
        refine WL.v (Runs.load1 Try.underlying3 rfl rfl (hL.ocell (i := 0) rfl rfl)) rfl ?_
        refine WL.gon rfl rfl rfl ?_
        refine WL.v (Runs.boolT (c := false) (Runs.geq rfl rfl) (decide_eq_false (by omega))) rfl ?_
        refine WL.v (Runs.pick rfl rfl rfl) rfl ?_
        refine WL.v (Runs.move rfl) rfl ?_
        refine WL.goff rfl rfl rfl rfl ?_
        refine WL.goff rfl rfl rfl rfl ?_
        refine WL.goff rfl rfl rfl rfl ?_
        refine WL.v (Runs.pick rfl rfl rfl) rfl ?_
        refine WL.v (Runs.move rfl) rfl ?_
        refine WL.goff rfl rfl rfl rfl ?_
        refine WL.goff rfl rfl rfl rfl ?_
        refine WL.goff rfl rfl rfl rfl ?_
        refine WL.v (Runs.pick rfl rfl rfl) rfl ?_
        refine WL.v (Runs.move rfl) rfl ?_
        refine WL.goff rfl rfl rfl rfl ?_
        refine WL.goff rfl rfl rfl rfl ?_
        refine WL.goff rfl rfl rfl rfl ?_
        refine WL.v (Runs.pick rfl rfl rfl) rfl ?_
        refine WL.v (Runs.move rfl) rfl ?_
        refine WL.goff rfl rfl rfl rfl ?_
        refine WL.goff rfl rfl rfl rfl ?_
        refine WL.goff rfl rfl rfl rfl ?_
        refine WL.v (Runs.pick rfl rfl rfl) rfl ?_
        refine WL.v (Runs.move rfl) rfl ?_
        refine WL.goff rfl rfl rfl rfl ?_
        refine WL.goff rfl rfl rfl rfl ?_
        refine WL.goff rfl rfl rfl rfl ?_
        refine WL.v (Runs.pick rfl rfl rfl) rfl ?_
        refine WL.v (Runs.assign rfl) rfl ?_
        refine WL.nil ?_
        refine WN.thn ?_
        refine WC.ret ?_
        have hz : ¬ okS s a n := by
          intro hh
          obtain ⟨⟨g0, g1, g2, g3⟩, _⟩ := hh
          have g0 := of_decide_eq_true g0
          have g1 := of_decide_eq_true g1
          have g2 := of_decide_eq_true g2
          have g3 := of_decide_eq_true g3
          omega
        refine ret1 rfl rfl ⟨?_, hL.drop 0⟩
        rw [decide_eq_false hz]
        rfl
      · skip
        refine WC.reg ?_
        refine WL.v (Runs.fld fld38_0 rfl) rfl ?_
        refine WL.v (Runs.load1 Try.underlying3 rfl rfl (hL.ocell (i := 0) rfl rfl)) rfl ?_
        refine WL.v (Runs.boolT (c := true) (Runs.geq rfl rfl) (decide_eq_true (by omega))) rfl ?_
        refine WL.v (Runs.move rfl) rfl ?_
        refine WL.gon rfl rfl rfl ?_
        refine WL.v (Runs.fld fld38_0 rfl) rfl ?_
        refine WL.gon rfl rfl rfl ?_
        refine WL.v (Runs.load1 Try.underlying3 rfl rfl (hL.ocell (i := 0) rfl rfl)) rfl ?_
        refine WL.gon rfl rfl rfl ?_
        refine WL.v (Runs.boolT (c := true) (Runs.leq rfl rfl) (decide_eq_true (by omega))) rfl ?_
        refine WL.v (Runs.pick rfl rfl rfl) rfl ?_
        refine WL.v (Runs.move rfl) rfl ?_
        refine WL.gon rfl rfl rfl ?_
        refine WL.v (Runs.fld fld38_1 rfl) rfl ?_
        refine WL.gon rfl rfl rfl ?_
        refine WL.v (Runs.load1 Try.underlying3 rfl rfl (hL.ocell (i := 0) rfl rfl)) rfl ?_
        refine WL.gon rfl rfl rfl ?_
        refine WL.v (Runs.boolT (c := true) (Runs.geq rfl rfl) (decide_eq_true (by omega))) rfl ?_
        refine WL.v (Runs.pick rfl rfl rfl) rfl ?_
        refine WL.v (Runs.move rfl) rfl ?_
        refine WL.gon rfl rfl rfl ?_
        refine WL.v (Runs.fld fld38_1 rfl) rfl ?_
        refine WL.gon rfl rfl rfl ?_
        refine WL.v (Runs.load1 Try.underlying3 rfl rfl (hL.ocell (i := 0) rfl rfl)) rfl ?_
        refine WL.gon rfl rfl rfl ?_
        refine WL.v (Runs.boolT (c := false) (Runs.leq rfl rfl) (decide_eq_false (by omega))) rfl ?_
        refine WL.v (Runs.pick rfl rfl rfl) rfl ?_
        refine WL.v (Runs.move rfl) rfl ?_
        refine WL.goff rfl rfl rfl rfl ?_
        refine WL.goff rfl rfl rfl rfl ?_
        refine WL.goff rfl rfl rfl rfl ?_
        refine WL.v (Runs.pick rfl rfl rfl) rfl ?_
        refine WL.v (Runs.move rfl) rfl ?_
        refine WL.goff rfl rfl rfl rfl ?_
        refine WL.goff rfl rfl rfl rfl ?_
        refine WL.goff rfl rfl rfl rfl ?_
        refine WL.v (Runs.pick rfl rfl rfl) rfl ?_
        refine WL.v (Runs.move rfl) rfl ?_
        refine WL.goff rfl rfl rfl rfl ?_
        refine WL.goff rfl rfl rfl rfl ?_
        refine WL.goff rfl rfl rfl rfl ?_
        refine WL.v (Runs.pick rfl rfl rfl) rfl ?_
        refine WL.v (Runs.move rfl) rfl ?_
        refine WL.goff rfl rfl rfl rfl ?_
        refine WL.goff rfl rfl rfl rfl ?_
        refine WL.goff rfl rfl rfl rfl ?_
        refine WL.v (Runs.pick rfl rfl rfl) rfl ?_
        refine WL.v (Runs.assign rfl) rfl ?_
        refine WL.nil ?_
        refine WN.thn ?_
        refine WC.ret ?_
        have hz : ¬ okS s a n := by
          intro hh
          obtain ⟨⟨g0, g1, g2, g3⟩, _⟩ := hh
          have g0 := of_decide_eq_true g0
          have g1 := of_decide_eq_true g1
          have g2 := of_decide_eq_true g2
          have g3 := of_decide_eq_true g3
          omega
        refine ret1 rfl rfl ⟨?_, hL.drop 0⟩
        rw [decide_eq_false hz]
        rfl
      · skip
        refine WC.reg ?_
        refine WL.v (Runs.fld fld38_0 rfl) rfl ?_
        refine WL.v (Runs.load1 Try.underlying3 rfl rfl (hL.ocell (i := 0) rfl rfl)) rfl ?_
        refine WL.v (Runs.boolT (c := true) (Runs.geq rfl rfl) (decide_eq_true (by omega))) rfl ?_
        refine WL.v (Runs.move rfl) rfl ?_
        refine WL.gon rfl rfl rfl ?_
        refine WL.v (Runs.fld fld38_0 rfl) rfl ?_
        refine WL.gon rfl rfl rfl ?_
        refine WL.v (Runs.load1 Try.underlying3 rfl rfl (hL.ocell (i := 0) rfl rfl)) rfl ?_
        refine WL.gon rfl rfl rfl ?_
        refine WL.v (Runs.boolT (c := true) (Runs.leq rfl rfl) (decide_eq_true (by omega))) rfl ?_
        refine WL.v (Runs.pick rfl rfl rfl) rfl ?_
        refine WL.v (Runs.move rfl) rfl ?_
        refine WL.gon rfl rfl rfl ?_
        refine WL.v (Runs.fld fld38_1 rfl) rfl ?_
        refine WL.gon rfl rfl rfl ?_
        refine WL.v (Runs.load1 Try.underlying3 rfl rfl (hL.ocell (i := 0) rfl rfl)) rfl ?_
        refine WL.gon rfl rfl rfl ?_
        refine WL.v (Runs.boolT (c := true) (Runs.geq rfl rfl) (decide_eq_true (by omega))) rfl ?_
        refine WL.v (Runs.pick rfl rfl rfl) rfl ?_
        refine WL.v (Runs.move rfl) rfl ?_
        refine WL.gon rfl rfl rfl ?_
        refine WL.v (Runs.fld fld38_1 rfl) rfl ?_
        refine WL.gon rfl rfl rfl ?_
        refine WL.v (Runs.load1 Try.underlying3 rfl rfl (hL.ocell (i := 0) rfl rfl)) rfl ?_
        refine WL.gon rfl rfl rfl ?_
        refine WL.v (Runs.boolT (c := true) (Runs.leq rfl rfl) (decide_eq_true (by omega))) rfl ?_
        refine WL.v (Runs.pick rfl rfl rfl) rfl ?_
        refine WL.v (Runs.move rfl) rfl ?_
        refine WL.gon rfl rfl rfl ?_
        refine WL.v (Runs.fld fld38_2 rfl) rfl ?_
        refine WL.gon rfl rfl rfl ?_
        refine WL.v (Runs.load1 Try.underlying3 rfl rfl (hL.ocell (i := 0) rfl rfl)) rfl ?_
        refine WL.gon rfl rfl rfl ?_
        refine WL.v (Runs.boolT (c := false) (Runs.geq rfl rfl) (decide_eq_false (by omega))) rfl ?_
        refine WL.v (Runs.pick rfl rfl rfl) rfl ?_
        refine WL.v (Runs.move rfl) rfl ?_
        refine WL.goff rfl rfl rfl rfl ?_
        refine WL.goff rfl rfl rfl rfl ?_
        refine WL.goff rfl rfl rfl rfl ?_
        refine WL.v (Runs.pick rfl rfl rfl) rfl ?_
        refine WL.v (Runs.move rfl) rfl ?_
        refine WL.goff rfl rfl rfl rfl ?_
        refine WL.goff rfl rfl rfl rfl ?_
        refine WL.goff rfl rfl rfl rfl ?_
        refine WL.v (Runs.pick rfl rfl rfl) rfl ?_
        refine WL.v (Runs.move rfl) rfl ?_
        refine WL.goff rfl rfl rfl rfl ?_
        refine WL.goff rfl rfl rfl rfl ?_
        refine WL.goff rfl rfl rfl rfl ?_
        refine WL.v (Runs.pick rfl rfl rfl) rfl ?_
        refine WL.v (Runs.assign rfl) rfl ?_
        refine WL.nil ?_
        refine WN.thn ?_
        refine WC.ret ?_
        have hz : ¬ okS s a n := by
          intro hh
          obtain ⟨⟨g0, g1, g2, g3⟩, _⟩ := hh
          have g0 := of_decide_eq_true g0
          have g1 := of_decide_eq_true g1
          have g2 := of_decide_eq_true g2
          have g3 := of_decide_eq_true g3
          omega
        refine ret1 rfl rfl ⟨?_, hL.drop 0⟩
        rw [decide_eq_false hz]
        rfl
      · skip
        refine WC.reg ?_
        refine WL.v (Runs.fld fld38_0 rfl) rfl ?_
        refine WL.v (Runs.load1 Try.underlying3 rfl rfl (hL.ocell (i := 0) rfl rfl)) rfl ?_
        refine WL.v (Runs.boolT (c := true) (Runs.geq rfl rfl) (decide_eq_true (by omega))) rfl ?_
        refine WL.v (Runs.move rfl) rfl ?_
        refine WL.gon rfl rfl rfl ?_
        refine WL.v (Runs.fld fld38_0 rfl) rfl ?_
        refine WL.gon rfl rfl rfl ?_
        refine WL.v (Runs.load1 Try.underlying3 rfl rfl (hL.ocell (i := 0) rfl rfl)) rfl ?_
        refine WL.gon rfl rfl rfl ?_
        refine WL.v (Runs.boolT (c := true) (Runs.leq rfl rfl) (decide_eq_true (by omega))) rfl ?_
        refine WL.v (Runs.pick rfl rfl rfl) rfl ?_
        refine WL.v (Runs.move rfl) rfl ?_
        refine WL.gon rfl rfl rfl ?_
        refine WL.v (Runs.fld fld38_1 rfl) rfl ?_
        refine WL.gon rfl rfl rfl ?_
        refine WL.v (Runs.load1 Try.underlying3 rfl rfl (hL.ocell (i := 0) rfl rfl)) rfl ?_
        refine WL.gon rfl rfl rfl ?_
        refine WL.v (Runs.boolT (c := true) (Runs.geq rfl rfl) (decide_eq_true (by omega))) rfl ?_
        refine WL.v (Runs.pick rfl rfl rfl) rfl ?_
        refine WL.v (Runs.move rfl) rfl ?_
        refine WL.gon rfl rfl rfl ?_
        refine WL.v (Runs.fld fld38_1 rfl) rfl ?_
        refine WL.gon rfl rfl rfl ?_
        refine WL.v (Runs.load1 Try.underlying3 rfl rfl (hL.ocell (i := 0) rfl rfl)) rfl ?_
        refine WL.gon rfl rfl rfl ?_
        refine WL.v (Runs.boolT (c := true) (Runs.leq rfl rfl) (decide_eq_true (by omega))) rfl ?_
        refine WL.v (Runs.pick rfl rfl rfl) rfl ?_
        refine WL.v (Runs.move rfl) rfl ?_
        refine WL.gon rfl rfl rfl ?_
        refine WL.v (Runs.fld fld38_2 rfl) rfl ?_
        refine WL.gon rfl rfl rfl ?_
        refine WL.v (Runs.load1 Try.underlying3 rfl rfl (hL.ocell (i := 0) rfl rfl)) rfl ?_
        refine WL.gon rfl rfl rfl ?_
        refine WL.v (Runs.boolT (c := true) (Runs.geq rfl rfl) (decide_eq_true (by omega))) rfl ?_
        refine WL.v (Runs.pick rfl rfl rfl) rfl ?_
        refine WL.v (Runs.move rfl) rfl ?_
        refine WL.gon rfl rfl rfl ?_
        refine WL.v (Runs.fld fld38_2 rfl) rfl ?_
        refine WL.gon rfl rfl rfl ?_
        refine WL.v (Runs.load1 Try.underlying3 rfl rfl (hL.ocell (i := 0) rfl rfl)) rfl ?_
        refine WL.gon rfl rfl rfl ?_
        refine WL.v (Runs.boolT (c := false) (Runs.leq rfl rfl) (decide_eq_false (by omega))) rfl ?_
        refine WL.v (Runs.pick rfl rfl rfl) rfl ?_
        refine WL.v (Runs.move rfl) rfl ?_
        refine WL.goff rfl rfl rfl rfl ?_
        refine WL.goff rfl rfl rfl rfl ?_
        refine WL.goff rfl rfl rfl rfl ?_
        refine WL.v (Runs.pick rfl rfl rfl) rfl ?_
        refine WL.v (Runs.move rfl) rfl ?_
        refine WL.goff rfl rfl rfl rfl ?_
        refine WL.goff rfl rfl rfl rfl ?_
        refine WL.goff rfl rfl rfl rfl ?_
        refine WL.v (Runs.pick rfl rfl rfl) rfl ?_
        refine WL.v (Runs.assign rfl) rfl ?_
        refine WL.nil ?_
        refine WN.thn ?_
        refine WC.ret ?_
        have hz : ¬ okS s a n := by
          intro hh
          obtain ⟨⟨g0, g1, g2, g3⟩, _⟩ := hh
          have g0 := of_decide_eq_true g0
          have g1 := of_decide_eq_true g1
          have g2 := of_decide_eq_true g2
          have g3 := of_decide_eq_true g3
          omega
        refine ret1 rfl rfl ⟨?_, hL.drop 0⟩
        rw [decide_eq_false hz]
        rfl
      · skip
        refine WC.reg ?_
        refine WL.v (Runs.fld fld38_0 rfl) rfl ?_
        refine WL.v (Runs.load1 Try.underlying3 rfl rfl (hL.ocell (i := 0) rfl rfl)) rfl ?_
        refine WL.v (Runs.boolT (c := true) (Runs.geq rfl rfl) (decide_eq_true (by omega))) rfl ?_
        refine WL.v (Runs.move rfl) rfl ?_
        refine WL.gon rfl rfl rfl ?_
        refine WL.v (Runs.fld fld38_0 rfl) rfl ?_
        refine WL.gon rfl rfl rfl ?_
        refine WL.v (Runs.load1 Try.underlying3 rfl rfl (hL.ocell (i := 0) rfl rfl)) rfl ?_
        refine WL.gon rfl rfl rfl ?_
        refine WL.v (Runs.boolT (c := true) (Runs.leq rfl rfl) (decide_eq_true (by omega))) rfl ?_
        refine WL.v (Runs.pick rfl rfl rfl) rfl ?_
        refine WL.v (Runs.move rfl) rfl ?_
        refine WL.gon rfl rfl rfl ?_
        refine WL.v (Runs.fld fld38_1 rfl) rfl ?_
        refine WL.gon rfl rfl rfl ?_
        refine WL.v (Runs.load1 Try.underlying3 rfl rfl (hL.ocell (i := 0) rfl rfl)) rfl ?_
        refine WL.gon rfl rfl rfl ?_
        refine WL.v (Runs.boolT (c := true) (Runs.geq rfl rfl) (decide_eq_true (by omega))) rfl ?_
        refine WL.v (Runs.pick rfl rfl rfl) rfl ?_
        refine WL.v (Runs.move rfl) rfl ?_
        refine WL.gon rfl rfl rfl ?_
        refine WL.v (Runs.fld fld38_1 rfl) rfl ?_
        refine WL.gon rfl rfl rfl ?_
        refine WL.v (Runs.load1 Try.underlying3 rfl rfl (hL.ocell (i := 0) rfl rfl)) rfl ?_
        refine WL.gon rfl rfl rfl ?_
        refine WL.v (Runs.boolT (c := true) (Runs.leq rfl rfl) (decide_eq_true (by omega))) rfl ?_
        refine WL.v (Runs.pick rfl rfl rfl) rfl ?_
        refine WL.v (Runs.move rfl) rfl ?_
        refine WL.gon rfl rfl rfl ?_
        refine WL.v (Runs.fld fld38_2 rfl) rfl ?_
        refine WL.gon rfl rfl rfl ?_
        refine WL.v (Runs.load1 Try.underlying3 rfl rfl (hL.ocell (i := 0) rfl rfl)) rfl ?_
        refine WL.gon rfl rfl rfl ?_
        refine WL.v (Runs.boolT (c := true) (Runs.geq rfl rfl) (decide_eq_true (by omega))) rfl ?_
        refine WL.v (Runs.pick rfl rfl rfl) rfl ?_
        refine WL.v (Runs.move rfl) rfl ?_
        refine WL.gon rfl rfl rfl ?_
        refine WL.v (Runs.fld fld38_2 rfl) rfl ?_
        refine WL.gon rfl rfl rfl ?_
        refine WL.v (Runs.load1 Try.underlying3 rfl rfl (hL.ocell (i := 0) rfl rfl)) rfl ?_
        refine WL.gon rfl rfl rfl ?_
        refine WL.v (Runs.boolT (c := true) (Runs.leq rfl rfl) (decide_eq_true (by omega))) rfl ?_
        refine WL.v (Runs.pick rfl rfl rfl) rfl ?_
        refine WL.v (Runs.move rfl) rfl ?_
        refine WL.gon rfl rfl rfl ?_
        refine WL.v (Runs.fld fld38_3 rfl) rfl ?_
        refine WL.gon rfl rfl rfl ?_
        refine WL.v (Runs.load1 Try.underlying3 rfl rfl (hL.ocell (i := 0) rfl rfl)) rfl ?_
        refine WL.gon rfl rfl rfl ?_
        refine WL.v (Runs.boolT (c := false) (Runs.geq rfl rfl) (decide_eq_false (by omega))) rfl ?_
        refine WL.v (Runs.pick rfl rfl rfl) rfl ?_
        refine WL.v (Runs.move rfl) rfl ?_
        refine WL.goff rfl rfl rfl rfl ?_
        refine WL.goff rfl rfl rfl rfl ?_
        refine WL.goff rfl rfl rfl rfl ?_
        refine WL.v (Runs.pick rfl rfl rfl) rfl ?_
        refine WL.v (Runs.assign rfl) rfl ?_
        refine WL.nil ?_
        refine WN.thn ?_
        refine WC.ret ?_
        have hz : ¬ okS s a n := by
          intro hh
          obtain ⟨⟨g0, g1, g2, g3⟩, _⟩ := hh
          have g0 := of_decide_eq_true g0
          have g1 := of_decide_eq_true g1
          have g2 := of_decide_eq_true g2
          have g3 := of_decide_eq_true g3
          omega
        refine ret1 rfl rfl ⟨?_, hL.drop 0⟩
        rw [decide_eq_false hz]
        rfl
      · skip
        refine WC.reg ?_
        refine WL.v (Runs.fld fld38_0 rfl) rfl ?_
        refine WL.v (Runs.load1 Try.underlying3 rfl rfl (hL.ocell (i := 0) rfl rfl)) rfl ?_
        refine WL.v (Runs.boolT (c := true) (Runs.geq rfl rfl) (decide_eq_true (by omega))) rfl ?_
        refine WL.v (Runs.move rfl) rfl ?_
        refine WL.gon rfl rfl rfl ?_
        refine WL.v (Runs.fld fld38_0 rfl) rfl ?_
        refine WL.gon rfl rfl rfl ?_
        refine WL.v (Runs.load1 Try.underlying3 rfl rfl (hL.ocell (i := 0) rfl rfl)) rfl ?_
        refine WL.gon rfl rfl rfl ?_
        refine WL.v (Runs.boolT (c := true) (Runs.leq rfl rfl) (decide_eq_true (by omega))) rfl ?_
        refine WL.v (Runs.pick rfl rfl rfl) rfl ?_
        refine WL.v (Runs.move rfl) rfl ?_
        refine WL.gon rfl rfl rfl ?_
        refine WL.v (Runs.fld fld38_1 rfl) rfl ?_
        refine WL.gon rfl rfl rfl ?_
        refine WL.v (Runs.load1 Try.underlying3 rfl rfl (hL.ocell (i := 0) rfl rfl)) rfl ?_
        refine WL.gon rfl rfl rfl ?_
        refine WL.v (Runs.boolT (c := true) (Runs.geq rfl rfl) (decide_eq_true (by omega))) rfl ?_
        refine WL.v (Runs.pick rfl rfl rfl) rfl ?_
        refine WL.v (Runs.move rfl) rfl ?_
        refine WL.gon rfl rfl rfl ?_
        refine WL.v (Runs.fld fld38_1 rfl) rfl ?_
        refine WL.gon rfl rfl rfl ?_
        refine WL.v (Runs.load1 Try.underlying3 rfl rfl (hL.ocell (i := 0) rfl rfl)) rfl ?_
        refine WL.gon rfl rfl rfl ?_
        refine WL.v (Runs.boolT (c := true) (Runs.leq rfl rfl) (decide_eq_true (by omega))) rfl ?_
        refine WL.v (Runs.pick rfl rfl rfl) rfl ?_
        refine WL.v (Runs.move rfl) rfl ?_
        refine WL.gon rfl rfl rfl ?_
        refine WL.v (Runs.fld fld38_2 rfl) rfl ?_
        refine WL.gon rfl rfl rfl ?_
        refine WL.v (Runs.load1 Try.underlying3 rfl rfl (hL.ocell (i := 0) rfl rfl)) rfl ?_
        refine WL.gon rfl rfl rfl ?_
        refine WL.v (Runs.boolT (c := true) (Runs.geq rfl rfl) (decide_eq_true (by omega))) rfl ?_
        refine WL.v (Runs.pick rfl rfl rfl) rfl ?_
        refine WL.v (Runs.move rfl) rfl ?_
        refine WL.gon rfl rfl rfl ?_
        refine WL.v (Runs.fld fld38_2 rfl) rfl ?_
        refine WL.gon rfl rfl rfl ?_
        refine WL.v (Runs.load1 Try.underlying3 rfl rfl (hL.ocell (i := 0) rfl rfl)) rfl ?_
        refine WL.gon rfl rfl rfl ?_
        refine WL.v (Runs.boolT (c := true) (Runs.leq rfl rfl) (decide_eq_true (by omega))) rfl ?_
        refine WL.v (Runs.pick rfl rfl rfl) rfl ?_
        refine WL.v (Runs.move rfl) rfl ?_
        refine WL.gon rfl rfl rfl ?_
        refine WL.v (Runs.fld fld38_3 rfl) rfl ?_
        refine WL.gon rfl rfl rfl ?_
        refine WL.v (Runs.load1 Try.underlying3 rfl rfl (hL.ocell (i := 0) rfl rfl)) rfl ?_
        refine WL.gon rfl rfl rfl ?_
        refine WL.v (Runs.boolT (c := true) (Runs.geq rfl rfl) (decide_eq_true (by omega))) rfl ?_
        refine WL.v (Runs.pick rfl rfl rfl) rfl ?_
        refine WL.v (Runs.move rfl) rfl ?_
        refine WL.gon rfl rfl rfl ?_
        refine WL.v (Runs.fld fld38_3 rfl) rfl ?_
        refine WL.gon rfl rfl rfl ?_
        refine WL.v (Runs.load1 Try.underlying3 rfl rfl (hL.ocell (i := 0) rfl rfl)) rfl ?_
        refine WL.gon rfl rfl rfl ?_
        refine WL.v (Runs.boolT (c := false) (Runs.leq rfl rfl) (decide_eq_false (by omega))) rfl ?_
        refine WL.v (Runs.pick rfl rfl rfl) rfl ?_
        refine WL.v (Runs.assign rfl) rfl ?_
        refine WL.nil ?_
        refine WN.thn ?_
        refine WC.ret ?_
        have hz : ¬ okS s a n := by
          intro hh
          obtain ⟨⟨g0, g1, g2, g3⟩, _⟩ := hh
          have g0 := of_decide_eq_true g0
          have g1 := of_decide_eq_true g1
          have g2 := of_decide_eq_true g2
          have g3 := of_decide_eq_true g3
          omega
        refine ret1 rfl rfl ⟨?_, hL.drop 0⟩
        rw [decide_eq_false hz]
        rfl
      · skip
        refine WC.reg ?_
        refine WL.v (Runs.fld fld38_0 rfl) rfl ?_
        refine WL.v (Runs.load1 Try.underlying3 rfl rfl (hL.ocell (i := 0) rfl rfl)) rfl ?_
        refine WL.v (Runs.boolT (c := true) (Runs.geq rfl rfl) (decide_eq_true (by omega))) rfl ?_
        refine WL.v (Runs.move rfl) rfl ?_
        refine WL.gon rfl rfl rfl ?_
        refine WL.v (Runs.fld fld38_0 rfl) rfl ?_
        refine WL.gon rfl rfl rfl ?_
        refine WL.v (Runs.load1 Try.underlying3 rfl rfl (hL.ocell (i := 0) rfl rfl)) rfl ?_
        refine WL.gon rfl rfl rfl ?_
        refine WL.v (Runs.boolT (c := true) (Runs.leq rfl rfl) (decide_eq_true (by omega))) rfl ?_
        refine WL.v (Runs.pick rfl rfl rfl) rfl ?_
        refine WL.v (Runs.move rfl) rfl ?_
        refine WL.gon rfl rfl rfl ?_
        refine WL.v (Runs.fld fld38_1 rfl) rfl ?_
        refine WL.gon rfl rfl rfl ?_
        refine WL.v (Runs.load1 Try.underlying3 rfl rfl (hL.ocell (i := 0) rfl rfl)) rfl ?_
        refine WL.gon rfl rfl rfl ?_
        refine WL.v (Runs.boolT (c := true) (Runs.geq rfl rfl) (decide_eq_true (by omega))) rfl ?_
        refine WL.v (Runs.pick rfl rfl rfl) rfl ?_
        refine WL.v (Runs.move rfl) rfl ?_
        refine WL.gon rfl rfl rfl ?_
        refine WL.v (Runs.fld fld38_1 rfl) rfl ?_
        refine WL.gon rfl rfl rfl ?_
        refine WL.v (Runs.load1 Try.underlying3 rfl rfl (hL.ocell (i := 0) rfl rfl)) rfl ?_
        refine WL.gon rfl rfl rfl ?_
        refine WL.v (Runs.boolT (c := true) (Runs.leq rfl rfl) (decide_eq_true (by omega))) rfl ?_
        refine WL.v (Runs.pick rfl rfl rfl) rfl ?_
        refine WL.v (Runs.move rfl) rfl ?_
        refine WL.gon rfl rfl rfl ?_
        refine WL.v (Runs.fld fld38_2 rfl) rfl ?_
        refine WL.gon rfl rfl rfl ?_
        refine WL.v (Runs.load1 Try.underlying3 rfl rfl (hL.ocell (i := 0) rfl rfl)) rfl ?_
        refine WL.gon rfl rfl rfl ?_
        refine WL.v (Runs.boolT (c := true) (Runs.geq rfl rfl) (decide_eq_true (by omega))) rfl ?_
        refine WL.v (Runs.pick rfl rfl rfl) rfl ?_
        refine WL.v (Runs.move rfl) rfl ?_
        refine WL.gon rfl rfl rfl ?_
        refine WL.v (Runs.fld fld38_2 rfl) rfl ?_
        refine WL.gon rfl rfl rfl ?_
        refine WL.v (Runs.load1 Try.underlying3 rfl rfl (hL.ocell (i := 0) rfl rfl)) rfl ?_
        refine WL.gon rfl rfl rfl ?_
        refine WL.v (Runs.boolT (c := true) (Runs.leq rfl rfl) (decide_eq_true (by omega))) rfl ?_
        refine WL.v (Runs.pick rfl rfl rfl) rfl ?_
        refine WL.v (Runs.move rfl) rfl ?_
        refine WL.gon rfl rfl rfl ?_
        refine WL.v (Runs.fld fld38_3 rfl) rfl ?_
        refine WL.gon rfl rfl rfl ?_
        refine WL.v (Runs.load1 Try.underlying3 rfl rfl (hL.ocell (i := 0) rfl rfl)) rfl ?_
        refine WL.gon rfl rfl rfl ?_
        refine WL.v (Runs.boolT (c := true) (Runs.geq rfl rfl) (decide_eq_true (by omega))) rfl ?_
        refine WL.v (Runs.pick rfl rfl rfl) rfl ?_
        refine WL.v (Runs.move rfl) rfl ?_
        refine WL.gon rfl rfl rfl ?_
        refine WL.v (Runs.fld fld38_3 rfl) rfl ?_
        refine WL.gon rfl rfl rfl ?_
        refine WL.v (Runs.load1 Try.underlying3 rfl rfl (hL.ocell (i := 0) rfl rfl)) rfl ?_
        refine WL.gon rfl rfl rfl ?_
        refine WL.v (Runs.boolT (c := true) (Runs.leq rfl rfl) (decide_eq_true (by omega))) rfl ?_
        refine WL.v (Runs.pick rfl rfl rfl) rfl ?_
        refine WL.v (Runs.assign rfl) rfl ?_
        refine WL.nil ?_
        refine WN.thn ?_
        refine WC.ret ?_
        refine ret1 rfl rfl ⟨?_, hL.drop 0⟩
        rw [decide_eq_true (p := okS s a n) ⟨⟨inB_t (by omega), inB_t (by omega), inB_t (by omega), inB_t (by omega)⟩, fun j2 hj2 => hok j2 (by omega)⟩]
        rfl
end Dg
end Go.Proofs.Ytkfkdenikkadhaa
