/- Walks of package dag: the law DagReady. -/
import Derived.Test.YtkfkdenikkadhaaD23
namespace Go.Proofs.Ytkfkdenikkadhaa
open Go Go.RowKit B
set_option linter.unusedVariables false
set_option linter.unusedSimpArgs false
namespace Dg

theorem fld42_0 : fldB Try.prog 42 0 0 = true := by kernel_rfl
theorem fld42_1 : fldB Try.prog 42 1 1 = true := by kernel_rfl
theorem fld42_2 : fldB Try.prog 42 2 2 = true := by kernel_rfl
theorem fld42_3 : fldB Try.prog 42 3 3 = true := by kernel_rfl
theorem first6 (P0 P1 P2 P3 P4 P5 : Prop) : (P0) ∨ (¬ P0 ∧ P1) ∨ (¬ P0 ∧ ¬ P1 ∧ P2) ∨ (¬ P0 ∧ ¬ P1 ∧ ¬ P2 ∧ P3) ∨ (¬ P0 ∧ ¬ P1 ∧ ¬ P2 ∧ ¬ P3 ∧ P4) ∨ (¬ P0 ∧ ¬ P1 ∧ ¬ P2 ∧ ¬ P3 ∧ ¬ P4 ∧ P5) ∨ (¬ P0 ∧ ¬ P1 ∧ ¬ P2 ∧ ¬ P3 ∧ ¬ P4 ∧ ¬ P5) := by
  by_cases h0 : P0
  · exact .inl h0
  · by_cases h1 : P1
    · exact .inr (.inl ⟨h0, h1⟩)
    · by_cases h2 : P2
      · exact .inr (.inr (.inl ⟨h0, h1, h2⟩))
      · by_cases h3 : P3
        · exact .inr (.inr (.inr (.inl ⟨h0, h1, h2, h3⟩)))
        · by_cases h4 : P4
          · exact .inr (.inr (.inr (.inr (.inl ⟨h0, h1, h2, h3, h4⟩))))
          · by_cases h5 : P5
            · exact .inr (.inr (.inr (.inr (.inr (.inl ⟨h0, h1, h2, h3, h4, h5⟩)))))
            · exact .inr (.inr (.inr (.inr (.inr (.inr (⟨h0, h1, h2, h3, h4, h5⟩))))))
theorem mem_rdyL {l : List S} {c : List Int} {x : Int} : ∀ {n : Nat}, x ∈ rdyL l c n ↔ ∃ i : Nat, i < n ∧ x = (i : Int) ∧ rdyAt l c i
  | 0 => ⟨fun h => (by cases h), fun ⟨i, h, _⟩ => absurd h (Nat.not_lt_zero _)⟩
  | n + 1 => by
    have ih := mem_rdyL (l := l) (c := c) (x := x) (n := n)
    by_cases h : rdyAt l c n
    · rw [rdyL_y h, List.mem_append, List.mem_singleton, ih]
      constructor
      · rintro (⟨i, h1, h2⟩ | h1)
        · exact ⟨i, by omega, h2⟩
        · exact ⟨n, by omega, h1, h⟩
      · rintro ⟨i, h1, h2, h3⟩
        by_cases e : i = n
        · subst e; exact .inr h2
        · exact .inl ⟨i, by omega, h2, h3⟩
    · rw [rdyL_n h, ih]
      constructor
      · rintro ⟨i, h1, h2⟩
        exact ⟨i, by omega, h2⟩
      · rintro ⟨i, h1, h2, h3⟩
        by_cases e : i = n
        · subst e; exact absurd h3 h
        · exact ⟨i, by omega, h2, h3⟩
theorem holds_open {e : E} {c : List Int} (h : c.getD e.st.toNat 0 = -1) : holdsM e c = false := by
  unfold holdsM
  rw [h]
  split
  · rfl
  · split
    · rfl
    · exact inB_f (by omega)
theorem holds_congr {e : E} {c d : List Int} (h : c.getD e.st.toNat 0 = d.getD e.st.toNat 0) : holdsM e c = holdsM e d := by
  unfold holdsM
  rw [h]
theorem with_set {l : List S} {codes : List Int} {m : Nat} {q : Int} (h : withM l codes = 0) (hq : -1 ≤ q ∧ q ≤ 256) : withM l (codes.set m q) = 0 := by
  have hw := with_ok h
  refine with_of hw.1 (by rw [List.length_set]; exact hw.2.1) fun c hc => ?_
  rcases List.mem_or_eq_of_mem_set hc with h1 | h1
  · exact hw.2.2 c h1
  · omega
theorem rdyAt_set {l : List S} {codes : List Int} {m i : Nat} {q : Int} (h : rdyAt l codes i) (hm : codes.getD m 0 = -1) (hi : m ≠ i) : rdyAt l (codes.set m q) i := by
  refine ⟨by rw [getD_set, if_neg (fun hh => hi hh.1)]; exact h.1, fun k hk => ?_⟩
  have h1 := h.2 k hk
  rw [← holds_congr (c := codes)]
  · exact h1
  · rw [getD_set, if_neg]
    rintro ⟨h2, _⟩
    rw [h2] at hm
    rw [holds_open hm] at h1
    cases h1
theorem ready_stay {l : List S} {codes : List Int} {p q x : Int} (h : withM l codes = 0) (hq : 0 ≤ q ∧ q ≤ 256) (hp : 0 ≤ p) (hm : codes.getD p.toNat 0 = -1) (hx : x ∈ readyM l codes) (hxp : x ≠ p) : x ∈ readyM l (codes.set p.toNat q) := by
  unfold readyM at hx ⊢
  rw [if_pos h] at hx
  rw [if_pos (with_set h (by omega))]
  obtain ⟨i, h1, rfl, h3⟩ := mem_rdyL.1 hx
  exact mem_rdyL.2 ⟨i, h1, rfl, rdyAt_set h3 hm (by omega)⟩
theorem ready_not {l : List S} {codes : List Int} {p q : Int} (h : withM l codes = 0) (hq : 0 ≤ q ∧ q ≤ 256) (hp : 0 ≤ p ∧ p < codes.length) : p ∉ readyM l (codes.set p.toNat q) := by
  unfold readyM
  rw [if_pos (with_set h (by omega))]
  intro hx
  obtain ⟨i, h1, h2, h3⟩ := mem_rdyL.1 hx
  have h4 := h3.1
  rw [getD_set, if_pos ⟨by omega, by omega⟩] at h4
  omega

set_option maxRecDepth 100000 in
set_option maxHeartbeats 8000000 in
theorem ready_law {W : World} {F : Snap} {cs : List Res} (w : World) {A : Option Addr} {cap : Nat} {l : List S} {A2 : Option Addr} {cap2 : Nat} {codes : List Int} {p q : Int} (h : St W F cs w) (hR : RdS KS F A l) (hl : l.length ≤ 9223372036854775807) (hRc : RdS (Kd.one Vi) F A2 codes) : Calls Try.prog 7 #[.agg #[.slice A l.length cap, .slice A2 codes.length cap2, Vi p, Vi q]] w fun r w' => r = .returned (.bool true) ∧ St W F cs w'  := by
  refine enter (P := Try.prog) (args := [.agg #[.slice A l.length cap, .slice A2 codes.length cap2, Vi p, Vi q]]) Try.func7 rfl rfl rfl ?_
  refine WC.seq ?_
  refine WC.reg ?_
  refine WL.box rfl h rfl ?_
  intro b1 w1 h1
  refine WL.v (Runs.assign rfl) rfl ?_
  refine WL.nil ?_
  refine WN.thn ?_
  refine WC.seq ?_
  refine WC.qreg (C := fun w_ => St W F _ w_) mixed (by kernel_rfl) (h1.drew) ?_
  refine WQ.val (fun w_ hC_ => Runs.fld fld42_0 rfl) rfl ?_
  refine WQ.val (fun w_ hC_ => Runs.load1 Try.underlying22 rfl rfl (hC_.ocell (i := 0) rfl rfl)) rfl ?_
  refine WQ.val (fun w_ hC_ => Runs.fld fld42_1 rfl) rfl ?_
  refine WQ.val (fun w_ hC_ => Runs.load1 Try.underlying28 rfl rfl (hC_.ocell (i := 0) rfl rfl)) rfl ?_
  refine WQ.val (fun w_ hC_ => Runs.fld fld42_2 rfl) rfl ?_
  refine WQ.val (fun w_ hC_ => Runs.load1 Try.underlying3 rfl rfl (hC_.ocell (i := 0) rfl rfl)) rfl ?_
  refine WQ.val (fun w_ hC_ => Runs.fld fld42_3 rfl) rfl ?_
  refine WQ.val (fun w_ hC_ => Runs.load1 Try.underlying3 rfl rfl (hC_.ocell (i := 0) rfl rfl)) rfl ?_
  refine WQ.val (fun w_ hC_ => Runs.assign rfl) rfl ?_
  refine WQ.val (fun w_ hC_ => Runs.assign rfl) rfl ?_
  refine WQ.val (fun w_ hC_ => Runs.assign rfl) rfl ?_
  refine WQ.val (fun w_ hC_ => Runs.assign rfl) rfl ?_
  refine WQ.fin ?_
  intro w2 h2
  refine WN.thn ?_
  refine WC.seq ?_
  refine WC.seq ?_
  rcases first6 (¬ smallL l) (40 < codes.length) (p < 0) ((codes.length : Int) ≤ p) (q < 0) (256 < q) with q0 | ⟨q0, q1⟩ | ⟨q0, q1, q2⟩ | ⟨q0, q1, q2, q3⟩ | ⟨q0, q1, q2, q3, q4⟩ | ⟨q0, q1, q2, q3, q4, q5⟩ | ⟨q0, q1, q2, q3, q4, q5⟩
  · skip
    refine WC.reg ?_
    refine WL.v (Runs.move rfl) rfl ?_
    refine WL.call can9 rfl rfl (small_c _ h2 hR hl) ?_
    rintro _ w3 ⟨rfl, h3⟩
    refine ⟨_, rfl, ?_⟩
    refine WL.v (Runs.boolT (c := true) (Runs.not rfl) (by rw [decide_eq_false q0]; rfl)) rfl ?_
    refine WL.v (Runs.move rfl) rfl ?_
    refine WL.goff rfl rfl rfl rfl ?_
    refine WL.goff rfl rfl rfl rfl ?_
    refine WL.goff rfl rfl rfl rfl ?_
    refine WL.v (Runs.pick rfl rfl rfl) rfl ?_
    refine WL.v (Runs.move rfl) rfl ?_
    refine WL.goff rfl rfl rfl rfl ?_
    refine WL.goff rfl rfl rfl rfl ?_
    refine WL.v (Runs.pick rfl rfl rfl) rfl ?_
    refine WL.v (Runs.move rfl) rfl ?_
    refine WL.goff rfl rfl rfl rfl ?_
    refine WL.goff rfl rfl rfl rfl ?_
    refine WL.goff rfl rfl rfl rfl ?_
    refine WL.goff rfl rfl rfl rfl ?_
    refine WL.v (Runs.pick rfl rfl rfl) rfl ?_
    refine WL.v (Runs.move rfl) rfl ?_
    refine WL.goff rfl rfl rfl rfl ?_
    refine WL.goff rfl rfl rfl rfl ?_
    refine WL.v (Runs.pick rfl rfl rfl) rfl ?_
    refine WL.v (Runs.move rfl) rfl ?_
    refine WL.goff rfl rfl rfl rfl ?_
    refine WL.goff rfl rfl rfl rfl ?_
    refine WL.v (Runs.pick rfl rfl rfl) rfl ?_
    refine WL.nil ?_
    refine WN.thn ?_
    refine WC.condT rfl (rfl) ?_
    refine WC.seq ?_
    refine WC.reg ?_
    refine WL.call can10 rfl rfl (live_c _ h3) ?_
    rintro _ w4 ⟨rfl, h4⟩
    refine ⟨_, rfl, ?_⟩
    refine WL.v (Runs.assign rfl) rfl ?_
    refine WL.nil ?_
    refine WN.thn ?_
    refine WC.ret ?_
    exact ret1 rfl rfl ⟨rfl, h4.drop 0⟩
  · skip
    refine WC.reg ?_
    refine WL.v (Runs.move rfl) rfl ?_
    refine WL.call can9 rfl rfl (small_c _ h2 hR hl) ?_
    rintro _ w5 ⟨rfl, h5⟩
    refine ⟨_, rfl, ?_⟩
    refine WL.v (Runs.boolT (c := false) (Runs.not rfl) (by rw [decide_eq_true (Decidable.of_not_not q0)]; rfl)) rfl ?_
    refine WL.v (Runs.move rfl) rfl ?_
    refine WL.gon rfl rfl rfl ?_
    refine WL.v (Runs.move rfl) rfl ?_
    refine WL.gon rfl rfl rfl ?_
    refine WL.v (Runs.intT (n := (codes.length : Int)) (Runs.llen Try.underlying28 rfl rfl) rfl) rfl ?_
    refine WL.gon rfl rfl rfl ?_
    refine WL.v (Runs.boolT (c := true) (Runs.gtr rfl rfl) (by rw [decide_eq_true_eq]; omega)) rfl ?_
    refine WL.v (Runs.pick rfl rfl rfl) rfl ?_
    refine WL.v (Runs.move rfl) rfl ?_
    refine WL.goff rfl rfl rfl rfl ?_
    refine WL.goff rfl rfl rfl rfl ?_
    refine WL.v (Runs.pick rfl rfl rfl) rfl ?_
    refine WL.v (Runs.move rfl) rfl ?_
    refine WL.goff rfl rfl rfl rfl ?_
    refine WL.goff rfl rfl rfl rfl ?_
    refine WL.goff rfl rfl rfl rfl ?_
    refine WL.goff rfl rfl rfl rfl ?_
    refine WL.v (Runs.pick rfl rfl rfl) rfl ?_
    refine WL.v (Runs.move rfl) rfl ?_
    refine WL.goff rfl rfl rfl rfl ?_
    refine WL.goff rfl rfl rfl rfl ?_
    refine WL.v (Runs.pick rfl rfl rfl) rfl ?_
    refine WL.v (Runs.move rfl) rfl ?_
    refine WL.goff rfl rfl rfl rfl ?_
    refine WL.goff rfl rfl rfl rfl ?_
    refine WL.v (Runs.pick rfl rfl rfl) rfl ?_
    refine WL.nil ?_
    refine WN.thn ?_
    refine WC.condT rfl (rfl) ?_
    refine WC.seq ?_
    refine WC.reg ?_
    refine WL.call can10 rfl rfl (live_c _ h5) ?_
    rintro _ w6 ⟨rfl, h6⟩
    refine ⟨_, rfl, ?_⟩
    refine WL.v (Runs.assign rfl) rfl ?_
    refine WL.nil ?_
    refine WN.thn ?_
    refine WC.ret ?_
    exact ret1 rfl rfl ⟨rfl, h6.drop 0⟩
  · skip
    refine WC.reg ?_
    refine WL.v (Runs.move rfl) rfl ?_
    refine WL.call can9 rfl rfl (small_c _ h2 hR hl) ?_
    rintro _ w7 ⟨rfl, h7⟩
    refine ⟨_, rfl, ?_⟩
    refine WL.v (Runs.boolT (c := false) (Runs.not rfl) (by rw [decide_eq_true (Decidable.of_not_not q0)]; rfl)) rfl ?_
    refine WL.v (Runs.move rfl) rfl ?_
    refine WL.gon rfl rfl rfl ?_
    refine WL.v (Runs.move rfl) rfl ?_
    refine WL.gon rfl rfl rfl ?_
    refine WL.v (Runs.intT (n := (codes.length : Int)) (Runs.llen Try.underlying28 rfl rfl) rfl) rfl ?_
    refine WL.gon rfl rfl rfl ?_
    refine WL.v (Runs.boolT (c := false) (Runs.gtr rfl rfl) (by rw [decide_eq_false_iff_not]; omega)) rfl ?_
    refine WL.v (Runs.pick rfl rfl rfl) rfl ?_
    refine WL.v (Runs.move rfl) rfl ?_
    refine WL.gon rfl rfl rfl ?_
    refine WL.v (Runs.move rfl) rfl ?_
    refine WL.gon rfl rfl rfl ?_
    refine WL.v (Runs.boolT (c := true) (Runs.lss rfl rfl) (by rw [decide_eq_true_eq]; omega)) rfl ?_
    refine WL.v (Runs.pick rfl rfl rfl) rfl ?_
    refine WL.v (Runs.move rfl) rfl ?_
    refine WL.goff rfl rfl rfl rfl ?_
    refine WL.goff rfl rfl rfl rfl ?_
    refine WL.goff rfl rfl rfl rfl ?_
    refine WL.goff rfl rfl rfl rfl ?_
    refine WL.v (Runs.pick rfl rfl rfl) rfl ?_
    refine WL.v (Runs.move rfl) rfl ?_
    refine WL.goff rfl rfl rfl rfl ?_
    refine WL.goff rfl rfl rfl rfl ?_
    refine WL.v (Runs.pick rfl rfl rfl) rfl ?_
    refine WL.v (Runs.move rfl) rfl ?_
    refine WL.goff rfl rfl rfl rfl ?_
    refine WL.goff rfl rfl rfl rfl ?_
    refine WL.v (Runs.pick rfl rfl rfl) rfl ?_
    refine WL.nil ?_
    refine WN.thn ?_
    refine WC.condT rfl (rfl) ?_
    refine WC.seq ?_
    refine WC.reg ?_
    refine WL.call can10 rfl rfl (live_c _ h7) ?_
    rintro _ w8 ⟨rfl, h8⟩
    refine ⟨_, rfl, ?_⟩
    refine WL.v (Runs.assign rfl) rfl ?_
    refine WL.nil ?_
    refine WN.thn ?_
    refine WC.ret ?_
    exact ret1 rfl rfl ⟨rfl, h8.drop 0⟩
  · skip
    refine WC.reg ?_
    refine WL.v (Runs.move rfl) rfl ?_
    refine WL.call can9 rfl rfl (small_c _ h2 hR hl) ?_
    rintro _ w9 ⟨rfl, h9⟩
    refine ⟨_, rfl, ?_⟩
    refine WL.v (Runs.boolT (c := false) (Runs.not rfl) (by rw [decide_eq_true (Decidable.of_not_not q0)]; rfl)) rfl ?_
    refine WL.v (Runs.move rfl) rfl ?_
    refine WL.gon rfl rfl rfl ?_
    refine WL.v (Runs.move rfl) rfl ?_
    refine WL.gon rfl rfl rfl ?_
    refine WL.v (Runs.intT (n := (codes.length : Int)) (Runs.llen Try.underlying28 rfl rfl) rfl) rfl ?_
    refine WL.gon rfl rfl rfl ?_
    refine WL.v (Runs.boolT (c := false) (Runs.gtr rfl rfl) (by rw [decide_eq_false_iff_not]; omega)) rfl ?_
    refine WL.v (Runs.pick rfl rfl rfl) rfl ?_
    refine WL.v (Runs.move rfl) rfl ?_
    refine WL.gon rfl rfl rfl ?_
    refine WL.v (Runs.move rfl) rfl ?_
    refine WL.gon rfl rfl rfl ?_
    refine WL.v (Runs.boolT (c := false) (Runs.lss rfl rfl) (by rw [decide_eq_false_iff_not]; omega)) rfl ?_
    refine WL.v (Runs.pick rfl rfl rfl) rfl ?_
    refine WL.v (Runs.move rfl) rfl ?_
    refine WL.gon rfl rfl rfl ?_
    refine WL.v (Runs.move rfl) rfl ?_
    refine WL.gon rfl rfl rfl ?_
    refine WL.v (Runs.move rfl) rfl ?_
    refine WL.gon rfl rfl rfl ?_
    refine WL.v (Runs.intT (n := (codes.length : Int)) (Runs.llen Try.underlying28 rfl rfl) rfl) rfl ?_
    refine WL.gon rfl rfl rfl ?_
    refine WL.v (Runs.boolT (c := true) (Runs.geq rfl rfl) (by rw [decide_eq_true_eq]; omega)) rfl ?_
    refine WL.v (Runs.pick rfl rfl rfl) rfl ?_
    refine WL.v (Runs.move rfl) rfl ?_
    refine WL.goff rfl rfl rfl rfl ?_
    refine WL.goff rfl rfl rfl rfl ?_
    refine WL.v (Runs.pick rfl rfl rfl) rfl ?_
    refine WL.v (Runs.move rfl) rfl ?_
    refine WL.goff rfl rfl rfl rfl ?_
    refine WL.goff rfl rfl rfl rfl ?_
    refine WL.v (Runs.pick rfl rfl rfl) rfl ?_
    refine WL.nil ?_
    refine WN.thn ?_
    refine WC.condT rfl (rfl) ?_
    refine WC.seq ?_
    refine WC.reg ?_
    refine WL.call can10 rfl rfl (live_c _ h9) ?_
    rintro _ w10 ⟨rfl, h10⟩
    refine ⟨_, rfl, ?_⟩
    refine WL.v (Runs.assign rfl) rfl ?_
    refine WL.nil ?_
    refine WN.thn ?_
    refine WC.ret ?_
    exact ret1 rfl rfl ⟨rfl, h10.drop 0⟩
  · skip
    refine WC.reg ?_
    refine WL.v (Runs.move rfl) rfl ?_
    refine WL.call can9 rfl rfl (small_c _ h2 hR hl) ?_
    rintro _ w11 ⟨rfl, h11⟩
    refine ⟨_, rfl, ?_⟩
    refine WL.v (Runs.boolT (c := false) (Runs.not rfl) (by rw [decide_eq_true (Decidable.of_not_not q0)]; rfl)) rfl ?_
    refine WL.v (Runs.move rfl) rfl ?_
    refine WL.gon rfl rfl rfl ?_
    refine WL.v (Runs.move rfl) rfl ?_
    refine WL.gon rfl rfl rfl ?_
    refine WL.v (Runs.intT (n := (codes.length : Int)) (Runs.llen Try.underlying28 rfl rfl) rfl) rfl ?_
    refine WL.gon rfl rfl rfl ?_
    refine WL.v (Runs.boolT (c := false) (Runs.gtr rfl rfl) (by rw [decide_eq_false_iff_not]; omega)) rfl ?_
    refine WL.v (Runs.pick rfl rfl rfl) rfl ?_
    refine WL.v (Runs.move rfl) rfl ?_
    refine WL.gon rfl rfl rfl ?_
    refine WL.v (Runs.move rfl) rfl ?_
    refine WL.gon rfl rfl rfl ?_
    refine WL.v (Runs.boolT (c := false) (Runs.lss rfl rfl) (by rw [decide_eq_false_iff_not]; omega)) rfl ?_
    refine WL.v (Runs.pick rfl rfl rfl) rfl ?_
    refine WL.v (Runs.move rfl) rfl ?_
    refine WL.gon rfl rfl rfl ?_
    refine WL.v (Runs.move rfl) rfl ?_
    refine WL.gon rfl rfl rfl ?_
    refine WL.v (Runs.move rfl) rfl ?_
    refine WL.gon rfl rfl rfl ?_
    refine WL.v (Runs.intT (n := (codes.length : Int)) (Runs.llen Try.underlying28 rfl rfl) rfl) rfl ?_
    refine WL.gon rfl rfl rfl ?_
    refine WL.v (Runs.boolT (c := false) (Runs.geq rfl rfl) (by rw [decide_eq_false_iff_not]; omega)) rfl ?_
    refine WL.v (Runs.pick rfl rfl rfl) rfl ?_
    refine WL.v (Runs.move rfl) rfl ?_
    refine WL.gon rfl rfl rfl ?_
    refine WL.v (Runs.move rfl) rfl ?_
    refine WL.gon rfl rfl rfl ?_
    refine WL.v (Runs.boolT (c := true) (Runs.lss rfl rfl) (by rw [decide_eq_true_eq]; omega)) rfl ?_
    refine WL.v (Runs.pick rfl rfl rfl) rfl ?_
    refine WL.v (Runs.move rfl) rfl ?_
    refine WL.goff rfl rfl rfl rfl ?_
    refine WL.goff rfl rfl rfl rfl ?_
    refine WL.v (Runs.pick rfl rfl rfl) rfl ?_
    refine WL.nil ?_
    refine WN.thn ?_
    refine WC.condT rfl (rfl) ?_
    refine WC.seq ?_
    refine WC.reg ?_
    refine WL.call can10 rfl rfl (live_c _ h11) ?_
    rintro _ w12 ⟨rfl, h12⟩
    refine ⟨_, rfl, ?_⟩
    refine WL.v (Runs.assign rfl) rfl ?_
    refine WL.nil ?_
    refine WN.thn ?_
    refine WC.ret ?_
    exact ret1 rfl rfl ⟨rfl, h12.drop 0⟩
  · skip
    refine WC.reg ?_
    refine WL.v (Runs.move rfl) rfl ?_
    refine WL.call can9 rfl rfl (small_c _ h2 hR hl) ?_
    rintro _ w13 ⟨rfl, h13⟩
    refine ⟨_, rfl, ?_⟩
    refine WL.v (Runs.boolT (c := false) (Runs.not rfl) (by rw [decide_eq_true (Decidable.of_not_not q0)]; rfl)) rfl ?_
    refine WL.v (Runs.move rfl) rfl ?_
    refine WL.gon rfl rfl rfl ?_
    refine WL.v (Runs.move rfl) rfl ?_
    refine WL.gon rfl rfl rfl ?_
    refine WL.v (Runs.intT (n := (codes.length : Int)) (Runs.llen Try.underlying28 rfl rfl) rfl) rfl ?_
    refine WL.gon rfl rfl rfl ?_
    refine WL.v (Runs.boolT (c := false) (Runs.gtr rfl rfl) (by rw [decide_eq_false_iff_not]; omega)) rfl ?_
    refine WL.v (Runs.pick rfl rfl rfl) rfl ?_
    refine WL.v (Runs.move rfl) rfl ?_
    refine WL.gon rfl rfl rfl ?_
    refine WL.v (Runs.move rfl) rfl ?_
    refine WL.gon rfl rfl rfl ?_
    refine WL.v (Runs.boolT (c := false) (Runs.lss rfl rfl) (by rw [decide_eq_false_iff_not]; omega)) rfl ?_
    refine WL.v (Runs.pick rfl rfl rfl) rfl ?_
    refine WL.v (Runs.move rfl) rfl ?_
    refine WL.gon rfl rfl rfl ?_
    refine WL.v (Runs.move rfl) rfl ?_
    refine WL.gon rfl rfl rfl ?_
    refine WL.v (Runs.move rfl) rfl ?_
    refine WL.gon rfl rfl rfl ?_
    refine WL.v (Runs.intT (n := (codes.length : Int)) (Runs.llen Try.underlying28 rfl rfl) rfl) rfl ?_
    refine WL.gon rfl rfl rfl ?_
    refine WL.v (Runs.boolT (c := false) (Runs.geq rfl rfl) (by rw [decide_eq_false_iff_not]; omega)) rfl ?_
    refine WL.v (Runs.pick rfl rfl rfl) rfl ?_
    refine WL.v (Runs.move rfl) rfl ?_
    refine WL.gon rfl rfl rfl ?_
    refine WL.v (Runs.move rfl) rfl ?_
    refine WL.gon rfl rfl rfl ?_
    refine WL.v (Runs.boolT (c := false) (Runs.lss rfl rfl) (by rw [decide_eq_false_iff_not]; omega)) rfl ?_
    refine WL.v (Runs.pick rfl rfl rfl) rfl ?_
    refine WL.v (Runs.move rfl) rfl ?_
    refine WL.gon rfl rfl rfl ?_
    refine WL.v (Runs.move rfl) rfl ?_
    refine WL.gon rfl rfl rfl ?_
    refine WL.v (Runs.boolT (c := true) (Runs.gtr rfl rfl) (by rw [decide_eq_true_eq]; omega)) rfl ?_
    refine WL.v (Runs.pick rfl rfl rfl) rfl ?_
    refine WL.nil ?_
    refine WN.thn ?_
    refine WC.condT rfl (rfl) ?_
    refine WC.seq ?_
    refine WC.reg ?_
    refine WL.call can10 rfl rfl (live_c _ h13) ?_
    rintro _ w14 ⟨rfl, h14⟩
    refine ⟨_, rfl, ?_⟩
    refine WL.v (Runs.assign rfl) rfl ?_
    refine WL.nil ?_
    refine WN.thn ?_
    refine WC.ret ?_
    exact ret1 rfl rfl ⟨rfl, h14.drop 0⟩
  · skip
    refine WC.reg ?_
    refine WL.v (Runs.move rfl) rfl ?_
    refine WL.call can9 rfl rfl (small_c _ h2 hR hl) ?_
    rintro _ w15 ⟨rfl, h15⟩
    refine ⟨_, rfl, ?_⟩
    refine WL.v (Runs.boolT (c := false) (Runs.not rfl) (by rw [decide_eq_true (Decidable.of_not_not q0)]; rfl)) rfl ?_
    refine WL.v (Runs.move rfl) rfl ?_
    refine WL.gon rfl rfl rfl ?_
    refine WL.v (Runs.move rfl) rfl ?_
    refine WL.gon rfl rfl rfl ?_
    refine WL.v (Runs.intT (n := (codes.length : Int)) (Runs.llen Try.underlying28 rfl rfl) rfl) rfl ?_
    refine WL.gon rfl rfl rfl ?_
    refine WL.v (Runs.boolT (c := false) (Runs.gtr rfl rfl) (by rw [decide_eq_false_iff_not]; omega)) rfl ?_
    refine WL.v (Runs.pick rfl rfl rfl) rfl ?_
    refine WL.v (Runs.move rfl) rfl ?_
    refine WL.gon rfl rfl rfl ?_
    refine WL.v (Runs.move rfl) rfl ?_
    refine WL.gon rfl rfl rfl ?_
    refine WL.v (Runs.boolT (c := false) (Runs.lss rfl rfl) (by rw [decide_eq_false_iff_not]; omega)) rfl ?_
    refine WL.v (Runs.pick rfl rfl rfl) rfl ?_
    refine WL.v (Runs.move rfl) rfl ?_
    refine WL.gon rfl rfl rfl ?_
    refine WL.v (Runs.move rfl) rfl ?_
    refine WL.gon rfl rfl rfl ?_
    refine WL.v (Runs.move rfl) rfl ?_
    refine WL.gon rfl rfl rfl ?_
    refine WL.v (Runs.intT (n := (codes.length : Int)) (Runs.llen Try.underlying28 rfl rfl) rfl) rfl ?_
    refine WL.gon rfl rfl rfl ?_
    refine WL.v (Runs.boolT (c := false) (Runs.geq rfl rfl) (by rw [decide_eq_false_iff_not]; omega)) rfl ?_
    refine WL.v (Runs.pick rfl rfl rfl) rfl ?_
    refine WL.v (Runs.move rfl) rfl ?_
    refine WL.gon rfl rfl rfl ?_
    refine WL.v (Runs.move rfl) rfl ?_
    refine WL.gon rfl rfl rfl ?_
    refine WL.v (Runs.boolT (c := false) (Runs.lss rfl rfl) (by rw [decide_eq_false_iff_not]; omega)) rfl ?_
    refine WL.v (Runs.pick rfl rfl rfl) rfl ?_
    refine WL.v (Runs.move rfl) rfl ?_
    refine WL.gon rfl rfl rfl ?_
    refine WL.v (Runs.move rfl) rfl ?_
    refine WL.gon rfl rfl rfl ?_
    refine WL.v (Runs.boolT (c := false) (Runs.gtr rfl rfl) (by rw [decide_eq_false_iff_not]; omega)) rfl ?_
    refine WL.v (Runs.pick rfl rfl rfl) rfl ?_
    refine WL.nil ?_
    refine WN.thn ?_
    refine WC.condF rfl (rfl) ?_
    refine WC.skip ?_
    refine WN.thn ?_
    refine WC.seq ?_
    have hle : Le F F := Le.refl F
    obtain ⟨hf, hl2⟩ := (Decidable.of_not_not q0).few
    have hc : codes.length ≤ 100000 := by omega
    replace h15 := h15.drop 0
    refine WC.reg ?_
    refine WL.v (Runs.move rfl) rfl ?_
    refine WL.v (Runs.move rfl) rfl ?_
    refine WL.call can16 rfl rfl (ready_c _ h15 hR hl2 hf hRc hc) ?_
    rintro _ w16 ⟨Ga, Aa, capa, hGa, rfl, hca, rda, h16⟩
    refine ⟨_, rfl, ?_⟩
    replace hR := hR.mono hGa
    replace hRc := hRc.mono hGa
    replace hle := Le.trans hle hGa
    refine WL.v (Runs.move rfl) rfl ?_
    refine WL.v (Runs.extract rfl rfl) rfl ?_
    refine WL.v (Runs.extract rfl rfl) rfl ?_
    refine WL.v (Runs.assign rfl) rfl ?_
    refine WL.v (Runs.assign rfl) rfl ?_
    refine WL.nil ?_
    refine WN.thn ?_
    refine WC.seq ?_
    refine WC.seq ?_
    obtain ⟨ac, rfl, hrc⟩ := rd1 hRc (by omega)
    rcases two (withM l codes = 0) ((codes.getD p.toNat 0) = -1) with n0 | ⟨hw0, n1⟩ | ⟨hw0, hpx⟩
    · skip
      refine WC.reg ?_
      refine WL.v (Runs.move rfl) rfl ?_
      refine WL.v (Runs.boolT (c := true) (Runs.neq rfl rfl) (by rw [decide_eq_false n0]; rfl)) rfl ?_
      refine WL.v (Runs.move rfl) rfl ?_
      refine WL.goff rfl rfl rfl rfl ?_
      refine WL.goff rfl rfl rfl rfl ?_
      refine WL.goff rfl rfl rfl rfl ?_
      refine WL.goff rfl rfl rfl rfl ?_
      refine WL.goff rfl rfl rfl rfl ?_
      refine WL.v (Runs.pick rfl rfl rfl) rfl ?_
      refine WL.nil ?_
      refine WN.thn ?_
      refine WC.condT rfl (rfl) ?_
      refine WC.seq ?_
      refine WC.reg ?_
      refine WL.call can10 rfl rfl (live_c _ h16) ?_
      rintro _ w17 ⟨rfl, h17⟩
      refine ⟨_, rfl, ?_⟩
      refine WL.v (Runs.assign rfl) rfl ?_
      refine WL.nil ?_
      refine WN.thn ?_
      refine WC.ret ?_
      exact ret1 rfl rfl ⟨rfl, h17.weak hle⟩
    · skip
      refine WC.reg ?_
      refine WL.v (Runs.move rfl) rfl ?_
      refine WL.v (Runs.boolT (c := false) (Runs.neq rfl rfl) (by rw [decide_eq_true hw0]; rfl)) rfl ?_
      refine WL.v (Runs.move rfl) rfl ?_
      refine WL.gon rfl rfl rfl ?_
      refine WL.v (Runs.move rfl) rfl ?_
      refine WL.gon rfl rfl rfl ?_
      refine WL.v (Runs.move rfl) rfl ?_
      refine WL.gon rfl rfl rfl ?_
      refine WL.v (Runs.lidxN Try.underlying28 inf3 rfl rfl (n := p.toNat) (by omega) (by omega)) rfl ?_
      refine WL.gon rfl rfl rfl ?_
      refine WL.v (Runs.loadR (f := Vi) (0 : Int) h16 hrc (n := p.toNat) (by omega) Try.underlying3 rfl rfl) rfl ?_
      refine WL.gon rfl rfl rfl ?_
      refine WL.v (Runs.boolT (c := true) (Runs.neq rfl rfl) (by rw [decide_eq_false n1]; rfl)) rfl ?_
      refine WL.v (Runs.pick rfl rfl rfl) rfl ?_
      refine WL.nil ?_
      refine WN.thn ?_
      refine WC.condT rfl (rfl) ?_
      refine WC.seq ?_
      refine WC.reg ?_
      refine WL.call can10 rfl rfl (live_c _ h16) ?_
      rintro _ w18 ⟨rfl, h18⟩
      refine ⟨_, rfl, ?_⟩
      refine WL.v (Runs.assign rfl) rfl ?_
      refine WL.nil ?_
      refine WN.thn ?_
      refine WC.ret ?_
      exact ret1 rfl rfl ⟨rfl, h18.weak hle⟩
    · skip
      refine WC.reg ?_
      refine WL.v (Runs.move rfl) rfl ?_
      refine WL.v (Runs.boolT (c := false) (Runs.neq rfl rfl) (by rw [decide_eq_true hw0]; rfl)) rfl ?_
      refine WL.v (Runs.move rfl) rfl ?_
      refine WL.gon rfl rfl rfl ?_
      refine WL.v (Runs.move rfl) rfl ?_
      refine WL.gon rfl rfl rfl ?_
      refine WL.v (Runs.move rfl) rfl ?_
      refine WL.gon rfl rfl rfl ?_
      refine WL.v (Runs.lidxN Try.underlying28 inf3 rfl rfl (n := p.toNat) (by omega) (by omega)) rfl ?_
      refine WL.gon rfl rfl rfl ?_
      refine WL.v (Runs.loadR (f := Vi) (0 : Int) h16 hrc (n := p.toNat) (by omega) Try.underlying3 rfl rfl) rfl ?_
      refine WL.gon rfl rfl rfl ?_
      refine WL.v (Runs.boolT (c := false) (Runs.neq rfl rfl) (by rw [decide_eq_true hpx]; rfl)) rfl ?_
      refine WL.v (Runs.pick rfl rfl rfl) rfl ?_
      refine WL.nil ?_
      refine WN.thn ?_
      refine WC.condF rfl (rfl) ?_
      refine WC.skip ?_
      refine WN.thn ?_
      refine WC.seq ?_
      refine WC.reg ?_
      refine WL.v (Runs.assign rfl) rfl ?_
      refine WL.nil ?_
      refine WN.thn ?_
      refine WC.seq ?_
      have hN0 := h16.nilRes
      refine WC.reg ?_
      refine WL.v (Runs.move rfl) rfl ?_
      refine WL.v (Runs.move rfl) rfl ?_
      refine WL.app (ys := codes) 0 hN0 rfl rfl rfl rfl Try.underlying28 Try.underlying28 (.inr ⟨_, rfl⟩) inf3 rfl (Row.nil 3 Vi) (Src.rd hRc hN0 rfl (fun _ => rfl)) rfl rfl (by first | omega | (simp []; done) | (simp []; omega)) (by first | omega | (simp []; done) | (simp []; omega)) ?_
      intro r19 v19 w20 hr19 h20
      simp only [List.set_cons_zero, List.set_cons_succ] at h20
      refine WL.v (Runs.assign rfl) rfl ?_
      refine WL.nil ?_
      refine WN.thn ?_
      refine WC.seq ?_
      simp only [List.nil_append] at hr19
      obtain ⟨bb, zs, fz, e1, e2, hfr⟩ := Row.blk hr19 (by omega)
      subst e1
      subst e2
      refine WC.reg ?_
      refine WL.v (Runs.move rfl) rfl ?_
      refine WL.v (Runs.move rfl) rfl ?_
      refine WL.v (Runs.move rfl) rfl ?_
      refine WL.v (Runs.valT (u := .pointer (some ⟨bb, p.toNat, none⟩)) (Runs.lidxN Try.underlying28 inf3 rfl rfl (n := p.toNat) (by omega) (by omega)) (by rw [add_mk, Nat.zero_add])) rfl ?_
      refine WL.storeRow (n := p.toNat) (u := q) h20 0 rfl rfl rfl inf3 rfl hfr (by omega) ?_
      intro  w21 h21
      try simp only [List.set_cons_zero, List.set_cons_succ, List.eraseIdx_cons_zero, List.eraseIdx_cons_succ] at h21
      refine WL.nil ?_
      refine WN.thn ?_
      refine WC.seq ?_
      have hr9 := Row.mk_ (E := 3) (f := Vi) (b := bb) (fz := fz) (xs := (codes.set p.toNat q)) (zs := zs) (cap := codes.length + zs.length) (by rw [List.length_set]) (by rw [List.length_set]; exact hfr)
      obtain ⟨Gl, hGl, gfl, hSl⟩ := h21.freeze (i := 0) rfl
      have rdl := Row.read hr9 rfl gfl
      replace h21 := hSl
      simp only [List.eraseIdx_cons_zero] at h21
      replace hR := hR.mono hGl
      replace hRc := hRc.mono hGl
      replace rda := rda.mono hGl
      replace hle := Le.trans hle hGl
      
      refine WC.reg ?_
      refine WL.v (Runs.move rfl) rfl ?_
      refine WL.v (Runs.move rfl) rfl ?_
      refine WL.call can16 rfl rfl ((by have h9_ := Gives2.to rfl (with_set hw0 (by omega)) (ready_c (cap := cap) (cap2 := codes.length + zs.length) _ h21 hR hl2 hf rdl (by rw [List.length_set]; omega)); rw [List.length_set] at h9_; exact h9_)) ?_
      rintro _ w22 ⟨Gb, Ab, capb, hGb, rfl, hcb, rdb, h22⟩
      refine ⟨_, rfl, ?_⟩
      replace hR := hR.mono hGb
      replace hRc := hRc.mono hGb
      replace rda := rda.mono hGb
      replace hle := Le.trans hle hGb
      refine WL.v (Runs.move rfl) rfl ?_
      refine WL.v (Runs.extract rfl rfl) rfl ?_
      refine WL.v (Runs.extract rfl rfl) rfl ?_
      refine WL.v (Runs.assign rfl) rfl ?_
      refine WL.v (Runs.assign rfl) rfl ?_
      refine WL.nil ?_
      refine WN.thn ?_
      refine WC.seq ?_
      refine WC.seq ?_
      refine WC.reg ?_
      refine WL.v (Runs.assign rfl) rfl ?_
      refine WL.nil ?_
      refine WN.thn ?_
      refine WC.block ?_
      have hrl := readyM_len (l := l) (c := codes)
      refine WC.loop (σ := Nat) (fun q_ => [(5, Vi p), (7, .slice Aa (readyM l codes).length capa), (10, .slice Ab (readyM l (codes.set p.toNat q)).length capb), (11, Vi 0), (12, .int .i64 (q_ : Int))]) (fun q_ w => q_ ≤ (readyM l codes).length ∧ St W Gb cs w) (fun q_ => (readyM l codes).length - q_) (0) (by repeat (first | exact trivial | refine ⟨rfl, ?_⟩)) (⟨Nat.zero_le _, h22⟩) ?_
      rintro i w23 ⟨hi, hL⟩
      try dsimp only at hi hL
      refine WC.sub (s := [(5, Vi p), (7, .slice Aa (readyM l codes).length capa), (10, .slice Ab (readyM l (codes.set p.toNat q)).length capb), (11, Vi 0), (12, .int .i64 (i : Int))]) (by repeat (first | exact trivial | refine ⟨rfl, ?_⟩)) ?_
      refine WC.seq ?_
      refine WC.seq ?_
      refine WC.reg ?_
      refine WL.v (Runs.move rfl) rfl ?_
      refine WL.v (Runs.move rfl) rfl ?_
      refine WL.v (Runs.intT (n := ((readyM l codes).length : Int)) (Runs.llen Try.underlying28 rfl rfl) rfl) rfl ?_
      refine WL.v (Runs.lss rfl rfl) rfl ?_
      refine WL.nil ?_
      refine WN.thn ?_
      refine WC.cond rfl (fun c24 => ?_) (fun c24 => ?_)
      · try simp only [decide_eq_true_eq, decide_eq_false_iff_not, Bool.not_eq_true', Bool.not_eq_false', Bool.and_eq_true, Int.not_lt, Int.not_le] at c24
        first
        | (exfalso; omega)
        | skip
          refine WC.skip ?_
          refine WN.thn ?_
          refine WC.seq ?_
          refine WC.block ?_
          refine WC.seq ?_
          have hi2 : i < (readyM l codes).length := by omega
          obtain ⟨aa, rfl, hra⟩ := rd1 rda (by omega)
          by_cases hx : ((readyM l codes).getD i 0) = p
          · skip
            refine WC.reg ?_
            refine WL.v (Runs.move rfl) rfl ?_
            refine WL.v (Runs.move rfl) rfl ?_
            refine WL.v (Runs.lidxN Try.underlying28 inf3 rfl rfl (n := i) rfl (by omega)) rfl ?_
            refine WL.v (Runs.loadR (f := Vi) (0 : Int) hL hra (n := i) (by omega) Try.underlying3 rfl rfl) rfl ?_
            refine WL.v (Runs.move rfl) rfl ?_
            refine WL.v (Runs.boolT (c := false) (Runs.neq rfl rfl) (by rw [decide_eq_true hx]; rfl)) rfl ?_
            refine WL.v (Runs.move rfl) rfl ?_
            refine WL.goff rfl rfl rfl rfl ?_
            refine WL.goff rfl rfl rfl rfl ?_
            refine WL.goff rfl rfl rfl rfl ?_
            refine WL.goff rfl rfl rfl rfl ?_
            refine WL.goff rfl rfl rfl rfl ?_
            refine WL.goff rfl rfl rfl rfl ?_
            refine WL.goff rfl rfl rfl rfl ?_
            refine WL.v (Runs.pick rfl rfl rfl) rfl ?_
            refine WL.nil ?_
            refine WN.thn ?_
            refine WC.condF rfl (rfl) ?_
            refine WC.skip ?_
            refine WN.blk ?_
            refine WN.thn ?_
            refine WC.reg ?_
            refine WL.v (Runs.move rfl) rfl ?_
            refine WL.v (Runs.addn rfl rfl (by omega)) rfl ?_
            refine WL.v (Runs.assign rfl) rfl ?_
            refine WL.nil ?_
            exact WN.again (i + 1) (by omega) ⟨rfl, rfl, rfl, rfl, rfl, trivial⟩ ⟨by omega, hL⟩
          · skip
            refine WC.reg ?_
            refine WL.v (Runs.move rfl) rfl ?_
            refine WL.v (Runs.move rfl) rfl ?_
            refine WL.v (Runs.lidxN Try.underlying28 inf3 rfl rfl (n := i) rfl (by omega)) rfl ?_
            refine WL.v (Runs.loadR (f := Vi) (0 : Int) hL hra (n := i) (by omega) Try.underlying3 rfl rfl) rfl ?_
            refine WL.v (Runs.move rfl) rfl ?_
            refine WL.v (Runs.boolT (c := true) (Runs.neq rfl rfl) (by rw [decide_eq_false hx]; rfl)) rfl ?_
            refine WL.v (Runs.move rfl) rfl ?_
            refine WL.gon rfl rfl rfl ?_
            refine WL.v (Runs.move rfl) rfl ?_
            refine WL.gon rfl rfl rfl ?_
            refine WL.v (Runs.move rfl) rfl ?_
            refine WL.gon rfl rfl rfl ?_
            refine WL.v (Runs.move rfl) rfl ?_
            refine WL.gon rfl rfl rfl ?_
            refine WL.v (Runs.lidxN Try.underlying28 inf3 rfl rfl (n := i) rfl (by omega)) rfl ?_
            refine WL.gon rfl rfl rfl ?_
            refine WL.v (Runs.loadR (f := Vi) (0 : Int) hL hra (n := i) (by omega) Try.underlying3 rfl rfl) rfl ?_
            refine WL.gon rfl rfl rfl ?_
            refine WL.call can22 rfl rfl ((C1.to (g := Value.bool) (decide_eq_true (ready_stay hw0 (by omega) (by omega) hpx (mem_getD hi2) hx)) (lin_c _ ((readyM l codes).getD i 0) hL (RdW.of rdb) (by have := readyM_len (l := l) (c := (codes.set p.toNat q)); omega)))) ?_
            rintro _ w25 ⟨rfl, h25⟩
            refine ⟨_, rfl, ?_⟩
            refine WL.gon rfl rfl rfl ?_
            refine WL.v (Runs.not rfl) rfl ?_
            refine WL.v (Runs.pick rfl rfl rfl) rfl ?_
            refine WL.nil ?_
            refine WN.thn ?_
            refine WC.condF rfl (rfl) ?_
            refine WC.skip ?_
            refine WN.blk ?_
            refine WN.thn ?_
            refine WC.reg ?_
            refine WL.v (Runs.move rfl) rfl ?_
            refine WL.v (Runs.addn rfl rfl (by omega)) rfl ?_
            refine WL.v (Runs.assign rfl) rfl ?_
            refine WL.nil ?_
            exact WN.again (i + 1) (by omega) ⟨rfl, rfl, rfl, rfl, rfl, trivial⟩ ⟨by omega, h25⟩
      · try simp only [decide_eq_true_eq, decide_eq_false_iff_not, Bool.not_eq_true', Bool.not_eq_false', Bool.and_eq_true, Int.not_lt, Int.not_le] at c24
        first
        | (exfalso; omega)
        | skip
          refine WC.exit ?_
          refine WX.thn ?_
          refine WX.cut ?_
          refine WX.hit ?_
          refine WN.thn ?_
          refine WC.seq ?_
          refine WC.reg ?_
          refine WL.v (Runs.move rfl) rfl ?_
          refine WL.v (Runs.boolT (c := true) (Runs.eql rfl rfl) rfl) rfl ?_
          refine WL.v (Runs.move rfl) rfl ?_
          refine WL.gon rfl rfl rfl ?_
          refine WL.v (Runs.move rfl) rfl ?_
          refine WL.gon rfl rfl rfl ?_
          refine WL.v (Runs.move rfl) rfl ?_
          refine WL.gon rfl rfl rfl ?_
          refine WL.call can22 rfl rfl ((C1.to (g := Value.bool) (decide_eq_false (ready_not hw0 (by omega) (by omega))) (lin_c _ p hL (RdW.of rdb) (by have := readyM_len (l := l) (c := (codes.set p.toNat q)); omega)))) ?_
          rintro _ w26 ⟨rfl, h26⟩
          refine ⟨_, rfl, ?_⟩
          refine WL.gon rfl rfl rfl ?_
          refine WL.v (Runs.not rfl) rfl ?_
          refine WL.v (Runs.pick rfl rfl rfl) rfl ?_
          refine WL.v (Runs.move rfl) rfl ?_
          refine WL.gon rfl rfl rfl ?_
          refine WL.call can10 rfl rfl (live_c _ h26) ?_
          rintro _ w27 ⟨rfl, h27⟩
          refine ⟨_, rfl, ?_⟩
          refine WL.v (Runs.pick rfl rfl rfl) rfl ?_
          refine WL.v (Runs.assign rfl) rfl ?_
          refine WL.nil ?_
          refine WN.thn ?_
          refine WC.ret ?_
          exact ret1 rfl rfl ⟨rfl, h27.weak hle⟩
end Dg
end Go.Proofs.Ytkfkdenikkadhaa
