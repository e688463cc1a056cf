/- The reference of chapter 06: whether a credential may be. -/
import Derived.Test.YtbkfjedecepfoaaMC1
import Derived.Test.YtbkfjedecepfoaaMW19
import Derived.Test.YtbkfjedecepfoaaMSha11
namespace Go.Proofs.Ytbkfjedecepfoaa
open Go Go.RowKit B
set_option linter.unusedVariables false
set_option linter.unusedSimpArgs false
namespace Cr
open Wir (Vi mayN)

theorem can34 : B.Can Try.prog 34 := ⟨_, Try.func34, by kernel_rfl, rfl⟩   -- roundhouse/roundhouseref06.number
theorem first10 (P0 P1 P2 P3 P4 P5 P6 P7 P8 P9 : Prop) : (P0) ∨ (¬ P0 ∧ P1) ∨ (¬ P0 ∧ ¬ P1 ∧ P2) ∨ (¬ P0 ∧ ¬ P1 ∧ ¬ P2 ∧ P3) ∨ (¬ P0 ∧ ¬ P1 ∧ ¬ P2 ∧ ¬ P3 ∧ P4) ∨ (¬ P0 ∧ ¬ P1 ∧ ¬ P2 ∧ ¬ P3 ∧ ¬ P4 ∧ P5) ∨ (¬ P0 ∧ ¬ P1 ∧ ¬ P2 ∧ ¬ P3 ∧ ¬ P4 ∧ ¬ P5 ∧ P6) ∨ (¬ P0 ∧ ¬ P1 ∧ ¬ P2 ∧ ¬ P3 ∧ ¬ P4 ∧ ¬ P5 ∧ ¬ P6 ∧ P7) ∨ (¬ P0 ∧ ¬ P1 ∧ ¬ P2 ∧ ¬ P3 ∧ ¬ P4 ∧ ¬ P5 ∧ ¬ P6 ∧ ¬ P7 ∧ P8) ∨ (¬ P0 ∧ ¬ P1 ∧ ¬ P2 ∧ ¬ P3 ∧ ¬ P4 ∧ ¬ P5 ∧ ¬ P6 ∧ ¬ P7 ∧ ¬ P8 ∧ P9) ∨ (¬ P0 ∧ ¬ P1 ∧ ¬ P2 ∧ ¬ P3 ∧ ¬ P4 ∧ ¬ P5 ∧ ¬ P6 ∧ ¬ P7 ∧ ¬ P8 ∧ ¬ P9) := by
  by_cases h0 : P0
  · exact .inl h0
  · by_cases h1 : P1
    · exact .inr (.inl ⟨h0, h1⟩)
    · by_cases h2 : P2
      · exact .inr (.inr (.inl ⟨h0, h1, h2⟩))
      · by_cases h3 : P3
        · exact .inr (.inr (.inr (.inl ⟨h0, h1, h2, h3⟩)))
        · by_cases h4 : P4
          · exact .inr (.inr (.inr (.inr (.inl ⟨h0, h1, h2, h3, h4⟩))))
          · by_cases h5 : P5
            · exact .inr (.inr (.inr (.inr (.inr (.inl ⟨h0, h1, h2, h3, h4, h5⟩)))))
            · by_cases h6 : P6
              · exact .inr (.inr (.inr (.inr (.inr (.inr (.inl ⟨h0, h1, h2, h3, h4, h5, h6⟩))))))
              · by_cases h7 : P7
                · exact .inr (.inr (.inr (.inr (.inr (.inr (.inr (.inl ⟨h0, h1, h2, h3, h4, h5, h6, h7⟩)))))))
                · by_cases h8 : P8
                  · exact .inr (.inr (.inr (.inr (.inr (.inr (.inr (.inr (.inl ⟨h0, h1, h2, h3, h4, h5, h6, h7, h8⟩))))))))
                  · by_cases h9 : P9
                    · exact .inr (.inr (.inr (.inr (.inr (.inr (.inr (.inr (.inr (.inl ⟨h0, h1, h2, h3, h4, h5, h6, h7, h8, h9⟩)))))))))
                    · exact .inr (.inr (.inr (.inr (.inr (.inr (.inr (.inr (.inr (.inr (⟨h0, h1, h2, h3, h4, h5, h6, h7, h8, h9⟩))))))))))
theorem node_ge {xs : List Int} {n : Nat} (h : ∀ i, i < n → ndAt xs i) : ∀ i, i < n → (i : Int) ≤ xs.getD i 0
  | 0, hi => by
    have := (h 0 hi).1
    have e : lastOf xs 0 = -1 := rfl
    omega
  | i + 1, hi => by
    have h1 := node_ge h i (by omega)
    have h2 := (h (i + 1) hi).1
    have e : lastOf xs (i + 1) = xs.getD i 0 := rfl
    omega
theorem nodes_len {xs : List Int} (h : nodesOk xs) : xs.length ≤ 16 := by
  have h0 := h.2
  have h1 := node_ge h.1 (xs.length - 1) (by omega)
  have h2 := (h.1 (xs.length - 1) (by omega)).2
  omega
theorem last_ge {xs : List Int} {i : Nat} (h : ∀ j, j < i → ndAt xs j) : -1 ≤ lastOf xs i := by
  unfold lastOf
  split
  · omega
  · have := node_ge h (i - 1) (by omega)
    omega
theorem last_0 (xs : List Int) : lastOf xs 0 = -1 := rfl
theorem last_s {xs : List Int} {i : Nat} (h : 0 < i) : lastOf xs i = xs.getD (i - 1) 0 := if_neg (by omega)
theorem numCase (n : Int) : n < 0 ∨ (0 ≤ n ∧ 1099511627776 < n) ∨ (0 ≤ n ∧ n ≤ 1099511627776) := by omega
theorem nodeCase (x p : Int) (i : Nat) : x < 0 ∨ (0 ≤ x ∧ 15 < x) ∨ (0 ≤ x ∧ x ≤ 15 ∧ i = 0) ∨ (0 ≤ x ∧ x ≤ 15 ∧ 0 < i ∧ x ≤ p) ∨ (0 ≤ x ∧ x ≤ 15 ∧ 0 < i ∧ p < x) := by omega
set_option maxRecDepth 100000 in
set_option maxHeartbeats 1000000 in
theorem number_c {W : World} {F : Snap} {cs : List Res} (w : World) (n : Int) (h : St W F cs w) : Calls Try.prog 34 #[Vi n] w fun r w' => r = .returned (.bool (decide (mayN n))) ∧ St W F cs w'  := by
  refine enter (P := Try.prog) (args := [Vi n]) Try.func34 rfl rfl rfl ?_
  refine WC.seq ?_
  refine WC.reg ?_
  refine WL.v (Runs.assign rfl) rfl ?_
  refine WL.nil ?_
  refine WN.thn ?_
  refine WC.seq ?_
  rcases numCase n with h0 | ⟨h0, h1⟩ | ⟨h0, h1⟩
  · skip
    refine WC.reg ?_
    refine WL.v (Runs.move rfl) rfl ?_
    refine WL.v (Runs.boolT (c := false) (Runs.geq rfl rfl) (by rw [decide_eq_false_iff_not]; omega)) rfl ?_
    refine WL.v (Runs.move rfl) rfl ?_
    refine WL.goff rfl rfl rfl rfl ?_
    refine WL.goff rfl rfl rfl rfl ?_
    refine WL.v (Runs.pick rfl rfl rfl) rfl ?_
    refine WL.v (Runs.assign rfl) rfl ?_
    refine WL.nil ?_
    refine WN.thn ?_
    refine WC.ret ?_
    refine ret1 rfl rfl ⟨?_, h⟩
    rw [decide_eq_false (fun hh : mayN n => by unfold mayN at hh; omega)]; rfl
  · skip
    refine WC.reg ?_
    refine WL.v (Runs.move rfl) rfl ?_
    refine WL.v (Runs.boolT (c := true) (Runs.geq rfl rfl) (by rw [decide_eq_true_eq]; omega)) rfl ?_
    refine WL.v (Runs.move rfl) rfl ?_
    refine WL.gon rfl rfl rfl ?_
    refine WL.v (Runs.move rfl) rfl ?_
    refine WL.gon rfl rfl rfl ?_
    refine WL.v (Runs.boolT (c := false) (Runs.leq rfl rfl) (by rw [decide_eq_false_iff_not]; omega)) rfl ?_
    refine WL.v (Runs.pick rfl rfl rfl) rfl ?_
    refine WL.v (Runs.assign rfl) rfl ?_
    refine WL.nil ?_
    refine WN.thn ?_
    refine WC.ret ?_
    refine ret1 rfl rfl ⟨?_, h⟩
    rw [decide_eq_false (fun hh : mayN n => by unfold mayN at hh; omega)]; rfl
  · skip
    refine WC.reg ?_
    refine WL.v (Runs.move rfl) rfl ?_
    refine WL.v (Runs.boolT (c := true) (Runs.geq rfl rfl) (by rw [decide_eq_true_eq]; omega)) rfl ?_
    refine WL.v (Runs.move rfl) rfl ?_
    refine WL.gon rfl rfl rfl ?_
    refine WL.v (Runs.move rfl) rfl ?_
    refine WL.gon rfl rfl rfl ?_
    refine WL.v (Runs.boolT (c := true) (Runs.leq rfl rfl) (by rw [decide_eq_true_eq]; omega)) rfl ?_
    refine WL.v (Runs.pick rfl rfl rfl) rfl ?_
    refine WL.v (Runs.assign rfl) rfl ?_
    refine WL.nil ?_
    refine WN.thn ?_
    refine WC.ret ?_
    refine ret1 rfl rfl ⟨?_, h⟩
    rw [decide_eq_true (show mayN n from ⟨h0, h1⟩)]; rfl
set_option maxRecDepth 100000 in
set_option maxHeartbeats 8000000 in
theorem qcheck_c {W : World} {F : Snap} {cs : List Res} (w : World) {A : Option Addr} {cap : Nat} {c : C} (h : St W F cs w) (hR : RdS (Kd.one Vi) F A c.nd) (hn : c.nd.length ≤ 9223372036854775807) : Calls Try.prog 13 #[.agg #[Vi c.jb, Vi c.ep, Vi c.st, Vi c.fr, Vi c.un, .slice A c.nd.length cap, Vi c.co]] w fun r w' => r = .returned (Vi (checkM c)) ∧ St W F cs w'  := by
  refine enter (P := Try.prog) (args := [.agg #[Vi c.jb, Vi c.ep, Vi c.st, Vi c.fr, Vi c.un, .slice A c.nd.length cap, Vi c.co]]) Try.func13 rfl rfl rfl ?_
  refine WC.seq ?_
  refine WC.reg ?_
  refine WL.box rfl h rfl ?_
  intro b1 w1 h1
  refine WL.v (Runs.assign rfl) rfl ?_
  refine WL.nil ?_
  refine WN.thn ?_
  refine WC.seq ?_
  refine WC.seq ?_
  rcases first10 (¬ mayN c.jb) (¬ mayN c.st) (¬ mayN c.fr) (¬ mayN c.un) (c.ep < 0) (8 < c.ep) (c.co < 1) (256 < c.co) (c.nd.length < 1) (16 < c.nd.length) with q0 | ⟨q0, q1⟩ | ⟨q0, q1, q2⟩ | ⟨q0, q1, q2, q3⟩ | ⟨q0, q1, q2, q3, q4⟩ | ⟨q0, q1, q2, q3, q4, q5⟩ | ⟨q0, q1, q2, q3, q4, q5, q6⟩ | ⟨q0, q1, q2, q3, q4, q5, q6, q7⟩ | ⟨q0, q1, q2, q3, q4, q5, q6, q7, q8⟩ | ⟨q0, q1, q2, q3, q4, q5, q6, q7, q8, q9⟩ | ⟨q0, q1, q2, q3, q4, q5, q6, q7, q8, q9⟩
  · skip
    refine WC.reg ?_
    refine WL.v (Runs.fld fld24_0 rfl) rfl ?_
    refine WL.v (Runs.load1 Try.underlying3 rfl rfl (h1.ocell (i := 0) rfl rfl)) rfl ?_
    refine WL.call can34 rfl rfl (number_c _ c.jb h1) ?_
    rintro _ w2 ⟨rfl, h2⟩
    refine ⟨_, rfl, ?_⟩
    refine WL.v (Runs.boolT (c := true) (Runs.not rfl) (by rw [decide_eq_false q0]; rfl)) rfl ?_
    refine WL.v (Runs.move rfl) rfl ?_
    refine WL.goff rfl rfl rfl rfl ?_
    refine WL.goff rfl rfl rfl rfl ?_
    refine WL.goff rfl rfl rfl rfl ?_
    refine WL.goff rfl rfl rfl rfl ?_
    refine WL.v (Runs.pick rfl rfl rfl) rfl ?_
    refine WL.v (Runs.move rfl) rfl ?_
    refine WL.goff rfl rfl rfl rfl ?_
    refine WL.goff rfl rfl rfl rfl ?_
    refine WL.goff rfl rfl rfl rfl ?_
    refine WL.goff rfl rfl rfl rfl ?_
    refine WL.v (Runs.pick rfl rfl rfl) rfl ?_
    refine WL.v (Runs.move rfl) rfl ?_
    refine WL.goff rfl rfl rfl rfl ?_
    refine WL.goff rfl rfl rfl rfl ?_
    refine WL.goff rfl rfl rfl rfl ?_
    refine WL.goff rfl rfl rfl rfl ?_
    refine WL.v (Runs.pick rfl rfl rfl) rfl ?_
    refine WL.v (Runs.move rfl) rfl ?_
    refine WL.goff rfl rfl rfl rfl ?_
    refine WL.goff rfl rfl rfl rfl ?_
    refine WL.goff rfl rfl rfl rfl ?_
    refine WL.v (Runs.pick rfl rfl rfl) rfl ?_
    refine WL.v (Runs.move rfl) rfl ?_
    refine WL.goff rfl rfl rfl rfl ?_
    refine WL.goff rfl rfl rfl rfl ?_
    refine WL.goff rfl rfl rfl rfl ?_
    refine WL.v (Runs.pick rfl rfl rfl) rfl ?_
    refine WL.v (Runs.move rfl) rfl ?_
    refine WL.goff rfl rfl rfl rfl ?_
    refine WL.goff rfl rfl rfl rfl ?_
    refine WL.goff rfl rfl rfl rfl ?_
    refine WL.v (Runs.pick rfl rfl rfl) rfl ?_
    refine WL.v (Runs.move rfl) rfl ?_
    refine WL.goff rfl rfl rfl rfl ?_
    refine WL.goff rfl rfl rfl rfl ?_
    refine WL.goff rfl rfl rfl rfl ?_
    refine WL.v (Runs.pick rfl rfl rfl) rfl ?_
    refine WL.v (Runs.move rfl) rfl ?_
    refine WL.goff rfl rfl rfl rfl ?_
    refine WL.goff rfl rfl rfl rfl ?_
    refine WL.goff rfl rfl rfl rfl ?_
    refine WL.goff rfl rfl rfl rfl ?_
    refine WL.v (Runs.pick rfl rfl rfl) rfl ?_
    refine WL.v (Runs.move rfl) rfl ?_
    refine WL.goff rfl rfl rfl rfl ?_
    refine WL.goff rfl rfl rfl rfl ?_
    refine WL.goff rfl rfl rfl rfl ?_
    refine WL.goff rfl rfl rfl rfl ?_
    refine WL.v (Runs.pick rfl rfl rfl) rfl ?_
    refine WL.nil ?_
    refine WN.thn ?_
    refine WC.condT rfl (rfl) ?_
    refine WC.seq ?_
    refine WC.reg ?_
    refine WL.v (Runs.assign rfl) rfl ?_
    refine WL.nil ?_
    refine WN.thn ?_
    refine WC.ret ?_
    refine ret1 rfl rfl ⟨?_, h2.drop 0⟩
    rw [show checkM c = 1 from if_neg (fun hh => q0 hh.1)]
  · skip
    refine WC.reg ?_
    refine WL.v (Runs.fld fld24_0 rfl) rfl ?_
    refine WL.v (Runs.load1 Try.underlying3 rfl rfl (h1.ocell (i := 0) rfl rfl)) rfl ?_
    refine WL.call can34 rfl rfl (number_c _ c.jb h1) ?_
    rintro _ w3 ⟨rfl, h3⟩
    refine ⟨_, rfl, ?_⟩
    refine WL.v (Runs.boolT (c := false) (Runs.not rfl) (by rw [decide_eq_true (Decidable.of_not_not q0)]; rfl)) rfl ?_
    refine WL.v (Runs.move rfl) rfl ?_
    refine WL.gon rfl rfl rfl ?_
    refine WL.v (Runs.fld fld24_2 rfl) rfl ?_
    refine WL.gon rfl rfl rfl ?_
    refine WL.v (Runs.load1 Try.underlying3 rfl rfl (h3.ocell (i := 0) rfl rfl)) rfl ?_
    refine WL.gon rfl rfl rfl ?_
    refine WL.call can34 rfl rfl (number_c _ c.st h3) ?_
    rintro _ w4 ⟨rfl, h4⟩
    refine ⟨_, rfl, ?_⟩
    refine WL.gon rfl rfl rfl ?_
    refine WL.v (Runs.boolT (c := true) (Runs.not rfl) (by rw [decide_eq_false q1]; rfl)) rfl ?_
    refine WL.v (Runs.pick rfl rfl rfl) rfl ?_
    refine WL.v (Runs.move rfl) rfl ?_
    refine WL.goff rfl rfl rfl rfl ?_
    refine WL.goff rfl rfl rfl rfl ?_
    refine WL.goff rfl rfl rfl rfl ?_
    refine WL.goff rfl rfl rfl rfl ?_
    refine WL.v (Runs.pick rfl rfl rfl) rfl ?_
    refine WL.v (Runs.move rfl) rfl ?_
    refine WL.goff rfl rfl rfl rfl ?_
    refine WL.goff rfl rfl rfl rfl ?_
    refine WL.goff rfl rfl rfl rfl ?_
    refine WL.goff rfl rfl rfl rfl ?_
    refine WL.v (Runs.pick rfl rfl rfl) rfl ?_
    refine WL.v (Runs.move rfl) rfl ?_
    refine WL.goff rfl rfl rfl rfl ?_
    refine WL.goff rfl rfl rfl rfl ?_
    refine WL.goff rfl rfl rfl rfl ?_
    refine WL.v (Runs.pick rfl rfl rfl) rfl ?_
    refine WL.v (Runs.move rfl) rfl ?_
    refine WL.goff rfl rfl rfl rfl ?_
    refine WL.goff rfl rfl rfl rfl ?_
    refine WL.goff rfl rfl rfl rfl ?_
    refine WL.v (Runs.pick rfl rfl rfl) rfl ?_
    refine WL.v (Runs.move rfl) rfl ?_
    refine WL.goff rfl rfl rfl rfl ?_
    refine WL.goff rfl rfl rfl rfl ?_
    refine WL.goff rfl rfl rfl rfl ?_
    refine WL.v (Runs.pick rfl rfl rfl) rfl ?_
    refine WL.v (Runs.move rfl) rfl ?_
    refine WL.goff rfl rfl rfl rfl ?_
    refine WL.goff rfl rfl rfl rfl ?_
    refine WL.goff rfl rfl rfl rfl ?_
    refine WL.v (Runs.pick rfl rfl rfl) rfl ?_
    refine WL.v (Runs.move rfl) rfl ?_
    refine WL.goff rfl rfl rfl rfl ?_
    refine WL.goff rfl rfl rfl rfl ?_
    refine WL.goff rfl rfl rfl rfl ?_
    refine WL.goff rfl rfl rfl rfl ?_
    refine WL.v (Runs.pick rfl rfl rfl) rfl ?_
    refine WL.v (Runs.move rfl) rfl ?_
    refine WL.goff rfl rfl rfl rfl ?_
    refine WL.goff rfl rfl rfl rfl ?_
    refine WL.goff rfl rfl rfl rfl ?_
    refine WL.goff rfl rfl rfl rfl ?_
    refine WL.v (Runs.pick rfl rfl rfl) rfl ?_
    refine WL.nil ?_
    refine WN.thn ?_
    refine WC.condT rfl (rfl) ?_
    refine WC.seq ?_
    refine WC.reg ?_
    refine WL.v (Runs.assign rfl) rfl ?_
    refine WL.nil ?_
    refine WN.thn ?_
    refine WC.ret ?_
    refine ret1 rfl rfl ⟨?_, h4.drop 0⟩
    rw [show checkM c = 1 from if_neg (fun hh => q1 hh.2.1)]
  · skip
    refine WC.reg ?_
    refine WL.v (Runs.fld fld24_0 rfl) rfl ?_
    refine WL.v (Runs.load1 Try.underlying3 rfl rfl (h1.ocell (i := 0) rfl rfl)) rfl ?_
    refine WL.call can34 rfl rfl (number_c _ c.jb h1) ?_
    rintro _ w5 ⟨rfl, h5⟩
    refine ⟨_, rfl, ?_⟩
    refine WL.v (Runs.boolT (c := false) (Runs.not rfl) (by rw [decide_eq_true (Decidable.of_not_not q0)]; rfl)) rfl ?_
    refine WL.v (Runs.move rfl) rfl ?_
    refine WL.gon rfl rfl rfl ?_
    refine WL.v (Runs.fld fld24_2 rfl) rfl ?_
    refine WL.gon rfl rfl rfl ?_
    refine WL.v (Runs.load1 Try.underlying3 rfl rfl (h5.ocell (i := 0) rfl rfl)) rfl ?_
    refine WL.gon rfl rfl rfl ?_
    refine WL.call can34 rfl rfl (number_c _ c.st h5) ?_
    rintro _ w6 ⟨rfl, h6⟩
    refine ⟨_, rfl, ?_⟩
    refine WL.gon rfl rfl rfl ?_
    refine WL.v (Runs.boolT (c := false) (Runs.not rfl) (by rw [decide_eq_true (Decidable.of_not_not q1)]; rfl)) rfl ?_
    refine WL.v (Runs.pick rfl rfl rfl) rfl ?_
    refine WL.v (Runs.move rfl) rfl ?_
    refine WL.gon rfl rfl rfl ?_
    refine WL.v (Runs.fld fld24_3 rfl) rfl ?_
    refine WL.gon rfl rfl rfl ?_
    refine WL.v (Runs.load1 Try.underlying3 rfl rfl (h6.ocell (i := 0) rfl rfl)) rfl ?_
    refine WL.gon rfl rfl rfl ?_
    refine WL.call can34 rfl rfl (number_c _ c.fr h6) ?_
    rintro _ w7 ⟨rfl, h7⟩
    refine ⟨_, rfl, ?_⟩
    refine WL.gon rfl rfl rfl ?_
    refine WL.v (Runs.boolT (c := true) (Runs.not rfl) (by rw [decide_eq_false q2]; rfl)) rfl ?_
    refine WL.v (Runs.pick rfl rfl rfl) rfl ?_
    refine WL.v (Runs.move rfl) rfl ?_
    refine WL.goff rfl rfl rfl rfl ?_
    refine WL.goff rfl rfl rfl rfl ?_
    refine WL.goff rfl rfl rfl rfl ?_
    refine WL.goff rfl rfl rfl rfl ?_
    refine WL.v (Runs.pick rfl rfl rfl) rfl ?_
    refine WL.v (Runs.move rfl) rfl ?_
    refine WL.goff rfl rfl rfl rfl ?_
    refine WL.goff rfl rfl rfl rfl ?_
    refine WL.goff rfl rfl rfl rfl ?_
    refine WL.v (Runs.pick rfl rfl rfl) rfl ?_
    refine WL.v (Runs.move rfl) rfl ?_
    refine WL.goff rfl rfl rfl rfl ?_
    refine WL.goff rfl rfl rfl rfl ?_
    refine WL.goff rfl rfl rfl rfl ?_
    refine WL.v (Runs.pick rfl rfl rfl) rfl ?_
    refine WL.v (Runs.move rfl) rfl ?_
    refine WL.goff rfl rfl rfl rfl ?_
    refine WL.goff rfl rfl rfl rfl ?_
    refine WL.goff rfl rfl rfl rfl ?_
    refine WL.v (Runs.pick rfl rfl rfl) rfl ?_
    refine WL.v (Runs.move rfl) rfl ?_
    refine WL.goff rfl rfl rfl rfl ?_
    refine WL.goff rfl rfl rfl rfl ?_
    refine WL.goff rfl rfl rfl rfl ?_
    refine WL.v (Runs.pick rfl rfl rfl) rfl ?_
    refine WL.v (Runs.move rfl) rfl ?_
    refine WL.goff rfl rfl rfl rfl ?_
    refine WL.goff rfl rfl rfl rfl ?_
    refine WL.goff rfl rfl rfl rfl ?_
    refine WL.goff rfl rfl rfl rfl ?_
    refine WL.v (Runs.pick rfl rfl rfl) rfl ?_
    refine WL.v (Runs.move rfl) rfl ?_
    refine WL.goff rfl rfl rfl rfl ?_
    refine WL.goff rfl rfl rfl rfl ?_
    refine WL.goff rfl rfl rfl rfl ?_
    refine WL.goff rfl rfl rfl rfl ?_
    refine WL.v (Runs.pick rfl rfl rfl) rfl ?_
    refine WL.nil ?_
    refine WN.thn ?_
    refine WC.condT rfl (rfl) ?_
    refine WC.seq ?_
    refine WC.reg ?_
    refine WL.v (Runs.assign rfl) rfl ?_
    refine WL.nil ?_
    refine WN.thn ?_
    refine WC.ret ?_
    refine ret1 rfl rfl ⟨?_, h7.drop 0⟩
    rw [show checkM c = 1 from if_neg (fun hh => q2 hh.2.2.1)]
  · skip
    refine WC.reg ?_
    refine WL.v (Runs.fld fld24_0 rfl) rfl ?_
    refine WL.v (Runs.load1 Try.underlying3 rfl rfl (h1.ocell (i := 0) rfl rfl)) rfl ?_
    refine WL.call can34 rfl rfl (number_c _ c.jb h1) ?_
    rintro _ w8 ⟨rfl, h8⟩
    refine ⟨_, rfl, ?_⟩
    refine WL.v (Runs.boolT (c := false) (Runs.not rfl) (by rw [decide_eq_true (Decidable.of_not_not q0)]; rfl)) rfl ?_
    refine WL.v (Runs.move rfl) rfl ?_
    refine WL.gon rfl rfl rfl ?_
    refine WL.v (Runs.fld fld24_2 rfl) rfl ?_
    refine WL.gon rfl rfl rfl ?_
    refine WL.v (Runs.load1 Try.underlying3 rfl rfl (h8.ocell (i := 0) rfl rfl)) rfl ?_
    refine WL.gon rfl rfl rfl ?_
    refine WL.call can34 rfl rfl (number_c _ c.st h8) ?_
    rintro _ w9 ⟨rfl, h9⟩
    refine ⟨_, rfl, ?_⟩
    refine WL.gon rfl rfl rfl ?_
    refine WL.v (Runs.boolT (c := false) (Runs.not rfl) (by rw [decide_eq_true (Decidable.of_not_not q1)]; rfl)) rfl ?_
    refine WL.v (Runs.pick rfl rfl rfl) rfl ?_
    refine WL.v (Runs.move rfl) rfl ?_
    refine WL.gon rfl rfl rfl ?_
    refine WL.v (Runs.fld fld24_3 rfl) rfl ?_
    refine WL.gon rfl rfl rfl ?_
    refine WL.v (Runs.load1 Try.underlying3 rfl rfl (h9.ocell (i := 0) rfl rfl)) rfl ?_
    refine WL.gon rfl rfl rfl ?_
    refine WL.call can34 rfl rfl (number_c _ c.fr h9) ?_
    rintro _ w10 ⟨rfl, h10⟩
    refine ⟨_, rfl, ?_⟩
    refine WL.gon rfl rfl rfl ?_
    refine WL.v (Runs.boolT (c := false) (Runs.not rfl) (by rw [decide_eq_true (Decidable.of_not_not q2)]; rfl)) rfl ?_
    refine WL.v (Runs.pick rfl rfl rfl) rfl ?_
    refine WL.v (Runs.move rfl) rfl ?_
    refine WL.gon rfl rfl rfl ?_
    refine WL.v (Runs.fld fld24_4 rfl) rfl ?_
    refine WL.gon rfl rfl rfl ?_
    refine WL.v (Runs.load1 Try.underlying3 rfl rfl (h10.ocell (i := 0) rfl rfl)) rfl ?_
    refine WL.gon rfl rfl rfl ?_
    refine WL.call can34 rfl rfl (number_c _ c.un h10) ?_
    rintro _ w11 ⟨rfl, h11⟩
    refine ⟨_, rfl, ?_⟩
    refine WL.gon rfl rfl rfl ?_
    refine WL.v (Runs.boolT (c := true) (Runs.not rfl) (by rw [decide_eq_false q3]; rfl)) rfl ?_
    refine WL.v (Runs.pick rfl rfl rfl) rfl ?_
    refine WL.v (Runs.move rfl) rfl ?_
    refine WL.goff rfl rfl rfl rfl ?_
    refine WL.goff rfl rfl rfl rfl ?_
    refine WL.goff rfl rfl rfl rfl ?_
    refine WL.v (Runs.pick rfl rfl rfl) rfl ?_
    refine WL.v (Runs.move rfl) rfl ?_
    refine WL.goff rfl rfl rfl rfl ?_
    refine WL.goff rfl rfl rfl rfl ?_
    refine WL.goff rfl rfl rfl rfl ?_
    refine WL.v (Runs.pick rfl rfl rfl) rfl ?_
    refine WL.v (Runs.move rfl) rfl ?_
    refine WL.goff rfl rfl rfl rfl ?_
    refine WL.goff rfl rfl rfl rfl ?_
    refine WL.goff rfl rfl rfl rfl ?_
    refine WL.v (Runs.pick rfl rfl rfl) rfl ?_
    refine WL.v (Runs.move rfl) rfl ?_
    refine WL.goff rfl rfl rfl rfl ?_
    refine WL.goff rfl rfl rfl rfl ?_
    refine WL.goff rfl rfl rfl rfl ?_
    refine WL.v (Runs.pick rfl rfl rfl) rfl ?_
    refine WL.v (Runs.move rfl) rfl ?_
    refine WL.goff rfl rfl rfl rfl ?_
    refine WL.goff rfl rfl rfl rfl ?_
    refine WL.goff rfl rfl rfl rfl ?_
    refine WL.goff rfl rfl rfl rfl ?_
    refine WL.v (Runs.pick rfl rfl rfl) rfl ?_
    refine WL.v (Runs.move rfl) rfl ?_
    refine WL.goff rfl rfl rfl rfl ?_
    refine WL.goff rfl rfl rfl rfl ?_
    refine WL.goff rfl rfl rfl rfl ?_
    refine WL.goff rfl rfl rfl rfl ?_
    refine WL.v (Runs.pick rfl rfl rfl) rfl ?_
    refine WL.nil ?_
    refine WN.thn ?_
    refine WC.condT rfl (rfl) ?_
    refine WC.seq ?_
    refine WC.reg ?_
    refine WL.v (Runs.assign rfl) rfl ?_
    refine WL.nil ?_
    refine WN.thn ?_
    refine WC.ret ?_
    refine ret1 rfl rfl ⟨?_, h11.drop 0⟩
    rw [show checkM c = 1 from if_neg (fun hh => q3 hh.2.2.2.1)]
  · skip
    refine WC.reg ?_
    refine WL.v (Runs.fld fld24_0 rfl) rfl ?_
    refine WL.v (Runs.load1 Try.underlying3 rfl rfl (h1.ocell (i := 0) rfl rfl)) rfl ?_
    refine WL.call can34 rfl rfl (number_c _ c.jb h1) ?_
    rintro _ w12 ⟨rfl, h12⟩
    refine ⟨_, rfl, ?_⟩
    refine WL.v (Runs.boolT (c := false) (Runs.not rfl) (by rw [decide_eq_true (Decidable.of_not_not q0)]; rfl)) rfl ?_
    refine WL.v (Runs.move rfl) rfl ?_
    refine WL.gon rfl rfl rfl ?_
    refine WL.v (Runs.fld fld24_2 rfl) rfl ?_
    refine WL.gon rfl rfl rfl ?_
    refine WL.v (Runs.load1 Try.underlying3 rfl rfl (h12.ocell (i := 0) rfl rfl)) rfl ?_
    refine WL.gon rfl rfl rfl ?_
    refine WL.call can34 rfl rfl (number_c _ c.st h12) ?_
    rintro _ w13 ⟨rfl, h13⟩
    refine ⟨_, rfl, ?_⟩
    refine WL.gon rfl rfl rfl ?_
    refine WL.v (Runs.boolT (c := false) (Runs.not rfl) (by rw [decide_eq_true (Decidable.of_not_not q1)]; rfl)) rfl ?_
    refine WL.v (Runs.pick rfl rfl rfl) rfl ?_
    refine WL.v (Runs.move rfl) rfl ?_
    refine WL.gon rfl rfl rfl ?_
    refine WL.v (Runs.fld fld24_3 rfl) rfl ?_
    refine WL.gon rfl rfl rfl ?_
    refine WL.v (Runs.load1 Try.underlying3 rfl rfl (h13.ocell (i := 0) rfl rfl)) rfl ?_
    refine WL.gon rfl rfl rfl ?_
    refine WL.call can34 rfl rfl (number_c _ c.fr h13) ?_
    rintro _ w14 ⟨rfl, h14⟩
    refine ⟨_, rfl, ?_⟩
    refine WL.gon rfl rfl rfl ?_
    refine WL.v (Runs.boolT (c := false) (Runs.not rfl) (by rw [decide_eq_true (Decidable.of_not_not q2)]; rfl)) rfl ?_
    refine WL.v (Runs.pick rfl rfl rfl) rfl ?_
    refine WL.v (Runs.move rfl) rfl ?_
    refine WL.gon rfl rfl rfl ?_
    refine WL.v (Runs.fld fld24_4 rfl) rfl ?_
    refine WL.gon rfl rfl rfl ?_
    refine WL.v (Runs.load1 Try.underlying3 rfl rfl (h14.ocell (i := 0) rfl rfl)) rfl ?_
    refine WL.gon rfl rfl rfl ?_
    refine WL.call can34 rfl rfl (number_c _ c.un h14) ?_
    rintro _ w15 ⟨rfl, h15⟩
    refine ⟨_, rfl, ?_⟩
    refine WL.gon rfl rfl rfl ?_
    refine WL.v (Runs.boolT (c := false) (Runs.not rfl) (by rw [decide_eq_true (Decidable.of_not_not q3)]; rfl)) rfl ?_
    refine WL.v (Runs.pick rfl rfl rfl) rfl ?_
    refine WL.v (Runs.move rfl) rfl ?_
    refine WL.gon rfl rfl rfl ?_
    refine WL.v (Runs.fld fld24_1 rfl) rfl ?_
    refine WL.gon rfl rfl rfl ?_
    refine WL.v (Runs.load1 Try.underlying3 rfl rfl (h15.ocell (i := 0) rfl rfl)) rfl ?_
    refine WL.gon rfl rfl rfl ?_
    refine WL.v (Runs.boolT (c := true) (Runs.lss rfl rfl) (by rw [decide_eq_true_eq]; omega)) rfl ?_
    refine WL.v (Runs.pick rfl rfl rfl) rfl ?_
    refine WL.v (Runs.move rfl) rfl ?_
    refine WL.goff rfl rfl rfl rfl ?_
    refine WL.goff rfl rfl rfl rfl ?_
    refine WL.goff rfl rfl rfl rfl ?_
    refine WL.v (Runs.pick rfl rfl rfl) rfl ?_
    refine WL.v (Runs.move rfl) rfl ?_
    refine WL.goff rfl rfl rfl rfl ?_
    refine WL.goff rfl rfl rfl rfl ?_
    refine WL.goff rfl rfl rfl rfl ?_
    refine WL.v (Runs.pick rfl rfl rfl) rfl ?_
    refine WL.v (Runs.move rfl) rfl ?_
    refine WL.goff rfl rfl rfl rfl ?_
    refine WL.goff rfl rfl rfl rfl ?_
    refine WL.goff rfl rfl rfl rfl ?_
    refine WL.v (Runs.pick rfl rfl rfl) rfl ?_
    refine WL.v (Runs.move rfl) rfl ?_
    refine WL.goff rfl rfl rfl rfl ?_
    refine WL.goff rfl rfl rfl rfl ?_
    refine WL.goff rfl rfl rfl rfl ?_
    refine WL.goff rfl rfl rfl rfl ?_
    refine WL.v (Runs.pick rfl rfl rfl) rfl ?_
    refine WL.v (Runs.move rfl) rfl ?_
    refine WL.goff rfl rfl rfl rfl ?_
    refine WL.goff rfl rfl rfl rfl ?_
    refine WL.goff rfl rfl rfl rfl ?_
    refine WL.goff rfl rfl rfl rfl ?_
    refine WL.v (Runs.pick rfl rfl rfl) rfl ?_
    refine WL.nil ?_
    refine WN.thn ?_
    refine WC.condT rfl (rfl) ?_
    refine WC.seq ?_
    refine WC.reg ?_
    refine WL.v (Runs.assign rfl) rfl ?_
    refine WL.nil ?_
    refine WN.thn ?_
    refine WC.ret ?_
    have hz : ¬ okC c := fun hh => by
      obtain ⟨g0, g1, g2, g3, ⟨g4, g4b⟩, ⟨g5, g5b⟩, g6⟩ := hh
      have g7 := nodes_len g6
      have g8 := g6.2
      omega
    refine ret1 rfl rfl ⟨?_, h15.drop 0⟩
    rw [show checkM c = 1 from if_neg hz]
  · skip
    refine WC.reg ?_
    refine WL.v (Runs.fld fld24_0 rfl) rfl ?_
    refine WL.v (Runs.load1 Try.underlying3 rfl rfl (h1.ocell (i := 0) rfl rfl)) rfl ?_
    refine WL.call can34 rfl rfl (number_c _ c.jb h1) ?_
    rintro _ w16 ⟨rfl, h16⟩
    refine ⟨_, rfl, ?_⟩
    refine WL.v (Runs.boolT (c := false) (Runs.not rfl) (by rw [decide_eq_true (Decidable.of_not_not q0)]; rfl)) rfl ?_
    refine WL.v (Runs.move rfl) rfl ?_
    refine WL.gon rfl rfl rfl ?_
    refine WL.v (Runs.fld fld24_2 rfl) rfl ?_
    refine WL.gon rfl rfl rfl ?_
    refine WL.v (Runs.load1 Try.underlying3 rfl rfl (h16.ocell (i := 0) rfl rfl)) rfl ?_
    refine WL.gon rfl rfl rfl ?_
    refine WL.call can34 rfl rfl (number_c _ c.st h16) ?_
    rintro _ w17 ⟨rfl, h17⟩
    refine ⟨_, rfl, ?_⟩
    refine WL.gon rfl rfl rfl ?_
    refine WL.v (Runs.boolT (c := false) (Runs.not rfl) (by rw [decide_eq_true (Decidable.of_not_not q1)]; rfl)) rfl ?_
    refine WL.v (Runs.pick rfl rfl rfl) rfl ?_
    refine WL.v (Runs.move rfl) rfl ?_
    refine WL.gon rfl rfl rfl ?_
    refine WL.v (Runs.fld fld24_3 rfl) rfl ?_
    refine WL.gon rfl rfl rfl ?_
    refine WL.v (Runs.load1 Try.underlying3 rfl rfl (h17.ocell (i := 0) rfl rfl)) rfl ?_
    refine WL.gon rfl rfl rfl ?_
    refine WL.call can34 rfl rfl (number_c _ c.fr h17) ?_
    rintro _ w18 ⟨rfl, h18⟩
    refine ⟨_, rfl, ?_⟩
    refine WL.gon rfl rfl rfl ?_
    refine WL.v (Runs.boolT (c := false) (Runs.not rfl) (by rw [decide_eq_true (Decidable.of_not_not q2)]; rfl)) rfl ?_
    refine WL.v (Runs.pick rfl rfl rfl) rfl ?_
    refine WL.v (Runs.move rfl) rfl ?_
    refine WL.gon rfl rfl rfl ?_
    refine WL.v (Runs.fld fld24_4 rfl) rfl ?_
    refine WL.gon rfl rfl rfl ?_
    refine WL.v (Runs.load1 Try.underlying3 rfl rfl (h18.ocell (i := 0) rfl rfl)) rfl ?_
    refine WL.gon rfl rfl rfl ?_
    refine WL.call can34 rfl rfl (number_c _ c.un h18) ?_
    rintro _ w19 ⟨rfl, h19⟩
    refine ⟨_, rfl, ?_⟩
    refine WL.gon rfl rfl rfl ?_
    refine WL.v (Runs.boolT (c := false) (Runs.not rfl) (by rw [decide_eq_true (Decidable.of_not_not q3)]; rfl)) rfl ?_
    refine WL.v (Runs.pick rfl rfl rfl) rfl ?_
    refine WL.v (Runs.move rfl) rfl ?_
    refine WL.gon rfl rfl rfl ?_
    refine WL.v (Runs.fld fld24_1 rfl) rfl ?_
    refine WL.gon rfl rfl rfl ?_
    refine WL.v (Runs.load1 Try.underlying3 rfl rfl (h19.ocell (i := 0) rfl rfl)) rfl ?_
    refine WL.gon rfl rfl rfl ?_
    refine WL.v (Runs.boolT (c := false) (Runs.lss rfl rfl) (by rw [decide_eq_false_iff_not]; omega)) rfl ?_
    refine WL.v (Runs.pick rfl rfl rfl) rfl ?_
    refine WL.v (Runs.move rfl) rfl ?_
    refine WL.gon rfl rfl rfl ?_
    refine WL.v (Runs.fld fld24_1 rfl) rfl ?_
    refine WL.gon rfl rfl rfl ?_
    refine WL.v (Runs.load1 Try.underlying3 rfl rfl (h19.ocell (i := 0) rfl rfl)) rfl ?_
    refine WL.gon rfl rfl rfl ?_
    refine WL.v (Runs.boolT (c := true) (Runs.gtr rfl rfl) (by rw [decide_eq_true_eq]; omega)) rfl ?_
    refine WL.v (Runs.pick rfl rfl rfl) rfl ?_
    refine WL.v (Runs.move rfl) rfl ?_
    refine WL.goff rfl rfl rfl rfl ?_
    refine WL.goff rfl rfl rfl rfl ?_
    refine WL.goff rfl rfl rfl rfl ?_
    refine WL.v (Runs.pick rfl rfl rfl) rfl ?_
    refine WL.v (Runs.move rfl) rfl ?_
    refine WL.goff rfl rfl rfl rfl ?_
    refine WL.goff rfl rfl rfl rfl ?_
    refine WL.goff rfl rfl rfl rfl ?_
    refine WL.v (Runs.pick rfl rfl rfl) rfl ?_
    refine WL.v (Runs.move rfl) rfl ?_
    refine WL.goff rfl rfl rfl rfl ?_
    refine WL.goff rfl rfl rfl rfl ?_
    refine WL.goff rfl rfl rfl rfl ?_
    refine WL.goff rfl rfl rfl rfl ?_
    refine WL.v (Runs.pick rfl rfl rfl) rfl ?_
    refine WL.v (Runs.move rfl) rfl ?_
    refine WL.goff rfl rfl rfl rfl ?_
    refine WL.goff rfl rfl rfl rfl ?_
    refine WL.goff rfl rfl rfl rfl ?_
    refine WL.goff rfl rfl rfl rfl ?_
    refine WL.v (Runs.pick rfl rfl rfl) rfl ?_
    refine WL.nil ?_
    refine WN.thn ?_
    refine WC.condT rfl (rfl) ?_
    refine WC.seq ?_
    refine WC.reg ?_
    refine WL.v (Runs.assign rfl) rfl ?_
    refine WL.nil ?_
    refine WN.thn ?_
    refine WC.ret ?_
    have hz : ¬ okC c := fun hh => by
      obtain ⟨g0, g1, g2, g3, ⟨g4, g4b⟩, ⟨g5, g5b⟩, g6⟩ := hh
      have g7 := nodes_len g6
      have g8 := g6.2
      omega
    refine ret1 rfl rfl ⟨?_, h19.drop 0⟩
    rw [show checkM c = 1 from if_neg hz]
  · skip
    refine WC.reg ?_
    refine WL.v (Runs.fld fld24_0 rfl) rfl ?_
    refine WL.v (Runs.load1 Try.underlying3 rfl rfl (h1.ocell (i := 0) rfl rfl)) rfl ?_
    refine WL.call can34 rfl rfl (number_c _ c.jb h1) ?_
    rintro _ w20 ⟨rfl, h20⟩
    refine ⟨_, rfl, ?_⟩
    refine WL.v (Runs.boolT (c := false) (Runs.not rfl) (by rw [decide_eq_true (Decidable.of_not_not q0)]; rfl)) rfl ?_
    refine WL.v (Runs.move rfl) rfl ?_
    refine WL.gon rfl rfl rfl ?_
    refine WL.v (Runs.fld fld24_2 rfl) rfl ?_
    refine WL.gon rfl rfl rfl ?_
    refine WL.v (Runs.load1 Try.underlying3 rfl rfl (h20.ocell (i := 0) rfl rfl)) rfl ?_
    refine WL.gon rfl rfl rfl ?_
    refine WL.call can34 rfl rfl (number_c _ c.st h20) ?_
    rintro _ w21 ⟨rfl, h21⟩
    refine ⟨_, rfl, ?_⟩
    refine WL.gon rfl rfl rfl ?_
    refine WL.v (Runs.boolT (c := false) (Runs.not rfl) (by rw [decide_eq_true (Decidable.of_not_not q1)]; rfl)) rfl ?_
    refine WL.v (Runs.pick rfl rfl rfl) rfl ?_
    refine WL.v (Runs.move rfl) rfl ?_
    refine WL.gon rfl rfl rfl ?_
    refine WL.v (Runs.fld fld24_3 rfl) rfl ?_
    refine WL.gon rfl rfl rfl ?_
    refine WL.v (Runs.load1 Try.underlying3 rfl rfl (h21.ocell (i := 0) rfl rfl)) rfl ?_
    refine WL.gon rfl rfl rfl ?_
    refine WL.call can34 rfl rfl (number_c _ c.fr h21) ?_
    rintro _ w22 ⟨rfl, h22⟩
    refine ⟨_, rfl, ?_⟩
    refine WL.gon rfl rfl rfl ?_
    refine WL.v (Runs.boolT (c := false) (Runs.not rfl) (by rw [decide_eq_true (Decidable.of_not_not q2)]; rfl)) rfl ?_
    refine WL.v (Runs.pick rfl rfl rfl) rfl ?_
    refine WL.v (Runs.move rfl) rfl ?_
    refine WL.gon rfl rfl rfl ?_
    refine WL.v (Runs.fld fld24_4 rfl) rfl ?_
    refine WL.gon rfl rfl rfl ?_
    refine WL.v (Runs.load1 Try.underlying3 rfl rfl (h22.ocell (i := 0) rfl rfl)) rfl ?_
    refine WL.gon rfl rfl rfl ?_
    refine WL.call can34 rfl rfl (number_c _ c.un h22) ?_
    rintro _ w23 ⟨rfl, h23⟩
    refine ⟨_, rfl, ?_⟩
    refine WL.gon rfl rfl rfl ?_
    refine WL.v (Runs.boolT (c := false) (Runs.not rfl) (by rw [decide_eq_true (Decidable.of_not_not q3)]; rfl)) rfl ?_
    refine WL.v (Runs.pick rfl rfl rfl) rfl ?_
    refine WL.v (Runs.move rfl) rfl ?_
    refine WL.gon rfl rfl rfl ?_
    refine WL.v (Runs.fld fld24_1 rfl) rfl ?_
    refine WL.gon rfl rfl rfl ?_
    refine WL.v (Runs.load1 Try.underlying3 rfl rfl (h23.ocell (i := 0) rfl rfl)) rfl ?_
    refine WL.gon rfl rfl rfl ?_
    refine WL.v (Runs.boolT (c := false) (Runs.lss rfl rfl) (by rw [decide_eq_false_iff_not]; omega)) rfl ?_
    refine WL.v (Runs.pick rfl rfl rfl) rfl ?_
    refine WL.v (Runs.move rfl) rfl ?_
    refine WL.gon rfl rfl rfl ?_
    refine WL.v (Runs.fld fld24_1 rfl) rfl ?_
    refine WL.gon rfl rfl rfl ?_
    refine WL.v (Runs.load1 Try.underlying3 rfl rfl (h23.ocell (i := 0) rfl rfl)) rfl ?_
    refine WL.gon rfl rfl rfl ?_
    refine WL.v (Runs.boolT (c := false) (Runs.gtr rfl rfl) (by rw [decide_eq_false_iff_not]; omega)) rfl ?_
    refine WL.v (Runs.pick rfl rfl rfl) rfl ?_
    refine WL.v (Runs.move rfl) rfl ?_
    refine WL.gon rfl rfl rfl ?_
    refine WL.v (Runs.fld fld24_6 rfl) rfl ?_
    refine WL.gon rfl rfl rfl ?_
    refine WL.v (Runs.load1 Try.underlying3 rfl rfl (h23.ocell (i := 0) rfl rfl)) rfl ?_
    refine WL.gon rfl rfl rfl ?_
    refine WL.v (Runs.boolT (c := true) (Runs.lss rfl rfl) (by rw [decide_eq_true_eq]; omega)) rfl ?_
    refine WL.v (Runs.pick rfl rfl rfl) rfl ?_
    refine WL.v (Runs.move rfl) rfl ?_
    refine WL.goff rfl rfl rfl rfl ?_
    refine WL.goff rfl rfl rfl rfl ?_
    refine WL.goff rfl rfl rfl rfl ?_
    refine WL.v (Runs.pick rfl rfl rfl) rfl ?_
    refine WL.v (Runs.move rfl) rfl ?_
    refine WL.goff rfl rfl rfl rfl ?_
    refine WL.goff rfl rfl rfl rfl ?_
    refine WL.goff rfl rfl rfl rfl ?_
    refine WL.goff rfl rfl rfl rfl ?_
    refine WL.v (Runs.pick rfl rfl rfl) rfl ?_
    refine WL.v (Runs.move rfl) rfl ?_
    refine WL.goff rfl rfl rfl rfl ?_
    refine WL.goff rfl rfl rfl rfl ?_
    refine WL.goff rfl rfl rfl rfl ?_
    refine WL.goff rfl rfl rfl rfl ?_
    refine WL.v (Runs.pick rfl rfl rfl) rfl ?_
    refine WL.nil ?_
    refine WN.thn ?_
    refine WC.condT rfl (rfl) ?_
    refine WC.seq ?_
    refine WC.reg ?_
    refine WL.v (Runs.assign rfl) rfl ?_
    refine WL.nil ?_
    refine WN.thn ?_
    refine WC.ret ?_
    have hz : ¬ okC c := fun hh => by
      obtain ⟨g0, g1, g2, g3, ⟨g4, g4b⟩, ⟨g5, g5b⟩, g6⟩ := hh
      have g7 := nodes_len g6
      have g8 := g6.2
      omega
    refine ret1 rfl rfl ⟨?_, h23.drop 0⟩
    rw [show checkM c = 1 from if_neg hz]
  · skip
    refine WC.reg ?_
    refine WL.v (Runs.fld fld24_0 rfl) rfl ?_
    refine WL.v (Runs.load1 Try.underlying3 rfl rfl (h1.ocell (i := 0) rfl rfl)) rfl ?_
    refine WL.call can34 rfl rfl (number_c _ c.jb h1) ?_
    rintro _ w24 ⟨rfl, h24⟩
    refine ⟨_, rfl, ?_⟩
    refine WL.v (Runs.boolT (c := false) (Runs.not rfl) (by rw [decide_eq_true (Decidable.of_not_not q0)]; rfl)) rfl ?_
    refine WL.v (Runs.move rfl) rfl ?_
    refine WL.gon rfl rfl rfl ?_
    refine WL.v (Runs.fld fld24_2 rfl) rfl ?_
    refine WL.gon rfl rfl rfl ?_
    refine WL.v (Runs.load1 Try.underlying3 rfl rfl (h24.ocell (i := 0) rfl rfl)) rfl ?_
    refine WL.gon rfl rfl rfl ?_
    refine WL.call can34 rfl rfl (number_c _ c.st h24) ?_
    rintro _ w25 ⟨rfl, h25⟩
    refine ⟨_, rfl, ?_⟩
    refine WL.gon rfl rfl rfl ?_
    refine WL.v (Runs.boolT (c := false) (Runs.not rfl) (by rw [decide_eq_true (Decidable.of_not_not q1)]; rfl)) rfl ?_
    refine WL.v (Runs.pick rfl rfl rfl) rfl ?_
    refine WL.v (Runs.move rfl) rfl ?_
    refine WL.gon rfl rfl rfl ?_
    refine WL.v (Runs.fld fld24_3 rfl) rfl ?_
    refine WL.gon rfl rfl rfl ?_
    refine WL.v (Runs.load1 Try.underlying3 rfl rfl (h25.ocell (i := 0) rfl rfl)) rfl ?_
    refine WL.gon rfl rfl rfl ?_
    refine WL.call can34 rfl rfl (number_c _ c.fr h25) ?_
    rintro _ w26 ⟨rfl, h26⟩
    refine ⟨_, rfl, ?_⟩
    refine WL.gon rfl rfl rfl ?_
    refine WL.v (Runs.boolT (c := false) (Runs.not rfl) (by rw [decide_eq_true (Decidable.of_not_not q2)]; rfl)) rfl ?_
    refine WL.v (Runs.pick rfl rfl rfl) rfl ?_
    refine WL.v (Runs.move rfl) rfl ?_
    refine WL.gon rfl rfl rfl ?_
    refine WL.v (Runs.fld fld24_4 rfl) rfl ?_
    refine WL.gon rfl rfl rfl ?_
    refine WL.v (Runs.load1 Try.underlying3 rfl rfl (h26.ocell (i := 0) rfl rfl)) rfl ?_
    refine WL.gon rfl rfl rfl ?_
    refine WL.call can34 rfl rfl (number_c _ c.un h26) ?_
    rintro _ w27 ⟨rfl, h27⟩
    refine ⟨_, rfl, ?_⟩
    refine WL.gon rfl rfl rfl ?_
    refine WL.v (Runs.boolT (c := false) (Runs.not rfl) (by rw [decide_eq_true (Decidable.of_not_not q3)]; rfl)) rfl ?_
    refine WL.v (Runs.pick rfl rfl rfl) rfl ?_
    refine WL.v (Runs.move rfl) rfl ?_
    refine WL.gon rfl rfl rfl ?_
    refine WL.v (Runs.fld fld24_1 rfl) rfl ?_
    refine WL.gon rfl rfl rfl ?_
    refine WL.v (Runs.load1 Try.underlying3 rfl rfl (h27.ocell (i := 0) rfl rfl)) rfl ?_
    refine WL.gon rfl rfl rfl ?_
    refine WL.v (Runs.boolT (c := false) (Runs.lss rfl rfl) (by rw [decide_eq_false_iff_not]; omega)) rfl ?_
    refine WL.v (Runs.pick rfl rfl rfl) rfl ?_
    refine WL.v (Runs.move rfl) rfl ?_
    refine WL.gon rfl rfl rfl ?_
    refine WL.v (Runs.fld fld24_1 rfl) rfl ?_
    refine WL.gon rfl rfl rfl ?_
    refine WL.v (Runs.load1 Try.underlying3 rfl rfl (h27.ocell (i := 0) rfl rfl)) rfl ?_
    refine WL.gon rfl rfl rfl ?_
    refine WL.v (Runs.boolT (c := false) (Runs.gtr rfl rfl) (by rw [decide_eq_false_iff_not]; omega)) rfl ?_
    refine WL.v (Runs.pick rfl rfl rfl) rfl ?_
    refine WL.v (Runs.move rfl) rfl ?_
    refine WL.gon rfl rfl rfl ?_
    refine WL.v (Runs.fld fld24_6 rfl) rfl ?_
    refine WL.gon rfl rfl rfl ?_
    refine WL.v (Runs.load1 Try.underlying3 rfl rfl (h27.ocell (i := 0) rfl rfl)) rfl ?_
    refine WL.gon rfl rfl rfl ?_
    refine WL.v (Runs.boolT (c := false) (Runs.lss rfl rfl) (by rw [decide_eq_false_iff_not]; omega)) rfl ?_
    refine WL.v (Runs.pick rfl rfl rfl) rfl ?_
    refine WL.v (Runs.move rfl) rfl ?_
    refine WL.gon rfl rfl rfl ?_
    refine WL.v (Runs.fld fld24_6 rfl) rfl ?_
    refine WL.gon rfl rfl rfl ?_
    refine WL.v (Runs.load1 Try.underlying3 rfl rfl (h27.ocell (i := 0) rfl rfl)) rfl ?_
    refine WL.gon rfl rfl rfl ?_
    refine WL.v (Runs.boolT (c := true) (Runs.gtr rfl rfl) (by rw [decide_eq_true_eq]; omega)) rfl ?_
    refine WL.v (Runs.pick rfl rfl rfl) rfl ?_
    refine WL.v (Runs.move rfl) rfl ?_
    refine WL.goff rfl rfl rfl rfl ?_
    refine WL.goff rfl rfl rfl rfl ?_
    refine WL.goff rfl rfl rfl rfl ?_
    refine WL.goff rfl rfl rfl rfl ?_
    refine WL.v (Runs.pick rfl rfl rfl) rfl ?_
    refine WL.v (Runs.move rfl) rfl ?_
    refine WL.goff rfl rfl rfl rfl ?_
    refine WL.goff rfl rfl rfl rfl ?_
    refine WL.goff rfl rfl rfl rfl ?_
    refine WL.goff rfl rfl rfl rfl ?_
    refine WL.v (Runs.pick rfl rfl rfl) rfl ?_
    refine WL.nil ?_
    refine WN.thn ?_
    refine WC.condT rfl (rfl) ?_
    refine WC.seq ?_
    refine WC.reg ?_
    refine WL.v (Runs.assign rfl) rfl ?_
    refine WL.nil ?_
    refine WN.thn ?_
    refine WC.ret ?_
    have hz : ¬ okC c := fun hh => by
      obtain ⟨g0, g1, g2, g3, ⟨g4, g4b⟩, ⟨g5, g5b⟩, g6⟩ := hh
      have g7 := nodes_len g6
      have g8 := g6.2
      omega
    refine ret1 rfl rfl ⟨?_, h27.drop 0⟩
    rw [show checkM c = 1 from if_neg hz]
  · skip
    refine WC.reg ?_
    refine WL.v (Runs.fld fld24_0 rfl) rfl ?_
    refine WL.v (Runs.load1 Try.underlying3 rfl rfl (h1.ocell (i := 0) rfl rfl)) rfl ?_
    refine WL.call can34 rfl rfl (number_c _ c.jb h1) ?_
    rintro _ w28 ⟨rfl, h28⟩
    refine ⟨_, rfl, ?_⟩
    refine WL.v (Runs.boolT (c := false) (Runs.not rfl) (by rw [decide_eq_true (Decidable.of_not_not q0)]; rfl)) rfl ?_
    refine WL.v (Runs.move rfl) rfl ?_
    refine WL.gon rfl rfl rfl ?_
    refine WL.v (Runs.fld fld24_2 rfl) rfl ?_
    refine WL.gon rfl rfl rfl ?_
    refine WL.v (Runs.load1 Try.underlying3 rfl rfl (h28.ocell (i := 0) rfl rfl)) rfl ?_
    refine WL.gon rfl rfl rfl ?_
    refine WL.call can34 rfl rfl (number_c _ c.st h28) ?_
    rintro _ w29 ⟨rfl, h29⟩
    refine ⟨_, rfl, ?_⟩
    refine WL.gon rfl rfl rfl ?_
    refine WL.v (Runs.boolT (c := false) (Runs.not rfl) (by rw [decide_eq_true (Decidable.of_not_not q1)]; rfl)) rfl ?_
    refine WL.v (Runs.pick rfl rfl rfl) rfl ?_
    refine WL.v (Runs.move rfl) rfl ?_
    refine WL.gon rfl rfl rfl ?_
    refine WL.v (Runs.fld fld24_3 rfl) rfl ?_
    refine WL.gon rfl rfl rfl ?_
    refine WL.v (Runs.load1 Try.underlying3 rfl rfl (h29.ocell (i := 0) rfl rfl)) rfl ?_
    refine WL.gon rfl rfl rfl ?_
    refine WL.call can34 rfl rfl (number_c _ c.fr h29) ?_
    rintro _ w30 ⟨rfl, h30⟩
    refine ⟨_, rfl, ?_⟩
    refine WL.gon rfl rfl rfl ?_
    refine WL.v (Runs.boolT (c := false) (Runs.not rfl) (by rw [decide_eq_true (Decidable.of_not_not q2)]; rfl)) rfl ?_
    refine WL.v (Runs.pick rfl rfl rfl) rfl ?_
    refine WL.v (Runs.move rfl) rfl ?_
    refine WL.gon rfl rfl rfl ?_
    refine WL.v (Runs.fld fld24_4 rfl) rfl ?_
    refine WL.gon rfl rfl rfl ?_
    refine WL.v (Runs.load1 Try.underlying3 rfl rfl (h30.ocell (i := 0) rfl rfl)) rfl ?_
    refine WL.gon rfl rfl rfl ?_
    refine WL.call can34 rfl rfl (number_c _ c.un h30) ?_
    rintro _ w31 ⟨rfl, h31⟩
    refine ⟨_, rfl, ?_⟩
    refine WL.gon rfl rfl rfl ?_
    refine WL.v (Runs.boolT (c := false) (Runs.not rfl) (by rw [decide_eq_true (Decidable.of_not_not q3)]; rfl)) rfl ?_
    refine WL.v (Runs.pick rfl rfl rfl) rfl ?_
    refine WL.v (Runs.move rfl) rfl ?_
    refine WL.gon rfl rfl rfl ?_
    refine WL.v (Runs.fld fld24_1 rfl) rfl ?_
    refine WL.gon rfl rfl rfl ?_
    refine WL.v (Runs.load1 Try.underlying3 rfl rfl (h31.ocell (i := 0) rfl rfl)) rfl ?_
    refine WL.gon rfl rfl rfl ?_
    refine WL.v (Runs.boolT (c := false) (Runs.lss rfl rfl) (by rw [decide_eq_false_iff_not]; omega)) rfl ?_
    refine WL.v (Runs.pick rfl rfl rfl) rfl ?_
    refine WL.v (Runs.move rfl) rfl ?_
    refine WL.gon rfl rfl rfl ?_
    refine WL.v (Runs.fld fld24_1 rfl) rfl ?_
    refine WL.gon rfl rfl rfl ?_
    refine WL.v (Runs.load1 Try.underlying3 rfl rfl (h31.ocell (i := 0) rfl rfl)) rfl ?_
    refine WL.gon rfl rfl rfl ?_
    refine WL.v (Runs.boolT (c := false) (Runs.gtr rfl rfl) (by rw [decide_eq_false_iff_not]; omega)) rfl ?_
    refine WL.v (Runs.pick rfl rfl rfl) rfl ?_
    refine WL.v (Runs.move rfl) rfl ?_
    refine WL.gon rfl rfl rfl ?_
    refine WL.v (Runs.fld fld24_6 rfl) rfl ?_
    refine WL.gon rfl rfl rfl ?_
    refine WL.v (Runs.load1 Try.underlying3 rfl rfl (h31.ocell (i := 0) rfl rfl)) rfl ?_
    refine WL.gon rfl rfl rfl ?_
    refine WL.v (Runs.boolT (c := false) (Runs.lss rfl rfl) (by rw [decide_eq_false_iff_not]; omega)) rfl ?_
    refine WL.v (Runs.pick rfl rfl rfl) rfl ?_
    refine WL.v (Runs.move rfl) rfl ?_
    refine WL.gon rfl rfl rfl ?_
    refine WL.v (Runs.fld fld24_6 rfl) rfl ?_
    refine WL.gon rfl rfl rfl ?_
    refine WL.v (Runs.load1 Try.underlying3 rfl rfl (h31.ocell (i := 0) rfl rfl)) rfl ?_
    refine WL.gon rfl rfl rfl ?_
    refine WL.v (Runs.boolT (c := false) (Runs.gtr rfl rfl) (by rw [decide_eq_false_iff_not]; omega)) rfl ?_
    refine WL.v (Runs.pick rfl rfl rfl) rfl ?_
    refine WL.v (Runs.move rfl) rfl ?_
    refine WL.gon rfl rfl rfl ?_
    refine WL.v (Runs.fld fld24_5 rfl) rfl ?_
    refine WL.gon rfl rfl rfl ?_
    refine WL.v (Runs.load1 Try.underlying22 rfl rfl (h31.ocell (i := 0) rfl rfl)) rfl ?_
    refine WL.gon rfl rfl rfl ?_
    refine WL.v (Runs.intT (n := (c.nd.length : Int)) (Runs.llen Try.underlying22 rfl rfl) rfl) rfl ?_
    refine WL.gon rfl rfl rfl ?_
    refine WL.v (Runs.boolT (c := true) (Runs.lss rfl rfl) (by rw [decide_eq_true_eq]; omega)) rfl ?_
    refine WL.v (Runs.pick rfl rfl rfl) rfl ?_
    refine WL.v (Runs.move rfl) rfl ?_
    refine WL.goff rfl rfl rfl rfl ?_
    refine WL.goff rfl rfl rfl rfl ?_
    refine WL.goff rfl rfl rfl rfl ?_
    refine WL.goff rfl rfl rfl rfl ?_
    refine WL.v (Runs.pick rfl rfl rfl) rfl ?_
    refine WL.nil ?_
    refine WN.thn ?_
    refine WC.condT rfl (rfl) ?_
    refine WC.seq ?_
    refine WC.reg ?_
    refine WL.v (Runs.assign rfl) rfl ?_
    refine WL.nil ?_
    refine WN.thn ?_
    refine WC.ret ?_
    have hz : ¬ okC c := fun hh => by
      obtain ⟨g0, g1, g2, g3, ⟨g4, g4b⟩, ⟨g5, g5b⟩, g6⟩ := hh
      have g7 := nodes_len g6
      have g8 := g6.2
      omega
    refine ret1 rfl rfl ⟨?_, h31.drop 0⟩
    rw [show checkM c = 1 from if_neg hz]
  · skip
    refine WC.reg ?_
    refine WL.v (Runs.fld fld24_0 rfl) rfl ?_
    refine WL.v (Runs.load1 Try.underlying3 rfl rfl (h1.ocell (i := 0) rfl rfl)) rfl ?_
    refine WL.call can34 rfl rfl (number_c _ c.jb h1) ?_
    rintro _ w32 ⟨rfl, h32⟩
    refine ⟨_, rfl, ?_⟩
    refine WL.v (Runs.boolT (c := false) (Runs.not rfl) (by rw [decide_eq_true (Decidable.of_not_not q0)]; rfl)) rfl ?_
    refine WL.v (Runs.move rfl) rfl ?_
    refine WL.gon rfl rfl rfl ?_
    refine WL.v (Runs.fld fld24_2 rfl) rfl ?_
    refine WL.gon rfl rfl rfl ?_
    refine WL.v (Runs.load1 Try.underlying3 rfl rfl (h32.ocell (i := 0) rfl rfl)) rfl ?_
    refine WL.gon rfl rfl rfl ?_
    refine WL.call can34 rfl rfl (number_c _ c.st h32) ?_
    rintro _ w33 ⟨rfl, h33⟩
    refine ⟨_, rfl, ?_⟩
    refine WL.gon rfl rfl rfl ?_
    refine WL.v (Runs.boolT (c := false) (Runs.not rfl) (by rw [decide_eq_true (Decidable.of_not_not q1)]; rfl)) rfl ?_
    refine WL.v (Runs.pick rfl rfl rfl) rfl ?_
    refine WL.v (Runs.move rfl) rfl ?_
    refine WL.gon rfl rfl rfl ?_
    refine WL.v (Runs.fld fld24_3 rfl) rfl ?_
    refine WL.gon rfl rfl rfl ?_
    refine WL.v (Runs.load1 Try.underlying3 rfl rfl (h33.ocell (i := 0) rfl rfl)) rfl ?_
    refine WL.gon rfl rfl rfl ?_
    refine WL.call can34 rfl rfl (number_c _ c.fr h33) ?_
    rintro _ w34 ⟨rfl, h34⟩
    refine ⟨_, rfl, ?_⟩
    refine WL.gon rfl rfl rfl ?_
    refine WL.v (Runs.boolT (c := false) (Runs.not rfl) (by rw [decide_eq_true (Decidable.of_not_not q2)]; rfl)) rfl ?_
    refine WL.v (Runs.pick rfl rfl rfl) rfl ?_
    refine WL.v (Runs.move rfl) rfl ?_
    refine WL.gon rfl rfl rfl ?_
    refine WL.v (Runs.fld fld24_4 rfl) rfl ?_
    refine WL.gon rfl rfl rfl ?_
    refine WL.v (Runs.load1 Try.underlying3 rfl rfl (h34.ocell (i := 0) rfl rfl)) rfl ?_
    refine WL.gon rfl rfl rfl ?_
    refine WL.call can34 rfl rfl (number_c _ c.un h34) ?_
    rintro _ w35 ⟨rfl, h35⟩
    refine ⟨_, rfl, ?_⟩
    refine WL.gon rfl rfl rfl ?_
    refine WL.v (Runs.boolT (c := false) (Runs.not rfl) (by rw [decide_eq_true (Decidable.of_not_not q3)]; rfl)) rfl ?_
    refine WL.v (Runs.pick rfl rfl rfl) rfl ?_
    refine WL.v (Runs.move rfl) rfl ?_
    refine WL.gon rfl rfl rfl ?_
    refine WL.v (Runs.fld fld24_1 rfl) rfl ?_
    refine WL.gon rfl rfl rfl ?_
    refine WL.v (Runs.load1 Try.underlying3 rfl rfl (h35.ocell (i := 0) rfl rfl)) rfl ?_
    refine WL.gon rfl rfl rfl ?_
    refine WL.v (Runs.boolT (c := false) (Runs.lss rfl rfl) (by rw [decide_eq_false_iff_not]; omega)) rfl ?_
    refine WL.v (Runs.pick rfl rfl rfl) rfl ?_
    refine WL.v (Runs.move rfl) rfl ?_
    refine WL.gon rfl rfl rfl ?_
    refine WL.v (Runs.fld fld24_1 rfl) rfl ?_
    refine WL.gon rfl rfl rfl ?_
    refine WL.v (Runs.load1 Try.underlying3 rfl rfl (h35.ocell (i := 0) rfl rfl)) rfl ?_
    refine WL.gon rfl rfl rfl ?_
    refine WL.v (Runs.boolT (c := false) (Runs.gtr rfl rfl) (by rw [decide_eq_false_iff_not]; omega)) rfl ?_
    refine WL.v (Runs.pick rfl rfl rfl) rfl ?_
    refine WL.v (Runs.move rfl) rfl ?_
    refine WL.gon rfl rfl rfl ?_
    refine WL.v (Runs.fld fld24_6 rfl) rfl ?_
    refine WL.gon rfl rfl rfl ?_
    refine WL.v (Runs.load1 Try.underlying3 rfl rfl (h35.ocell (i := 0) rfl rfl)) rfl ?_
    refine WL.gon rfl rfl rfl ?_
    refine WL.v (Runs.boolT (c := false) (Runs.lss rfl rfl) (by rw [decide_eq_false_iff_not]; omega)) rfl ?_
    refine WL.v (Runs.pick rfl rfl rfl) rfl ?_
    refine WL.v (Runs.move rfl) rfl ?_
    refine WL.gon rfl rfl rfl ?_
    refine WL.v (Runs.fld fld24_6 rfl) rfl ?_
    refine WL.gon rfl rfl rfl ?_
    refine WL.v (Runs.load1 Try.underlying3 rfl rfl (h35.ocell (i := 0) rfl rfl)) rfl ?_
    refine WL.gon rfl rfl rfl ?_
    refine WL.v (Runs.boolT (c := false) (Runs.gtr rfl rfl) (by rw [decide_eq_false_iff_not]; omega)) rfl ?_
    refine WL.v (Runs.pick rfl rfl rfl) rfl ?_
    refine WL.v (Runs.move rfl) rfl ?_
    refine WL.gon rfl rfl rfl ?_
    refine WL.v (Runs.fld fld24_5 rfl) rfl ?_
    refine WL.gon rfl rfl rfl ?_
    refine WL.v (Runs.load1 Try.underlying22 rfl rfl (h35.ocell (i := 0) rfl rfl)) rfl ?_
    refine WL.gon rfl rfl rfl ?_
    refine WL.v (Runs.intT (n := (c.nd.length : Int)) (Runs.llen Try.underlying22 rfl rfl) rfl) rfl ?_
    refine WL.gon rfl rfl rfl ?_
    refine WL.v (Runs.boolT (c := false) (Runs.lss rfl rfl) (by rw [decide_eq_false_iff_not]; omega)) rfl ?_
    refine WL.v (Runs.pick rfl rfl rfl) rfl ?_
    refine WL.v (Runs.move rfl) rfl ?_
    refine WL.gon rfl rfl rfl ?_
    refine WL.v (Runs.fld fld24_5 rfl) rfl ?_
    refine WL.gon rfl rfl rfl ?_
    refine WL.v (Runs.load1 Try.underlying22 rfl rfl (h35.ocell (i := 0) rfl rfl)) rfl ?_
    refine WL.gon rfl rfl rfl ?_
    refine WL.v (Runs.intT (n := (c.nd.length : Int)) (Runs.llen Try.underlying22 rfl rfl) rfl) rfl ?_
    refine WL.gon rfl rfl rfl ?_
    refine WL.v (Runs.boolT (c := true) (Runs.gtr rfl rfl) (by rw [decide_eq_true_eq]; omega)) rfl ?_
    refine WL.v (Runs.pick rfl rfl rfl) rfl ?_
    refine WL.nil ?_
    refine WN.thn ?_
    refine WC.condT rfl (rfl) ?_
    refine WC.seq ?_
    refine WC.reg ?_
    refine WL.v (Runs.assign rfl) rfl ?_
    refine WL.nil ?_
    refine WN.thn ?_
    refine WC.ret ?_
    have hz : ¬ okC c := fun hh => by
      obtain ⟨g0, g1, g2, g3, ⟨g4, g4b⟩, ⟨g5, g5b⟩, g6⟩ := hh
      have g7 := nodes_len g6
      have g8 := g6.2
      omega
    refine ret1 rfl rfl ⟨?_, h35.drop 0⟩
    rw [show checkM c = 1 from if_neg hz]
  · skip
    refine WC.reg ?_
    refine WL.v (Runs.fld fld24_0 rfl) rfl ?_
    refine WL.v (Runs.load1 Try.underlying3 rfl rfl (h1.ocell (i := 0) rfl rfl)) rfl ?_
    refine WL.call can34 rfl rfl (number_c _ c.jb h1) ?_
    rintro _ w36 ⟨rfl, h36⟩
    refine ⟨_, rfl, ?_⟩
    refine WL.v (Runs.boolT (c := false) (Runs.not rfl) (by rw [decide_eq_true (Decidable.of_not_not q0)]; rfl)) rfl ?_
    refine WL.v (Runs.move rfl) rfl ?_
    refine WL.gon rfl rfl rfl ?_
    refine WL.v (Runs.fld fld24_2 rfl) rfl ?_
    refine WL.gon rfl rfl rfl ?_
    refine WL.v (Runs.load1 Try.underlying3 rfl rfl (h36.ocell (i := 0) rfl rfl)) rfl ?_
    refine WL.gon rfl rfl rfl ?_
    refine WL.call can34 rfl rfl (number_c _ c.st h36) ?_
    rintro _ w37 ⟨rfl, h37⟩
    refine ⟨_, rfl, ?_⟩
    refine WL.gon rfl rfl rfl ?_
    refine WL.v (Runs.boolT (c := false) (Runs.not rfl) (by rw [decide_eq_true (Decidable.of_not_not q1)]; rfl)) rfl ?_
    refine WL.v (Runs.pick rfl rfl rfl) rfl ?_
    refine WL.v (Runs.move rfl) rfl ?_
    refine WL.gon rfl rfl rfl ?_
    refine WL.v (Runs.fld fld24_3 rfl) rfl ?_
    refine WL.gon rfl rfl rfl ?_
    refine WL.v (Runs.load1 Try.underlying3 rfl rfl (h37.ocell (i := 0) rfl rfl)) rfl ?_
    refine WL.gon rfl rfl rfl ?_
    refine WL.call can34 rfl rfl (number_c _ c.fr h37) ?_
    rintro _ w38 ⟨rfl, h38⟩
    refine ⟨_, rfl, ?_⟩
    refine WL.gon rfl rfl rfl ?_
    refine WL.v (Runs.boolT (c := false) (Runs.not rfl) (by rw [decide_eq_true (Decidable.of_not_not q2)]; rfl)) rfl ?_
    refine WL.v (Runs.pick rfl rfl rfl) rfl ?_
    refine WL.v (Runs.move rfl) rfl ?_
    refine WL.gon rfl rfl rfl ?_
    refine WL.v (Runs.fld fld24_4 rfl) rfl ?_
    refine WL.gon rfl rfl rfl ?_
    refine WL.v (Runs.load1 Try.underlying3 rfl rfl (h38.ocell (i := 0) rfl rfl)) rfl ?_
    refine WL.gon rfl rfl rfl ?_
    refine WL.call can34 rfl rfl (number_c _ c.un h38) ?_
    rintro _ w39 ⟨rfl, h39⟩
    refine ⟨_, rfl, ?_⟩
    refine WL.gon rfl rfl rfl ?_
    refine WL.v (Runs.boolT (c := false) (Runs.not rfl) (by rw [decide_eq_true (Decidable.of_not_not q3)]; rfl)) rfl ?_
    refine WL.v (Runs.pick rfl rfl rfl) rfl ?_
    refine WL.v (Runs.move rfl) rfl ?_
    refine WL.gon rfl rfl rfl ?_
    refine WL.v (Runs.fld fld24_1 rfl) rfl ?_
    refine WL.gon rfl rfl rfl ?_
    refine WL.v (Runs.load1 Try.underlying3 rfl rfl (h39.ocell (i := 0) rfl rfl)) rfl ?_
    refine WL.gon rfl rfl rfl ?_
    refine WL.v (Runs.boolT (c := false) (Runs.lss rfl rfl) (by rw [decide_eq_false_iff_not]; omega)) rfl ?_
    refine WL.v (Runs.pick rfl rfl rfl) rfl ?_
    refine WL.v (Runs.move rfl) rfl ?_
    refine WL.gon rfl rfl rfl ?_
    refine WL.v (Runs.fld fld24_1 rfl) rfl ?_
    refine WL.gon rfl rfl rfl ?_
    refine WL.v (Runs.load1 Try.underlying3 rfl rfl (h39.ocell (i := 0) rfl rfl)) rfl ?_
    refine WL.gon rfl rfl rfl ?_
    refine WL.v (Runs.boolT (c := false) (Runs.gtr rfl rfl) (by rw [decide_eq_false_iff_not]; omega)) rfl ?_
    refine WL.v (Runs.pick rfl rfl rfl) rfl ?_
    refine WL.v (Runs.move rfl) rfl ?_
    refine WL.gon rfl rfl rfl ?_
    refine WL.v (Runs.fld fld24_6 rfl) rfl ?_
    refine WL.gon rfl rfl rfl ?_
    refine WL.v (Runs.load1 Try.underlying3 rfl rfl (h39.ocell (i := 0) rfl rfl)) rfl ?_
    refine WL.gon rfl rfl rfl ?_
    refine WL.v (Runs.boolT (c := false) (Runs.lss rfl rfl) (by rw [decide_eq_false_iff_not]; omega)) rfl ?_
    refine WL.v (Runs.pick rfl rfl rfl) rfl ?_
    refine WL.v (Runs.move rfl) rfl ?_
    refine WL.gon rfl rfl rfl ?_
    refine WL.v (Runs.fld fld24_6 rfl) rfl ?_
    refine WL.gon rfl rfl rfl ?_
    refine WL.v (Runs.load1 Try.underlying3 rfl rfl (h39.ocell (i := 0) rfl rfl)) rfl ?_
    refine WL.gon rfl rfl rfl ?_
    refine WL.v (Runs.boolT (c := false) (Runs.gtr rfl rfl) (by rw [decide_eq_false_iff_not]; omega)) rfl ?_
    refine WL.v (Runs.pick rfl rfl rfl) rfl ?_
    refine WL.v (Runs.move rfl) rfl ?_
    refine WL.gon rfl rfl rfl ?_
    refine WL.v (Runs.fld fld24_5 rfl) rfl ?_
    refine WL.gon rfl rfl rfl ?_
    refine WL.v (Runs.load1 Try.underlying22 rfl rfl (h39.ocell (i := 0) rfl rfl)) rfl ?_
    refine WL.gon rfl rfl rfl ?_
    refine WL.v (Runs.intT (n := (c.nd.length : Int)) (Runs.llen Try.underlying22 rfl rfl) rfl) rfl ?_
    refine WL.gon rfl rfl rfl ?_
    refine WL.v (Runs.boolT (c := false) (Runs.lss rfl rfl) (by rw [decide_eq_false_iff_not]; omega)) rfl ?_
    refine WL.v (Runs.pick rfl rfl rfl) rfl ?_
    refine WL.v (Runs.move rfl) rfl ?_
    refine WL.gon rfl rfl rfl ?_
    refine WL.v (Runs.fld fld24_5 rfl) rfl ?_
    refine WL.gon rfl rfl rfl ?_
    refine WL.v (Runs.load1 Try.underlying22 rfl rfl (h39.ocell (i := 0) rfl rfl)) rfl ?_
    refine WL.gon rfl rfl rfl ?_
    refine WL.v (Runs.intT (n := (c.nd.length : Int)) (Runs.llen Try.underlying22 rfl rfl) rfl) rfl ?_
    refine WL.gon rfl rfl rfl ?_
    refine WL.v (Runs.boolT (c := false) (Runs.gtr rfl rfl) (by rw [decide_eq_false_iff_not]; omega)) rfl ?_
    refine WL.v (Runs.pick rfl rfl rfl) rfl ?_
    refine WL.nil ?_
    refine WN.thn ?_
    refine WC.condF rfl (rfl) ?_
    refine WC.skip ?_
    refine WN.thn ?_
    refine WC.seq ?_
    refine WC.seq ?_
    refine WC.reg ?_
    refine WL.v (Runs.assign rfl) rfl ?_
    refine WL.nil ?_
    refine WN.thn ?_
    refine WC.block ?_
    refine WC.loop (σ := Nat) (fun q_ => [(1, .pointer (some ⟨b1, 0, none⟩)), (3, .int .i64 (q_ : Int))]) (fun q_ w => q_ ≤ c.nd.length ∧ (∀ j, j < q_ → ndAt c.nd j) ∧ St W F ([(b1, .cells #[Vi c.jb, Vi c.ep, Vi c.st, Vi c.fr, Vi c.un, .slice A c.nd.length cap, Vi c.co] 24 (0, 0))] :: cs) w) (fun q_ => c.nd.length - q_) (0) (by repeat (first | exact trivial | refine ⟨rfl, ?_⟩)) (⟨Nat.zero_le _, fun j hj => absurd hj (Nat.not_lt_zero _), h39⟩) ?_
    rintro i w40 ⟨hi, hall, hL⟩
    try dsimp only at hi hall hL
    refine WC.sub (s := [(1, .pointer (some ⟨b1, 0, none⟩)), (3, .int .i64 (i : Int))]) (by repeat (first | exact trivial | refine ⟨rfl, ?_⟩)) ?_
    refine WC.seq ?_
    refine WC.seq ?_
    refine WC.reg ?_
    refine WL.v (Runs.move rfl) rfl ?_
    refine WL.v (Runs.fld fld24_5 rfl) rfl ?_
    refine WL.v (Runs.load1 Try.underlying22 rfl rfl (hL.ocell (i := 0) rfl rfl)) rfl ?_
    refine WL.v (Runs.intT (n := (c.nd.length : Int)) (Runs.llen Try.underlying22 rfl rfl) rfl) rfl ?_
    refine WL.v (Runs.lss rfl rfl) rfl ?_
    refine WL.nil ?_
    refine WN.thn ?_
    refine WC.cond rfl (fun c41 => ?_) (fun c41 => ?_)
    · try simp only [decide_eq_true_eq, decide_eq_false_iff_not, Bool.not_eq_true', Bool.not_eq_false', Bool.and_eq_true, Int.not_lt, Int.not_le] at c41
      first
      | (exfalso; omega)
      | skip
        refine WC.skip ?_
        refine WN.thn ?_
        refine WC.seq ?_
        refine WC.block ?_
        refine WC.seq ?_
        have hi2 : i < c.nd.length := by omega
        obtain ⟨ad, rfl, hrd⟩ := rd1 hR (by omega)
        have hlg := last_ge hall
        have hl0 := last_0 c.nd
        have hls := last_s (xs := c.nd) (i := i)
        rcases nodeCase (c.nd.getD i 0) (c.nd.getD (i - 1) 0) i with hx | ⟨hx, hy⟩ | ⟨hx, hy, hz⟩ | ⟨hx, hy, hz, hp⟩ | ⟨hx, hy, hz, hp⟩
        · skip
          refine WC.qreg (C := fun w_ => St W F _ w_) mixed (by kernel_rfl) (hL.drew) ?_
          refine WQ.val (fun w_ hC_ => Runs.fld fld24_5 rfl) rfl ?_
          refine WQ.val (fun w_ hC_ => Runs.load1 Try.underlying22 rfl rfl (hC_.ocell (i := 0) rfl rfl)) rfl ?_
          refine WQ.val (fun w_ hC_ => Runs.move rfl) rfl ?_
          refine WQ.val (fun w_ hC_ => Runs.lidxN Try.underlying22 inf3 rfl rfl (n := i) rfl (by omega)) rfl ?_
          refine WQ.val (fun w_ hC_ => Runs.loadR (f := Vi) (0 : Int) hC_ hrd (n := i) (by omega) Try.underlying3 rfl rfl) rfl ?_
          refine WQ.val (fun w_ hC_ => Runs.boolT (c := true) (Runs.lss rfl rfl) (by rw [decide_eq_true_eq]; omega)) rfl ?_
          refine WQ.val (fun w_ hC_ => Runs.move rfl) rfl ?_
          refine WQ.goff rfl rfl rfl rfl ?_
          refine WQ.goff rfl rfl rfl rfl ?_
          refine WQ.goff rfl rfl rfl rfl ?_
          refine WQ.goff rfl rfl rfl rfl ?_
          refine WQ.goff rfl rfl rfl rfl ?_
          refine WQ.goff rfl rfl rfl rfl ?_
          refine WQ.val (fun w_ hC_ => Runs.pick rfl rfl rfl) rfl ?_
          refine WQ.val (fun w_ hC_ => Runs.move rfl) rfl ?_
          refine WQ.goff rfl rfl rfl rfl ?_
          refine WQ.goff rfl rfl rfl rfl ?_
          refine WQ.goff rfl rfl rfl rfl ?_
          refine WQ.goffU rfl rfl rfl ?_
          refine WQ.goffU rfl rfl rfl ?_
          refine WQ.goffU rfl rfl rfl ?_
          refine WQ.goffU rfl rfl rfl ?_
          refine WQ.goffU rfl rfl rfl ?_
          refine WQ.goffU rfl rfl rfl ?_
          refine WQ.goffU rfl rfl rfl ?_
          refine WQ.goffU rfl rfl rfl ?_
          refine WQ.goffU rfl rfl rfl ?_
          refine WQ.goffU rfl rfl rfl ?_
          refine WQ.goffU rfl rfl rfl ?_
          refine WQ.goffU rfl rfl rfl ?_
          refine WQ.goff rfl rfl rfl rfl ?_
          refine WQ.val (fun w_ hC_ => Runs.pick rfl rfl rfl) rfl ?_
          refine WQ.fin ?_
          intro w42 h42
          refine WN.thn ?_
          refine WC.condT rfl (rfl) ?_
          refine WC.seq ?_
          refine WC.reg ?_
          refine WL.v (Runs.assign rfl) rfl ?_
          refine WL.nil ?_
          refine WN.thn ?_
          refine WC.ret ?_
          have hz : ¬ okC c := fun hh => by
            have g6 := hh.2.2.2.2.2.2.1 i hi2
            unfold ndAt at g6
            omega
          refine ret1 rfl rfl ⟨?_, h42.drop 0⟩
          rw [show checkM c = 1 from if_neg hz]
        · skip
          refine WC.qreg (C := fun w_ => St W F _ w_) mixed (by kernel_rfl) (hL.drew) ?_
          refine WQ.val (fun w_ hC_ => Runs.fld fld24_5 rfl) rfl ?_
          refine WQ.val (fun w_ hC_ => Runs.load1 Try.underlying22 rfl rfl (hC_.ocell (i := 0) rfl rfl)) rfl ?_
          refine WQ.val (fun w_ hC_ => Runs.move rfl) rfl ?_
          refine WQ.val (fun w_ hC_ => Runs.lidxN Try.underlying22 inf3 rfl rfl (n := i) rfl (by omega)) rfl ?_
          refine WQ.val (fun w_ hC_ => Runs.loadR (f := Vi) (0 : Int) hC_ hrd (n := i) (by omega) Try.underlying3 rfl rfl) rfl ?_
          refine WQ.val (fun w_ hC_ => Runs.boolT (c := false) (Runs.lss rfl rfl) (by rw [decide_eq_false_iff_not]; omega)) rfl ?_
          refine WQ.val (fun w_ hC_ => Runs.move rfl) rfl ?_
          refine WQ.gon rfl rfl rfl ?_
          refine WQ.val (fun w_ hC_ => Runs.fld fld24_5 rfl) rfl ?_
          refine WQ.gon rfl rfl rfl ?_
          refine WQ.val (fun w_ hC_ => Runs.load1 Try.underlying22 rfl rfl (hC_.ocell (i := 0) rfl rfl)) rfl ?_
          refine WQ.gon rfl rfl rfl ?_
          refine WQ.val (fun w_ hC_ => Runs.move rfl) rfl ?_
          refine WQ.gon rfl rfl rfl ?_
          refine WQ.val (fun w_ hC_ => Runs.lidxN Try.underlying22 inf3 rfl rfl (n := i) rfl (by omega)) rfl ?_
          refine WQ.gon rfl rfl rfl ?_
          refine WQ.val (fun w_ hC_ => Runs.loadR (f := Vi) (0 : Int) hC_ hrd (n := i) (by omega) Try.underlying3 rfl rfl) rfl ?_
          refine WQ.gon rfl rfl rfl ?_
          refine WQ.val (fun w_ hC_ => Runs.boolT (c := true) (Runs.gtr rfl rfl) (by rw [decide_eq_true_eq]; omega)) rfl ?_
          refine WQ.val (fun w_ hC_ => Runs.pick rfl rfl rfl) rfl ?_
          refine WQ.val (fun w_ hC_ => Runs.move rfl) rfl ?_
          refine WQ.goff rfl rfl rfl rfl ?_
          refine WQ.goff rfl rfl rfl rfl ?_
          refine WQ.goff rfl rfl rfl rfl ?_
          refine WQ.goffU rfl rfl rfl ?_
          refine WQ.goffU rfl rfl rfl ?_
          refine WQ.goffU rfl rfl rfl ?_
          refine WQ.goffU rfl rfl rfl ?_
          refine WQ.goffU rfl rfl rfl ?_
          refine WQ.goffU rfl rfl rfl ?_
          refine WQ.goffU rfl rfl rfl ?_
          refine WQ.goffU rfl rfl rfl ?_
          refine WQ.goffU rfl rfl rfl ?_
          refine WQ.goffU rfl rfl rfl ?_
          refine WQ.goffU rfl rfl rfl ?_
          refine WQ.goffU rfl rfl rfl ?_
          refine WQ.goff rfl rfl rfl rfl ?_
          refine WQ.val (fun w_ hC_ => Runs.pick rfl rfl rfl) rfl ?_
          refine WQ.fin ?_
          intro w43 h43
          refine WN.thn ?_
          refine WC.condT rfl (rfl) ?_
          refine WC.seq ?_
          refine WC.reg ?_
          refine WL.v (Runs.assign rfl) rfl ?_
          refine WL.nil ?_
          refine WN.thn ?_
          refine WC.ret ?_
          have hz : ¬ okC c := fun hh => by
            have g6 := hh.2.2.2.2.2.2.1 i hi2
            unfold ndAt at g6
            omega
          refine ret1 rfl rfl ⟨?_, h43.drop 0⟩
          rw [show checkM c = 1 from if_neg hz]
        · skip
          refine WC.qreg (C := fun w_ => St W F _ w_) mixed (by kernel_rfl) (hL.drew) ?_
          refine WQ.val (fun w_ hC_ => Runs.fld fld24_5 rfl) rfl ?_
          refine WQ.val (fun w_ hC_ => Runs.load1 Try.underlying22 rfl rfl (hC_.ocell (i := 0) rfl rfl)) rfl ?_
          refine WQ.val (fun w_ hC_ => Runs.move rfl) rfl ?_
          refine WQ.val (fun w_ hC_ => Runs.lidxN Try.underlying22 inf3 rfl rfl (n := i) rfl (by omega)) rfl ?_
          refine WQ.val (fun w_ hC_ => Runs.loadR (f := Vi) (0 : Int) hC_ hrd (n := i) (by omega) Try.underlying3 rfl rfl) rfl ?_
          refine WQ.val (fun w_ hC_ => Runs.boolT (c := false) (Runs.lss rfl rfl) (by rw [decide_eq_false_iff_not]; omega)) rfl ?_
          refine WQ.val (fun w_ hC_ => Runs.move rfl) rfl ?_
          refine WQ.gon rfl rfl rfl ?_
          refine WQ.val (fun w_ hC_ => Runs.fld fld24_5 rfl) rfl ?_
          refine WQ.gon rfl rfl rfl ?_
          refine WQ.val (fun w_ hC_ => Runs.load1 Try.underlying22 rfl rfl (hC_.ocell (i := 0) rfl rfl)) rfl ?_
          refine WQ.gon rfl rfl rfl ?_
          refine WQ.val (fun w_ hC_ => Runs.move rfl) rfl ?_
          refine WQ.gon rfl rfl rfl ?_
          refine WQ.val (fun w_ hC_ => Runs.lidxN Try.underlying22 inf3 rfl rfl (n := i) rfl (by omega)) rfl ?_
          refine WQ.gon rfl rfl rfl ?_
          refine WQ.val (fun w_ hC_ => Runs.loadR (f := Vi) (0 : Int) hC_ hrd (n := i) (by omega) Try.underlying3 rfl rfl) rfl ?_
          refine WQ.gon rfl rfl rfl ?_
          refine WQ.val (fun w_ hC_ => Runs.boolT (c := false) (Runs.gtr rfl rfl) (by rw [decide_eq_false_iff_not]; omega)) rfl ?_
          refine WQ.val (fun w_ hC_ => Runs.pick rfl rfl rfl) rfl ?_
          refine WQ.val (fun w_ hC_ => Runs.move rfl) rfl ?_
          refine WQ.gon rfl rfl rfl ?_
          refine WQ.val (fun w_ hC_ => Runs.move rfl) rfl ?_
          refine WQ.gon rfl rfl rfl ?_
          refine WQ.val (fun w_ hC_ => Runs.boolT (c := false) (Runs.gtr rfl rfl) (by rw [decide_eq_false_iff_not]; omega)) rfl ?_
          refine WQ.gon rfl rfl rfl ?_
          refine WQ.val (fun w_ hC_ => Runs.move rfl) rfl ?_
          refine WQ.goff rfl rfl rfl rfl ?_
          refine WQ.goff rfl rfl rfl rfl ?_
          refine WQ.goff rfl rfl rfl rfl ?_
          refine WQ.goff rfl rfl rfl rfl ?_
          refine WQ.goff rfl rfl rfl rfl ?_
          refine WQ.goff rfl rfl rfl rfl ?_
          refine WQ.goff rfl rfl rfl rfl ?_
          refine WQ.goff rfl rfl rfl rfl ?_
          refine WQ.goff rfl rfl rfl rfl ?_
          refine WQ.goff rfl rfl rfl rfl ?_
          refine WQ.goff rfl rfl rfl rfl ?_
          refine WQ.goff rfl rfl rfl rfl ?_
          refine WQ.gon rfl rfl rfl ?_
          refine WQ.val (fun w_ hC_ => Runs.pick rfl rfl rfl) rfl ?_
          refine WQ.val (fun w_ hC_ => Runs.pick rfl rfl rfl) rfl ?_
          refine WQ.fin ?_
          intro w44 h44
          refine WN.thn ?_
          refine WC.condF rfl (rfl) ?_
          refine WC.skip ?_
          refine WN.blk ?_
          refine WN.thn ?_
          refine WC.reg ?_
          refine WL.v (Runs.move rfl) rfl ?_
          refine WL.v (Runs.addn rfl rfl (by omega)) rfl ?_
          refine WL.v (Runs.assign rfl) rfl ?_
          refine WL.nil ?_
          exact WN.again (i + 1) (by omega) ⟨rfl, rfl, trivial⟩ ⟨by omega, fun j hj => (by
            by_cases e : j = i
            · subst e
              unfold ndAt
              rcases Nat.eq_zero_or_pos j with e0 | e0
              · subst e0
                omega
              · have := last_s (xs := c.nd) e0
                omega
            · exact hall j (by omega)), h44⟩
        · have hls := hls hz
          refine WC.qreg (C := fun w_ => St W F _ w_) mixed (by kernel_rfl) (hL.drew) ?_
          refine WQ.val (fun w_ hC_ => Runs.fld fld24_5 rfl) rfl ?_
          refine WQ.val (fun w_ hC_ => Runs.load1 Try.underlying22 rfl rfl (hC_.ocell (i := 0) rfl rfl)) rfl ?_
          refine WQ.val (fun w_ hC_ => Runs.move rfl) rfl ?_
          refine WQ.val (fun w_ hC_ => Runs.lidxN Try.underlying22 inf3 rfl rfl (n := i) rfl (by omega)) rfl ?_
          refine WQ.val (fun w_ hC_ => Runs.loadR (f := Vi) (0 : Int) hC_ hrd (n := i) (by omega) Try.underlying3 rfl rfl) rfl ?_
          refine WQ.val (fun w_ hC_ => Runs.boolT (c := false) (Runs.lss rfl rfl) (by rw [decide_eq_false_iff_not]; omega)) rfl ?_
          refine WQ.val (fun w_ hC_ => Runs.move rfl) rfl ?_
          refine WQ.gon rfl rfl rfl ?_
          refine WQ.val (fun w_ hC_ => Runs.fld fld24_5 rfl) rfl ?_
          refine WQ.gon rfl rfl rfl ?_
          refine WQ.val (fun w_ hC_ => Runs.load1 Try.underlying22 rfl rfl (hC_.ocell (i := 0) rfl rfl)) rfl ?_
          refine WQ.gon rfl rfl rfl ?_
          refine WQ.val (fun w_ hC_ => Runs.move rfl) rfl ?_
          refine WQ.gon rfl rfl rfl ?_
          refine WQ.val (fun w_ hC_ => Runs.lidxN Try.underlying22 inf3 rfl rfl (n := i) rfl (by omega)) rfl ?_
          refine WQ.gon rfl rfl rfl ?_
          refine WQ.val (fun w_ hC_ => Runs.loadR (f := Vi) (0 : Int) hC_ hrd (n := i) (by omega) Try.underlying3 rfl rfl) rfl ?_
          refine WQ.gon rfl rfl rfl ?_
          refine WQ.val (fun w_ hC_ => Runs.boolT (c := false) (Runs.gtr rfl rfl) (by rw [decide_eq_false_iff_not]; omega)) rfl ?_
          refine WQ.val (fun w_ hC_ => Runs.pick rfl rfl rfl) rfl ?_
          refine WQ.val (fun w_ hC_ => Runs.move rfl) rfl ?_
          refine WQ.gon rfl rfl rfl ?_
          refine WQ.val (fun w_ hC_ => Runs.move rfl) rfl ?_
          refine WQ.gon rfl rfl rfl ?_
          refine WQ.val (fun w_ hC_ => Runs.boolT (c := true) (Runs.gtr rfl rfl) (by rw [decide_eq_true_eq]; omega)) rfl ?_
          refine WQ.gon rfl rfl rfl ?_
          refine WQ.val (fun w_ hC_ => Runs.move rfl) rfl ?_
          refine WQ.gon rfl rfl rfl ?_
          refine WQ.val (fun w_ hC_ => Runs.fld fld24_5 rfl) rfl ?_
          refine WQ.gon rfl rfl rfl ?_
          refine WQ.val (fun w_ hC_ => Runs.load1 Try.underlying22 rfl rfl (hC_.ocell (i := 0) rfl rfl)) rfl ?_
          refine WQ.gon rfl rfl rfl ?_
          refine WQ.val (fun w_ hC_ => Runs.move rfl) rfl ?_
          refine WQ.gon rfl rfl rfl ?_
          refine WQ.val (fun w_ hC_ => Runs.lidxN Try.underlying22 inf3 rfl rfl (n := i) rfl (by omega)) rfl ?_
          refine WQ.gon rfl rfl rfl ?_
          refine WQ.val (fun w_ hC_ => Runs.loadR (f := Vi) (0 : Int) hC_ hrd (n := i) (by omega) Try.underlying3 rfl rfl) rfl ?_
          refine WQ.gon rfl rfl rfl ?_
          refine WQ.val (fun w_ hC_ => Runs.fld fld24_5 rfl) rfl ?_
          refine WQ.gon rfl rfl rfl ?_
          refine WQ.val (fun w_ hC_ => Runs.load1 Try.underlying22 rfl rfl (hC_.ocell (i := 0) rfl rfl)) rfl ?_
          refine WQ.gon rfl rfl rfl ?_
          refine WQ.val (fun w_ hC_ => Runs.move rfl) rfl ?_
          refine WQ.gon rfl rfl rfl ?_
          refine WQ.val (fun w_ hC_ => Runs.subn rfl rfl (by omega)) rfl ?_
          refine WQ.gon rfl rfl rfl ?_
          refine WQ.val (fun w_ hC_ => Runs.lidxN Try.underlying22 inf3 rfl rfl (n := i - 1) (by omega) (by omega)) rfl ?_
          refine WQ.gon rfl rfl rfl ?_
          refine WQ.val (fun w_ hC_ => Runs.loadR (f := Vi) (0 : Int) hC_ hrd (n := i - 1) (by omega) Try.underlying3 rfl rfl) rfl ?_
          refine WQ.gon rfl rfl rfl ?_
          refine WQ.val (fun w_ hC_ => Runs.boolT (c := true) (Runs.leq rfl rfl) (by rw [decide_eq_true_eq]; omega)) rfl ?_
          refine WQ.gon rfl rfl rfl ?_
          refine WQ.val (fun w_ hC_ => Runs.pick rfl rfl rfl) rfl ?_
          refine WQ.val (fun w_ hC_ => Runs.pick rfl rfl rfl) rfl ?_
          refine WQ.fin ?_
          intro w45 h45
          refine WN.thn ?_
          refine WC.condT rfl (rfl) ?_
          refine WC.seq ?_
          refine WC.reg ?_
          refine WL.v (Runs.assign rfl) rfl ?_
          refine WL.nil ?_
          refine WN.thn ?_
          refine WC.ret ?_
          have hz : ¬ okC c := fun hh => by
            have g6 := hh.2.2.2.2.2.2.1 i hi2
            unfold ndAt at g6
            omega
          refine ret1 rfl rfl ⟨?_, h45.drop 0⟩
          rw [show checkM c = 1 from if_neg hz]
        · have hls := hls hz
          refine WC.qreg (C := fun w_ => St W F _ w_) mixed (by kernel_rfl) (hL.drew) ?_
          refine WQ.val (fun w_ hC_ => Runs.fld fld24_5 rfl) rfl ?_
          refine WQ.val (fun w_ hC_ => Runs.load1 Try.underlying22 rfl rfl (hC_.ocell (i := 0) rfl rfl)) rfl ?_
          refine WQ.val (fun w_ hC_ => Runs.move rfl) rfl ?_
          refine WQ.val (fun w_ hC_ => Runs.lidxN Try.underlying22 inf3 rfl rfl (n := i) rfl (by omega)) rfl ?_
          refine WQ.val (fun w_ hC_ => Runs.loadR (f := Vi) (0 : Int) hC_ hrd (n := i) (by omega) Try.underlying3 rfl rfl) rfl ?_
          refine WQ.val (fun w_ hC_ => Runs.boolT (c := false) (Runs.lss rfl rfl) (by rw [decide_eq_false_iff_not]; omega)) rfl ?_
          refine WQ.val (fun w_ hC_ => Runs.move rfl) rfl ?_
          refine WQ.gon rfl rfl rfl ?_
          refine WQ.val (fun w_ hC_ => Runs.fld fld24_5 rfl) rfl ?_
          refine WQ.gon rfl rfl rfl ?_
          refine WQ.val (fun w_ hC_ => Runs.load1 Try.underlying22 rfl rfl (hC_.ocell (i := 0) rfl rfl)) rfl ?_
          refine WQ.gon rfl rfl rfl ?_
          refine WQ.val (fun w_ hC_ => Runs.move rfl) rfl ?_
          refine WQ.gon rfl rfl rfl ?_
          refine WQ.val (fun w_ hC_ => Runs.lidxN Try.underlying22 inf3 rfl rfl (n := i) rfl (by omega)) rfl ?_
          refine WQ.gon rfl rfl rfl ?_
          refine WQ.val (fun w_ hC_ => Runs.loadR (f := Vi) (0 : Int) hC_ hrd (n := i) (by omega) Try.underlying3 rfl rfl) rfl ?_
          refine WQ.gon rfl rfl rfl ?_
          refine WQ.val (fun w_ hC_ => Runs.boolT (c := false) (Runs.gtr rfl rfl) (by rw [decide_eq_false_iff_not]; omega)) rfl ?_
          refine WQ.val (fun w_ hC_ => Runs.pick rfl rfl rfl) rfl ?_
          refine WQ.val (fun w_ hC_ => Runs.move rfl) rfl ?_
          refine WQ.gon rfl rfl rfl ?_
          refine WQ.val (fun w_ hC_ => Runs.move rfl) rfl ?_
          refine WQ.gon rfl rfl rfl ?_
          refine WQ.val (fun w_ hC_ => Runs.boolT (c := true) (Runs.gtr rfl rfl) (by rw [decide_eq_true_eq]; omega)) rfl ?_
          refine WQ.gon rfl rfl rfl ?_
          refine WQ.val (fun w_ hC_ => Runs.move rfl) rfl ?_
          refine WQ.gon rfl rfl rfl ?_
          refine WQ.val (fun w_ hC_ => Runs.fld fld24_5 rfl) rfl ?_
          refine WQ.gon rfl rfl rfl ?_
          refine WQ.val (fun w_ hC_ => Runs.load1 Try.underlying22 rfl rfl (hC_.ocell (i := 0) rfl rfl)) rfl ?_
          refine WQ.gon rfl rfl rfl ?_
          refine WQ.val (fun w_ hC_ => Runs.move rfl) rfl ?_
          refine WQ.gon rfl rfl rfl ?_
          refine WQ.val (fun w_ hC_ => Runs.lidxN Try.underlying22 inf3 rfl rfl (n := i) rfl (by omega)) rfl ?_
          refine WQ.gon rfl rfl rfl ?_
          refine WQ.val (fun w_ hC_ => Runs.loadR (f := Vi) (0 : Int) hC_ hrd (n := i) (by omega) Try.underlying3 rfl rfl) rfl ?_
          refine WQ.gon rfl rfl rfl ?_
          refine WQ.val (fun w_ hC_ => Runs.fld fld24_5 rfl) rfl ?_
          refine WQ.gon rfl rfl rfl ?_
          refine WQ.val (fun w_ hC_ => Runs.load1 Try.underlying22 rfl rfl (hC_.ocell (i := 0) rfl rfl)) rfl ?_
          refine WQ.gon rfl rfl rfl ?_
          refine WQ.val (fun w_ hC_ => Runs.move rfl) rfl ?_
          refine WQ.gon rfl rfl rfl ?_
          refine WQ.val (fun w_ hC_ => Runs.subn rfl rfl (by omega)) rfl ?_
          refine WQ.gon rfl rfl rfl ?_
          refine WQ.val (fun w_ hC_ => Runs.lidxN Try.underlying22 inf3 rfl rfl (n := i - 1) (by omega) (by omega)) rfl ?_
          refine WQ.gon rfl rfl rfl ?_
          refine WQ.val (fun w_ hC_ => Runs.loadR (f := Vi) (0 : Int) hC_ hrd (n := i - 1) (by omega) Try.underlying3 rfl rfl) rfl ?_
          refine WQ.gon rfl rfl rfl ?_
          refine WQ.val (fun w_ hC_ => Runs.boolT (c := false) (Runs.leq rfl rfl) (by rw [decide_eq_false_iff_not]; omega)) rfl ?_
          refine WQ.gon rfl rfl rfl ?_
          refine WQ.val (fun w_ hC_ => Runs.pick rfl rfl rfl) rfl ?_
          refine WQ.val (fun w_ hC_ => Runs.pick rfl rfl rfl) rfl ?_
          refine WQ.fin ?_
          intro w46 h46
          refine WN.thn ?_
          refine WC.condF rfl (rfl) ?_
          refine WC.skip ?_
          refine WN.blk ?_
          refine WN.thn ?_
          refine WC.reg ?_
          refine WL.v (Runs.move rfl) rfl ?_
          refine WL.v (Runs.addn rfl rfl (by omega)) rfl ?_
          refine WL.v (Runs.assign rfl) rfl ?_
          refine WL.nil ?_
          exact WN.again (i + 1) (by omega) ⟨rfl, rfl, trivial⟩ ⟨by omega, fun j hj => (by
            by_cases e : j = i
            · subst e
              unfold ndAt
              rcases Nat.eq_zero_or_pos j with e0 | e0
              · subst e0
                omega
              · have := last_s (xs := c.nd) e0
                omega
            · exact hall j (by omega)), h46⟩
    · try simp only [decide_eq_true_eq, decide_eq_false_iff_not, Bool.not_eq_true', Bool.not_eq_false', Bool.and_eq_true, Int.not_lt, Int.not_le] at c41
      first
      | (exfalso; omega)
      | skip
        refine WC.exit ?_
        refine WX.thn ?_
        refine WX.cut ?_
        refine WX.hit ?_
        refine WN.thn ?_
        refine WC.seq ?_
        refine WC.reg ?_
        refine WL.v (Runs.assign rfl) rfl ?_
        refine WL.nil ?_
        refine WN.thn ?_
        refine WC.ret ?_
        have hz : okC c := ⟨Decidable.of_not_not q0, Decidable.of_not_not q1, Decidable.of_not_not q2, Decidable.of_not_not q3, ⟨by omega, by omega⟩, ⟨by omega, by omega⟩, fun j hj => hall j (by omega), by omega⟩
        refine ret1 rfl rfl ⟨?_, hL.drop 0⟩
        rw [show checkM c = 0 from if_pos hz]
end Cr
end Go.Proofs.Ytbkfjedecepfoaa
