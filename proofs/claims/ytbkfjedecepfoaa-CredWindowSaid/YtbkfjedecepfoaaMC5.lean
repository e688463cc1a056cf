/- A credential out of bytes, as the reference reads it. -/
import Derived.Test.YtbkfjedecepfoaaMC4
import Derived.Test.YtbkfjedecepfoaaMW20
namespace Go.Proofs.Ytbkfjedecepfoaa
open Go Go.RowKit B
set_option linter.unusedVariables false
set_option linter.unusedSimpArgs false
namespace Cr
open Wir (Vi mayN numB listB rdN rdL rdEnd)

theorem inf22 : Inf Try.prog 22 (.slice none 0 0) 1 24 := by unfold Inf; kernel_rfl
theorem can28 : B.Can Try.prog 28 := ⟨_, Try.func28, by kernel_rfl, rfl⟩   -- (*roundhouse/roundhouseref02.Reader).Num
theorem can29 : B.Can Try.prog 29 := ⟨_, Try.func29, by kernel_rfl, rfl⟩   -- (*roundhouse/roundhouseref02.Reader).List
theorem can30 : B.Can Try.prog 30 := ⟨_, Try.func30, by kernel_rfl, rfl⟩   -- (*roundhouse/roundhouseref02.Reader).End
set_option maxRecDepth 100000 in
set_option maxHeartbeats 8000000 in
theorem qdecode_c {W : World} {F : Snap} {cs : List Res} (w : World) (l : List UInt8) (h : St W F cs w) (hl : l.length ≤ 100000) : Calls Try.prog 11 #[.string (bs l)] w fun r w' => ∃ G A cap, Le F G ∧ r = .returned (.tuple #[(decM l).1.val A cap, Vi (decM l).2]) ∧ RdS (Kd.one Vi) G A (decM l).1.nd ∧ St W G cs w'  := by
  refine enter (P := Try.prog) (args := [.string (bs l)]) Try.func11 rfl rfl rfl ?_
  refine WC.seq ?_
  refine WC.reg ?_
  refine WL.alloc' rfl h inf24 ?_
  intro b2 w1 h1
  refine WL.v (Runs.assign rfl) rfl ?_
  refine WL.nil ?_
  refine WN.thn ?_
  refine WC.seq ?_
  refine WC.reg ?_
  refine WL.v (Runs.move rfl) rfl ?_
  refine WL.v (Runs.build (vs := [(0, .string (bs l))]) (cells := #[.string (bs l), Vi ((0 : Nat) : Int), Vi 0]) rfl (by kernel_rfl)) rfl ?_
  refine WL.box rfl h1 rfl ?_
  intro b10 w2 h2
  refine WL.v (Runs.assign rfl) rfl ?_
  refine WL.nil ?_
  refine WN.thn ?_
  refine WC.seq ?_
  refine WC.reg ?_
  refine WL.v (Runs.build (vs := []) (cells := #[Vi 0, Vi 0, Vi 0, Vi 0, Vi 0, .slice none 0 0, Vi 0]) rfl (by kernel_rfl)) rfl ?_
  refine WL.alloc' rfl h2 inf24 ?_
  intro b5 w3 h3
  refine WL.storeAll h3 0 rfl rfl rfl inf24 rfl rfl rfl (Free.zero _) ?_
  intro  w4 h4
  try simp only [List.set_cons_zero, List.set_cons_succ, List.eraseIdx_cons_zero, List.eraseIdx_cons_succ] at h4
  refine WL.nil ?_
  refine WN.thn ?_
  refine WC.seq ?_
  refine WC.reg ?_
  refine WL.v (Runs.move rfl) rfl ?_
  refine WL.call can28 rfl rfl (Wir.qnum_c _ (p := 0) (e := 0) (i := 1) h4 rfl hl (Nat.zero_le _)) ?_
  rintro _ w5 ⟨rfl, h5⟩
  refine ⟨_, rfl, ?_⟩
  replace h5 : St W F ([(b5, .cells #[Vi 0, Vi 0, Vi 0, Vi 0, Vi 0, .slice none 0 0, Vi 0] 24 (0, 0))] :: [(b10, .cells #[.string (bs l), Vi (((D0 l).2.1 : Nat)), Vi ((D0 l).2.2)] 55 (0, 0))] :: [(b2, .cells #[Vi 0, Vi 0, Vi 0, Vi 0, Vi 0, .slice none 0 0, Vi 0] 24 (0, 0))] :: cs) w5 := h5
  have hp0 : (D0 l).2.1 ≤ l.length := Wir.rdN_le _ (Nat.zero_le _)
  refine WL.v (Runs.fld fld24_0 rfl) rfl ?_
  refine WL.store' h5 0 rfl rfl rfl inf3 rfl rfl (Free.zero _) (Nat.le_of_ble_eq_true rfl) ?_
  intro  w6 h6
  try simp only [List.set_cons_zero, List.set_cons_succ, List.eraseIdx_cons_zero, List.eraseIdx_cons_succ] at h6
  replace h6 : St W F ([(b5, .cells #[Vi ((D0 l).1 : Nat), Vi 0, Vi 0, Vi 0, Vi 0, .slice none 0 0, Vi 0] 24 (0, 0))] :: [(b10, .cells #[.string (bs l), Vi (((D0 l).2.1 : Nat)), Vi ((D0 l).2.2)] 55 (0, 0))] :: [(b2, .cells #[Vi 0, Vi 0, Vi 0, Vi 0, Vi 0, .slice none 0 0, Vi 0] 24 (0, 0))] :: cs) w6 := h6
  refine WL.nil ?_
  refine WN.thn ?_
  refine WC.seq ?_
  refine WC.reg ?_
  refine WL.v (Runs.move rfl) rfl ?_
  refine WL.call can28 rfl rfl (Wir.qnum_c _ (p := (D0 l).2.1) (e := (D0 l).2.2) (i := 1) h6 rfl hl hp0) ?_
  rintro _ w7 ⟨rfl, h7⟩
  refine ⟨_, rfl, ?_⟩
  replace h7 : St W F ([(b5, .cells #[Vi ((D0 l).1 : Nat), Vi 0, Vi 0, Vi 0, Vi 0, .slice none 0 0, Vi 0] 24 (0, 0))] :: [(b10, .cells #[.string (bs l), Vi (((D1 l).2.1 : Nat)), Vi ((D1 l).2.2)] 55 (0, 0))] :: [(b2, .cells #[Vi 0, Vi 0, Vi 0, Vi 0, Vi 0, .slice none 0 0, Vi 0] 24 (0, 0))] :: cs) w7 := h7
  have hp1 : (D1 l).2.1 ≤ l.length := Wir.rdN_le _ hp0
  refine WL.v (Runs.fld fld24_1 rfl) rfl ?_
  refine WL.store' h7 0 rfl rfl rfl inf3 rfl rfl (Free.zero _) (Nat.le_of_ble_eq_true rfl) ?_
  intro  w8 h8
  try simp only [List.set_cons_zero, List.set_cons_succ, List.eraseIdx_cons_zero, List.eraseIdx_cons_succ] at h8
  replace h8 : St W F ([(b5, .cells #[Vi ((D0 l).1 : Nat), Vi ((D1 l).1 : Nat), Vi 0, Vi 0, Vi 0, .slice none 0 0, Vi 0] 24 (0, 0))] :: [(b10, .cells #[.string (bs l), Vi (((D1 l).2.1 : Nat)), Vi ((D1 l).2.2)] 55 (0, 0))] :: [(b2, .cells #[Vi 0, Vi 0, Vi 0, Vi 0, Vi 0, .slice none 0 0, Vi 0] 24 (0, 0))] :: cs) w8 := h8
  refine WL.nil ?_
  refine WN.thn ?_
  refine WC.seq ?_
  refine WC.reg ?_
  refine WL.v (Runs.move rfl) rfl ?_
  refine WL.call can28 rfl rfl (Wir.qnum_c _ (p := (D1 l).2.1) (e := (D1 l).2.2) (i := 1) h8 rfl hl hp1) ?_
  rintro _ w9 ⟨rfl, h9⟩
  refine ⟨_, rfl, ?_⟩
  replace h9 : St W F ([(b5, .cells #[Vi ((D0 l).1 : Nat), Vi ((D1 l).1 : Nat), Vi 0, Vi 0, Vi 0, .slice none 0 0, Vi 0] 24 (0, 0))] :: [(b10, .cells #[.string (bs l), Vi (((D2 l).2.1 : Nat)), Vi ((D2 l).2.2)] 55 (0, 0))] :: [(b2, .cells #[Vi 0, Vi 0, Vi 0, Vi 0, Vi 0, .slice none 0 0, Vi 0] 24 (0, 0))] :: cs) w9 := h9
  have hp2 : (D2 l).2.1 ≤ l.length := Wir.rdN_le _ hp1
  refine WL.v (Runs.fld fld24_2 rfl) rfl ?_
  refine WL.store' h9 0 rfl rfl rfl inf3 rfl rfl (Free.zero _) (Nat.le_of_ble_eq_true rfl) ?_
  intro  w10 h10
  try simp only [List.set_cons_zero, List.set_cons_succ, List.eraseIdx_cons_zero, List.eraseIdx_cons_succ] at h10
  replace h10 : St W F ([(b5, .cells #[Vi ((D0 l).1 : Nat), Vi ((D1 l).1 : Nat), Vi ((D2 l).1 : Nat), Vi 0, Vi 0, .slice none 0 0, Vi 0] 24 (0, 0))] :: [(b10, .cells #[.string (bs l), Vi (((D2 l).2.1 : Nat)), Vi ((D2 l).2.2)] 55 (0, 0))] :: [(b2, .cells #[Vi 0, Vi 0, Vi 0, Vi 0, Vi 0, .slice none 0 0, Vi 0] 24 (0, 0))] :: cs) w10 := h10
  refine WL.nil ?_
  refine WN.thn ?_
  refine WC.seq ?_
  refine WC.reg ?_
  refine WL.v (Runs.move rfl) rfl ?_
  refine WL.call can28 rfl rfl (Wir.qnum_c _ (p := (D2 l).2.1) (e := (D2 l).2.2) (i := 1) h10 rfl hl hp2) ?_
  rintro _ w11 ⟨rfl, h11⟩
  refine ⟨_, rfl, ?_⟩
  replace h11 : St W F ([(b5, .cells #[Vi ((D0 l).1 : Nat), Vi ((D1 l).1 : Nat), Vi ((D2 l).1 : Nat), Vi 0, Vi 0, .slice none 0 0, Vi 0] 24 (0, 0))] :: [(b10, .cells #[.string (bs l), Vi (((D3 l).2.1 : Nat)), Vi ((D3 l).2.2)] 55 (0, 0))] :: [(b2, .cells #[Vi 0, Vi 0, Vi 0, Vi 0, Vi 0, .slice none 0 0, Vi 0] 24 (0, 0))] :: cs) w11 := h11
  have hp3 : (D3 l).2.1 ≤ l.length := Wir.rdN_le _ hp2
  refine WL.v (Runs.fld fld24_3 rfl) rfl ?_
  refine WL.store' h11 0 rfl rfl rfl inf3 rfl rfl (Free.zero _) (Nat.le_of_ble_eq_true rfl) ?_
  intro  w12 h12
  try simp only [List.set_cons_zero, List.set_cons_succ, List.eraseIdx_cons_zero, List.eraseIdx_cons_succ] at h12
  replace h12 : St W F ([(b5, .cells #[Vi ((D0 l).1 : Nat), Vi ((D1 l).1 : Nat), Vi ((D2 l).1 : Nat), Vi ((D3 l).1 : Nat), Vi 0, .slice none 0 0, Vi 0] 24 (0, 0))] :: [(b10, .cells #[.string (bs l), Vi (((D3 l).2.1 : Nat)), Vi ((D3 l).2.2)] 55 (0, 0))] :: [(b2, .cells #[Vi 0, Vi 0, Vi 0, Vi 0, Vi 0, .slice none 0 0, Vi 0] 24 (0, 0))] :: cs) w12 := h12
  refine WL.nil ?_
  refine WN.thn ?_
  refine WC.seq ?_
  refine WC.reg ?_
  refine WL.v (Runs.move rfl) rfl ?_
  refine WL.call can28 rfl rfl (Wir.qnum_c _ (p := (D3 l).2.1) (e := (D3 l).2.2) (i := 1) h12 rfl hl hp3) ?_
  rintro _ w13 ⟨rfl, h13⟩
  refine ⟨_, rfl, ?_⟩
  replace h13 : St W F ([(b5, .cells #[Vi ((D0 l).1 : Nat), Vi ((D1 l).1 : Nat), Vi ((D2 l).1 : Nat), Vi ((D3 l).1 : Nat), Vi 0, .slice none 0 0, Vi 0] 24 (0, 0))] :: [(b10, .cells #[.string (bs l), Vi (((D4 l).2.1 : Nat)), Vi ((D4 l).2.2)] 55 (0, 0))] :: [(b2, .cells #[Vi 0, Vi 0, Vi 0, Vi 0, Vi 0, .slice none 0 0, Vi 0] 24 (0, 0))] :: cs) w13 := h13
  have hp4 : (D4 l).2.1 ≤ l.length := Wir.rdN_le _ hp3
  refine WL.v (Runs.fld fld24_4 rfl) rfl ?_
  refine WL.store' h13 0 rfl rfl rfl inf3 rfl rfl (Free.zero _) (Nat.le_of_ble_eq_true rfl) ?_
  intro  w14 h14
  try simp only [List.set_cons_zero, List.set_cons_succ, List.eraseIdx_cons_zero, List.eraseIdx_cons_succ] at h14
  replace h14 : St W F ([(b5, .cells #[Vi ((D0 l).1 : Nat), Vi ((D1 l).1 : Nat), Vi ((D2 l).1 : Nat), Vi ((D3 l).1 : Nat), Vi ((D4 l).1 : Nat), .slice none 0 0, Vi 0] 24 (0, 0))] :: [(b10, .cells #[.string (bs l), Vi (((D4 l).2.1 : Nat)), Vi ((D4 l).2.2)] 55 (0, 0))] :: [(b2, .cells #[Vi 0, Vi 0, Vi 0, Vi 0, Vi 0, .slice none 0 0, Vi 0] 24 (0, 0))] :: cs) w14 := h14
  refine WL.nil ?_
  refine WN.thn ?_
  refine WC.seq ?_
  refine WC.reg ?_
  refine WL.v (Runs.move rfl) rfl ?_
  refine WL.call can28 rfl rfl (Wir.qnum_c _ (p := (D4 l).2.1) (e := (D4 l).2.2) (i := 1) h14 rfl hl hp4) ?_
  rintro _ w15 ⟨rfl, h15⟩
  refine ⟨_, rfl, ?_⟩
  replace h15 : St W F ([(b5, .cells #[Vi ((D0 l).1 : Nat), Vi ((D1 l).1 : Nat), Vi ((D2 l).1 : Nat), Vi ((D3 l).1 : Nat), Vi ((D4 l).1 : Nat), .slice none 0 0, Vi 0] 24 (0, 0))] :: [(b10, .cells #[.string (bs l), Vi (((D5 l).2.1 : Nat)), Vi ((D5 l).2.2)] 55 (0, 0))] :: [(b2, .cells #[Vi 0, Vi 0, Vi 0, Vi 0, Vi 0, .slice none 0 0, Vi 0] 24 (0, 0))] :: cs) w15 := h15
  have hp5 : (D5 l).2.1 ≤ l.length := Wir.rdN_le _ hp4
  refine WL.v (Runs.fld fld24_6 rfl) rfl ?_
  refine WL.store' h15 0 rfl rfl rfl inf3 rfl rfl (Free.zero _) (Nat.le_of_ble_eq_true rfl) ?_
  intro  w16 h16
  try simp only [List.set_cons_zero, List.set_cons_succ, List.eraseIdx_cons_zero, List.eraseIdx_cons_succ] at h16
  replace h16 : St W F ([(b5, .cells #[Vi ((D0 l).1 : Nat), Vi ((D1 l).1 : Nat), Vi ((D2 l).1 : Nat), Vi ((D3 l).1 : Nat), Vi ((D4 l).1 : Nat), .slice none 0 0, Vi ((D5 l).1 : Nat)] 24 (0, 0))] :: [(b10, .cells #[.string (bs l), Vi (((D5 l).2.1 : Nat)), Vi ((D5 l).2.2)] 55 (0, 0))] :: [(b2, .cells #[Vi 0, Vi 0, Vi 0, Vi 0, Vi 0, .slice none 0 0, Vi 0] 24 (0, 0))] :: cs) w16 := h16
  refine WL.nil ?_
  refine WN.thn ?_
  refine WC.seq ?_
  refine WC.reg ?_
  refine WL.v (Runs.move rfl) rfl ?_
  refine WL.call can29 rfl rfl (Wir.ql_c _ (p := (D5 l).2.1) (e := (D5 l).2.2) (most := 16) (i := 1) h16 rfl hl hp5) ?_
  rintro _ w17 ⟨G, A1, cap1, hG, rfl, hc1, hR1, h17⟩
  refine ⟨_, rfl, ?_⟩
  replace h17 : St W G ([(b5, .cells #[Vi ((D0 l).1 : Nat), Vi ((D1 l).1 : Nat), Vi ((D2 l).1 : Nat), Vi ((D3 l).1 : Nat), Vi ((D4 l).1 : Nat), .slice none 0 0, Vi ((D5 l).1 : Nat)] 24 (0, 0))] :: [(b10, .cells #[.string (bs l), Vi (((DL l).2.1 : Nat)), Vi ((DL l).2.2)] 55 (0, 0))] :: [(b2, .cells #[Vi 0, Vi 0, Vi 0, Vi 0, Vi 0, .slice none 0 0, Vi 0] 24 (0, 0))] :: cs) w17 := h17
  refine WL.v (Runs.fld fld24_5 rfl) rfl ?_
  refine WL.store' h17 0 rfl rfl rfl inf22 rfl rfl (Free.zero _) (Nat.le_of_ble_eq_true rfl) ?_
  intro  w18 h18
  try simp only [List.set_cons_zero, List.set_cons_succ, List.eraseIdx_cons_zero, List.eraseIdx_cons_succ] at h18
  replace h18 : St W G ([(b5, .cells #[Vi ((D0 l).1 : Nat), Vi ((D1 l).1 : Nat), Vi ((D2 l).1 : Nat), Vi ((D3 l).1 : Nat), Vi ((D4 l).1 : Nat), .slice A1 (DL l).1.length cap1, Vi ((D5 l).1 : Nat)] 24 (0, 0))] :: [(b10, .cells #[.string (bs l), Vi (((DL l).2.1 : Nat)), Vi ((DL l).2.2)] 55 (0, 0))] :: [(b2, .cells #[Vi 0, Vi 0, Vi 0, Vi 0, Vi 0, .slice none 0 0, Vi 0] 24 (0, 0))] :: cs) w18 := h18
  refine WL.nil ?_
  refine WN.thn ?_
  refine WC.seq ?_
  refine WC.reg ?_
  refine WL.v (Runs.move rfl) rfl ?_
  refine WL.call can30 rfl rfl (Wir.qend_c _ (p := (DL l).2.1) (e := (DL l).2.2) h18 (i := 1) rfl) ?_
  rintro _ w19 ⟨rfl, h19⟩
  refine ⟨_, rfl, ?_⟩
  refine WL.v (Runs.move rfl) rfl ?_
  refine WL.v (Runs.extract rfl rfl) rfl ?_
  refine WL.v (Runs.extract rfl rfl) rfl ?_
  refine WL.v (Runs.assign rfl) rfl ?_
  refine WL.v (Runs.assign rfl) rfl ?_
  refine WL.nil ?_
  refine WN.thn ?_
  refine WC.seq ?_
  refine WC.seq ?_
  refine WC.reg ?_
  refine WL.v (Runs.move rfl) rfl ?_
  refine WL.v (Runs.boolT (c := decide (decE l ≠ 0)) (Runs.neq rfl rfl) (by show (!decide (decE l = 0)) = _; simp)) rfl ?_
  refine WL.nil ?_
  refine WN.thn ?_
  refine WC.cond rfl (fun c20 => ?_) (fun c20 => ?_)
  · try simp only [decide_eq_true_eq, decide_eq_false_iff_not, Bool.not_eq_true', Bool.not_eq_false', Bool.and_eq_true, Int.not_lt, Int.not_le] at c20
    first
    | (exfalso; omega)
    | skip
      refine WC.seq ?_
      refine WC.reg ?_
      refine WL.v (Runs.build (vs := []) (cells := #[Vi 0, Vi 0, Vi 0, Vi 0, Vi 0, .slice none 0 0, Vi 0]) rfl (by kernel_rfl)) rfl ?_
      refine WL.v (Runs.move rfl) rfl ?_
      refine WL.storeAll h19 2 rfl rfl rfl inf24 rfl rfl rfl (Free.zero _) ?_
      intro  w21 h21
      try simp only [List.set_cons_zero, List.set_cons_succ, List.eraseIdx_cons_zero, List.eraseIdx_cons_succ] at h21
      refine WL.v (Runs.assign rfl) rfl ?_
      refine WL.nil ?_
      refine WN.thn ?_
      refine WC.ret ?_
      have e9 : decM l = (C0, decE l) := if_pos c20
      exact retB rfl (v := .agg #[Vi 0, Vi 0, Vi 0, Vi 0, Vi 0, .slice none 0 0, Vi 0]) ⟨_, rfl, run_loadVarA (vs := [Vi 0, Vi 0, Vi 0, Vi 0, Vi 0, .slice none 0 0, Vi 0]) Try.underlying24 rfl inf24 rfl (fun j v hv => by rw [add_mk, Nat.zero_add]; exact h21.ocell (i := 2) rfl (by simpa using hv))⟩ (show lk _ _ = _ from rfl) ⟨G, none, 0, hG, by rw [e9]; rfl, by rw [e9]; exact .inl rfl, (((h21.drop 0).drop 0).drop 0)⟩
  · try simp only [decide_eq_true_eq, decide_eq_false_iff_not, Bool.not_eq_true', Bool.not_eq_false', Bool.and_eq_true, Int.not_lt, Int.not_le] at c20
    first
    | (exfalso; omega)
    | skip
      refine WC.skip ?_
      refine WN.thn ?_
      refine WC.seq ?_
      refine WC.seq ?_
      have hbd : (decV l).nd.length ≤ 9223372036854775807 := by have h9_ : (DL l).1.length ≤ l.length := Wir.rdL_len hp5; show (DL l).1.length ≤ _; omega
      refine WC.reg ?_
      refine WL.v (Runs.loadAll h19 0 rfl Try.underlying24 rfl inf24 rfl rfl) rfl ?_
      refine WL.call can13 rfl rfl (qcheck_c (c := decV l) (A := A1) (cap := cap1) _ h19 hR1 hbd) ?_
      rintro _ w22 ⟨rfl, h22⟩
      refine ⟨_, rfl, ?_⟩
      refine WL.v (Runs.neq rfl rfl) rfl ?_
      refine WL.nil ?_
      refine WN.thn ?_
      refine WC.cond rfl (fun c23 => ?_) (fun c23 => ?_)
      · try simp only [decide_eq_true_eq, decide_eq_false_iff_not, Bool.not_eq_true', Bool.not_eq_false', Bool.and_eq_true, Int.not_lt, Int.not_le] at c23
        first
        | (exfalso; omega)
        | skip
          refine WC.seq ?_
          refine WC.reg ?_
          refine WL.v (Runs.build (vs := []) (cells := #[Vi 0, Vi 0, Vi 0, Vi 0, Vi 0, .slice none 0 0, Vi 0]) rfl (by kernel_rfl)) rfl ?_
          refine WL.storeAll h22 2 rfl rfl rfl inf24 rfl rfl rfl (Free.zero _) ?_
          intro  w24 h24
          try simp only [List.set_cons_zero, List.set_cons_succ, List.eraseIdx_cons_zero, List.eraseIdx_cons_succ] at h24
          refine WL.v (Runs.assign rfl) rfl ?_
          refine WL.nil ?_
          refine WN.thn ?_
          refine WC.ret ?_
          have e9 : decM l = (C0, 5) := decM_n (by simpa using c20) (fun hh => c23 (chk_0.2 hh))
          exact retB rfl (v := .agg #[Vi 0, Vi 0, Vi 0, Vi 0, Vi 0, .slice none 0 0, Vi 0]) ⟨_, rfl, run_loadVarA (vs := [Vi 0, Vi 0, Vi 0, Vi 0, Vi 0, .slice none 0 0, Vi 0]) Try.underlying24 rfl inf24 rfl (fun j v hv => by rw [add_mk, Nat.zero_add]; exact h24.ocell (i := 2) rfl (by simpa using hv))⟩ (show lk _ _ = _ from rfl) ⟨G, none, 0, hG, by rw [e9]; rfl, by rw [e9]; exact .inl rfl, (((h24.drop 0).drop 0).drop 0)⟩
      · try simp only [decide_eq_true_eq, decide_eq_false_iff_not, Bool.not_eq_true', Bool.not_eq_false', Bool.and_eq_true, Int.not_lt, Int.not_le] at c23
        first
        | (exfalso; omega)
        | skip
          refine WC.skip ?_
          refine WN.thn ?_
          refine WC.seq ?_
          refine WC.reg ?_
          refine WL.v (Runs.loadAll h22 0 rfl Try.underlying24 rfl inf24 rfl rfl) rfl ?_
          refine WL.storeAll h22 2 rfl rfl rfl inf24 rfl rfl rfl (Free.zero _) ?_
          intro  w25 h25
          try simp only [List.set_cons_zero, List.set_cons_succ, List.eraseIdx_cons_zero, List.eraseIdx_cons_succ] at h25
          refine WL.v (Runs.assign rfl) rfl ?_
          refine WL.nil ?_
          refine WN.thn ?_
          refine WC.ret ?_
          have e9 : decM l = (decV l, 0) := decM_y (by simpa using c20) (chk_0.1 (by simpa using c23))
          exact retB rfl (v := .agg #[Vi ((D0 l).1 : Nat), Vi ((D1 l).1 : Nat), Vi ((D2 l).1 : Nat), Vi ((D3 l).1 : Nat), Vi ((D4 l).1 : Nat), .slice A1 (DL l).1.length cap1, Vi ((D5 l).1 : Nat)]) ⟨_, rfl, run_loadVarA (vs := [Vi ((D0 l).1 : Nat), Vi ((D1 l).1 : Nat), Vi ((D2 l).1 : Nat), Vi ((D3 l).1 : Nat), Vi ((D4 l).1 : Nat), .slice A1 (DL l).1.length cap1, Vi ((D5 l).1 : Nat)]) Try.underlying24 rfl inf24 rfl (fun j v hv => by rw [add_mk, Nat.zero_add]; exact h25.ocell (i := 2) rfl (by simpa using hv))⟩ (show lk _ _ = _ from rfl) ⟨G, A1, cap1, hG, by rw [e9]; rfl, by rw [e9]; exact hR1, (((h25.drop 0).drop 0).drop 0)⟩
end Cr
end Go.Proofs.Ytbkfjedecepfoaa
