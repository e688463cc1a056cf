/- A credential out of bytes. -/
import Derived.Test.YtbkfjedecepfoaaMC3
import Derived.Test.YtbkfjedecepfoaaMW20
namespace Go.Proofs.Ytbkfjedecepfoaa
open Go Go.RowKit B
set_option linter.unusedVariables false
set_option linter.unusedSimpArgs false
namespace Cr
open Wir (Vi mayN numB listB rdN rdL rdEnd)

theorem can24 : B.Can Try.prog 24 := ⟨_, Try.func24, by kernel_rfl, rfl⟩   -- roundhouse/wire.Read
theorem can25 : B.Can Try.prog 25 := ⟨_, Try.func25, by kernel_rfl, rfl⟩   -- (*roundhouse/wire.Reader).Num
theorem can26 : B.Can Try.prog 26 := ⟨_, Try.func26, by kernel_rfl, rfl⟩   -- (*roundhouse/wire.Reader).List
theorem can27 : B.Can Try.prog 27 := ⟨_, Try.func27, by kernel_rfl, rfl⟩   -- (*roundhouse/wire.Reader).End
def C.val (c : C) (A : Option Addr) (cap : Nat) : Value := .agg #[Vi c.jb, Vi c.ep, Vi c.st, Vi c.fr, Vi c.un, .slice A c.nd.length cap, Vi c.co]
def C0 : C := ⟨0, 0, 0, 0, 0, [], 0⟩
def D0 (l : List UInt8) : Nat × Nat × Int := rdN l 0 0
def D1 (l : List UInt8) : Nat × Nat × Int := rdN l (D0 l).2.1 (D0 l).2.2
def D2 (l : List UInt8) : Nat × Nat × Int := rdN l (D1 l).2.1 (D1 l).2.2
def D3 (l : List UInt8) : Nat × Nat × Int := rdN l (D2 l).2.1 (D2 l).2.2
def D4 (l : List UInt8) : Nat × Nat × Int := rdN l (D3 l).2.1 (D3 l).2.2
def D5 (l : List UInt8) : Nat × Nat × Int := rdN l (D4 l).2.1 (D4 l).2.2
def DL (l : List UInt8) : List Int × Nat × Int := rdL l (D5 l).2.1 (D5 l).2.2 16
def decV (l : List UInt8) : C := ⟨(D0 l).1, (D1 l).1, (D2 l).1, (D3 l).1, (D4 l).1, (DL l).1, (D5 l).1⟩
def decE (l : List UInt8) : Int := (rdEnd l (DL l).2.1 (DL l).2.2).1
def decM (l : List UInt8) : C × Int := if decE l ≠ 0 then (C0, decE l) else if okC (decV l) then (decV l, 0) else (C0, 5)
theorem decM_n {l : List UInt8} (h : decE l = 0) (h2 : ¬ okC (decV l)) : decM l = (C0, 5) := by
  unfold decM
  rw [if_neg (fun hh => hh h), if_neg h2]
theorem decM_y {l : List UInt8} (h : decE l = 0) (h2 : okC (decV l)) : decM l = (decV l, 0) := by
  unfold decM
  rw [if_neg (fun hh => hh h), if_pos h2]
set_option maxRecDepth 100000 in
set_option maxHeartbeats 8000000 in
theorem decode_c {W : World} {F : Snap} {cs : List Res} (w : World) (l : List UInt8) (h : St W F cs w) (hl : l.length ≤ 100000) : Calls Try.prog 10 #[.string (bs l)] w fun r w' => ∃ G A cap, Le F G ∧ r = .returned (.tuple #[(decM l).1.val A cap, Vi (decM l).2]) ∧ RdS (Kd.one Vi) G A (decM l).1.nd ∧ St W G cs w'  := by
  refine enter (P := Try.prog) (args := [.string (bs l)]) Try.func10 rfl rfl rfl ?_
  refine WC.seq ?_
  refine WC.reg ?_
  refine WL.alloc' rfl h inf24 ?_
  intro b2 w1 h1
  refine WL.v (Runs.assign rfl) rfl ?_
  refine WL.nil ?_
  refine WN.thn ?_
  refine WC.seq ?_
  refine WC.reg ?_
  refine WL.v (Runs.move rfl) rfl ?_
  refine WL.call can24 rfl rfl (Wir.read_c _ l h1) ?_
  rintro _ w2 ⟨rb, rfl, h2⟩
  refine ⟨_, rfl, ?_⟩
  refine WL.v (Runs.assign rfl) rfl ?_
  refine WL.nil ?_
  refine WN.thn ?_
  refine WC.seq ?_
  refine WC.reg ?_
  refine WL.v (Runs.move rfl) rfl ?_
  refine WL.call can25 rfl rfl (Wir.wn_c _ (p := 0) (e := 0) (i := 0) h2 rfl hl (Nat.zero_le _)) ?_
  rintro _ w3 ⟨rfl, h3⟩
  refine ⟨_, rfl, ?_⟩
  replace h3 : St W F ([(rb, .cells #[.string (bs l), Vi (((D0 l).2.1 : Nat)), Vi ((D0 l).2.2)] 70 (0, 0))] :: [(b2, .cells #[Vi 0, Vi 0, Vi 0, Vi 0, Vi 0, .slice none 0 0, Vi 0] 24 (0, 0))] :: cs) w3 := h3
  have hp0 : (D0 l).2.1 ≤ l.length := Wir.rdN_le _ (Nat.zero_le _)
  refine WL.v (Runs.move rfl) rfl ?_
  refine WL.call can25 rfl rfl (Wir.wn_c _ (p := (D0 l).2.1) (e := (D0 l).2.2) (i := 0) h3 rfl hl hp0) ?_
  rintro _ w4 ⟨rfl, h4⟩
  refine ⟨_, rfl, ?_⟩
  replace h4 : St W F ([(rb, .cells #[.string (bs l), Vi (((D1 l).2.1 : Nat)), Vi ((D1 l).2.2)] 70 (0, 0))] :: [(b2, .cells #[Vi 0, Vi 0, Vi 0, Vi 0, Vi 0, .slice none 0 0, Vi 0] 24 (0, 0))] :: cs) w4 := h4
  have hp1 : (D1 l).2.1 ≤ l.length := Wir.rdN_le _ hp0
  refine WL.v (Runs.move rfl) rfl ?_
  refine WL.call can25 rfl rfl (Wir.wn_c _ (p := (D1 l).2.1) (e := (D1 l).2.2) (i := 0) h4 rfl hl hp1) ?_
  rintro _ w5 ⟨rfl, h5⟩
  refine ⟨_, rfl, ?_⟩
  replace h5 : St W F ([(rb, .cells #[.string (bs l), Vi (((D2 l).2.1 : Nat)), Vi ((D2 l).2.2)] 70 (0, 0))] :: [(b2, .cells #[Vi 0, Vi 0, Vi 0, Vi 0, Vi 0, .slice none 0 0, Vi 0] 24 (0, 0))] :: cs) w5 := h5
  have hp2 : (D2 l).2.1 ≤ l.length := Wir.rdN_le _ hp1
  refine WL.v (Runs.move rfl) rfl ?_
  refine WL.call can25 rfl rfl (Wir.wn_c _ (p := (D2 l).2.1) (e := (D2 l).2.2) (i := 0) h5 rfl hl hp2) ?_
  rintro _ w6 ⟨rfl, h6⟩
  refine ⟨_, rfl, ?_⟩
  replace h6 : St W F ([(rb, .cells #[.string (bs l), Vi (((D3 l).2.1 : Nat)), Vi ((D3 l).2.2)] 70 (0, 0))] :: [(b2, .cells #[Vi 0, Vi 0, Vi 0, Vi 0, Vi 0, .slice none 0 0, Vi 0] 24 (0, 0))] :: cs) w6 := h6
  have hp3 : (D3 l).2.1 ≤ l.length := Wir.rdN_le _ hp2
  refine WL.v (Runs.move rfl) rfl ?_
  refine WL.call can25 rfl rfl (Wir.wn_c _ (p := (D3 l).2.1) (e := (D3 l).2.2) (i := 0) h6 rfl hl hp3) ?_
  rintro _ w7 ⟨rfl, h7⟩
  refine ⟨_, rfl, ?_⟩
  replace h7 : St W F ([(rb, .cells #[.string (bs l), Vi (((D4 l).2.1 : Nat)), Vi ((D4 l).2.2)] 70 (0, 0))] :: [(b2, .cells #[Vi 0, Vi 0, Vi 0, Vi 0, Vi 0, .slice none 0 0, Vi 0] 24 (0, 0))] :: cs) w7 := h7
  have hp4 : (D4 l).2.1 ≤ l.length := Wir.rdN_le _ hp3
  refine WL.v (Runs.move rfl) rfl ?_
  refine WL.call can25 rfl rfl (Wir.wn_c _ (p := (D4 l).2.1) (e := (D4 l).2.2) (i := 0) h7 rfl hl hp4) ?_
  rintro _ w8 ⟨rfl, h8⟩
  refine ⟨_, rfl, ?_⟩
  replace h8 : St W F ([(rb, .cells #[.string (bs l), Vi (((D5 l).2.1 : Nat)), Vi ((D5 l).2.2)] 70 (0, 0))] :: [(b2, .cells #[Vi 0, Vi 0, Vi 0, Vi 0, Vi 0, .slice none 0 0, Vi 0] 24 (0, 0))] :: cs) w8 := h8
  have hp5 : (D5 l).2.1 ≤ l.length := Wir.rdN_le _ hp4
  refine WL.v (Runs.move rfl) rfl ?_
  refine WL.call can26 rfl rfl (Wir.wl_c _ (p := (D5 l).2.1) (e := (D5 l).2.2) (most := 16) (i := 0) h8 rfl hl hp5) ?_
  rintro _ w9 ⟨G, A1, cap1, hG, rfl, hc1, hR1, h9⟩
  refine ⟨_, rfl, ?_⟩
  replace h9 : St W G ([(rb, .cells #[.string (bs l), Vi (((DL l).2.1 : Nat)), Vi ((DL l).2.2)] 70 (0, 0))] :: [(b2, .cells #[Vi 0, Vi 0, Vi 0, Vi 0, Vi 0, .slice none 0 0, Vi 0] 24 (0, 0))] :: cs) w9 := h9
  refine WL.v (Runs.build (vs := [(0, Vi ((D0 l).1 : Nat)), (1, Vi ((D1 l).1 : Nat)), (2, Vi ((D2 l).1 : Nat)), (3, Vi ((D3 l).1 : Nat)), (4, Vi ((D4 l).1 : Nat)), (6, Vi ((D5 l).1 : Nat)), (5, .slice A1 (DL l).1.length cap1)]) (cells := #[Vi ((D0 l).1 : Nat), Vi ((D1 l).1 : Nat), Vi ((D2 l).1 : Nat), Vi ((D3 l).1 : Nat), Vi ((D4 l).1 : Nat), .slice A1 (DL l).1.length cap1, Vi ((D5 l).1 : Nat)]) rfl (by kernel_rfl)) rfl ?_
  refine WL.alloc' rfl h9 inf24 ?_
  intro b5 w10 h10
  refine WL.storeAll h10 0 rfl rfl rfl inf24 rfl rfl rfl (Free.zero _) ?_
  intro  w11 h11
  try simp only [List.set_cons_zero, List.set_cons_succ, List.eraseIdx_cons_zero, List.eraseIdx_cons_succ] at h11
  refine WL.nil ?_
  refine WN.thn ?_
  refine WC.seq ?_
  refine WC.seq ?_
  refine WC.reg ?_
  refine WL.v (Runs.move rfl) rfl ?_
  refine WL.call can27 rfl rfl (Wir.rend_c _ (p := (DL l).2.1) (e := (DL l).2.2) h11 (i := 1) rfl) ?_
  rintro _ w12 ⟨rfl, h12⟩
  refine ⟨_, rfl, ?_⟩
  refine WL.v (Runs.move rfl) rfl ?_
  refine WL.v (Runs.extract rfl rfl) rfl ?_
  refine WL.v (Runs.extract rfl rfl) rfl ?_
  refine WL.v (Runs.assign rfl) rfl ?_
  refine WL.v (Runs.assign rfl) rfl ?_
  refine WL.nil ?_
  refine WN.thn ?_
  refine WC.seq ?_
  refine WC.reg ?_
  refine WL.v (Runs.move rfl) rfl ?_
  refine WL.v (Runs.boolT (c := decide (decE l ≠ 0)) (Runs.neq rfl rfl) (by show (!decide (decE l = 0)) = _; simp)) rfl ?_
  refine WL.nil ?_
  refine WN.thn ?_
  refine WC.cond rfl (fun c13 => ?_) (fun c13 => ?_)
  · try simp only [decide_eq_true_eq, decide_eq_false_iff_not, Bool.not_eq_true', Bool.not_eq_false', Bool.and_eq_true, Int.not_lt, Int.not_le] at c13
    first
    | (exfalso; omega)
    | skip
      refine WC.seq ?_
      refine WC.reg ?_
      refine WL.v (Runs.build (vs := []) (cells := #[Vi 0, Vi 0, Vi 0, Vi 0, Vi 0, .slice none 0 0, Vi 0]) rfl (by kernel_rfl)) rfl ?_
      refine WL.v (Runs.move rfl) rfl ?_
      refine WL.storeAll h12 2 rfl rfl rfl inf24 rfl rfl rfl (Free.zero _) ?_
      intro  w14 h14
      try simp only [List.set_cons_zero, List.set_cons_succ, List.eraseIdx_cons_zero, List.eraseIdx_cons_succ] at h14
      refine WL.v (Runs.assign rfl) rfl ?_
      refine WL.nil ?_
      refine WN.thn ?_
      refine WC.ret ?_
      have e9 : decM l = (C0, decE l) := if_pos c13
      exact retB rfl (v := .agg #[Vi 0, Vi 0, Vi 0, Vi 0, Vi 0, .slice none 0 0, Vi 0]) ⟨_, rfl, run_loadVarA (vs := [Vi 0, Vi 0, Vi 0, Vi 0, Vi 0, .slice none 0 0, Vi 0]) Try.underlying24 rfl inf24 rfl (fun j v hv => by rw [add_mk, Nat.zero_add]; exact h14.ocell (i := 2) rfl (by simpa using hv))⟩ (show lk _ _ = _ from rfl) ⟨G, none, 0, hG, by rw [e9]; rfl, by rw [e9]; exact .inl rfl, (((h14.drop 0).drop 0).drop 0)⟩
  · try simp only [decide_eq_true_eq, decide_eq_false_iff_not, Bool.not_eq_true', Bool.not_eq_false', Bool.and_eq_true, Int.not_lt, Int.not_le] at c13
    first
    | (exfalso; omega)
    | skip
      refine WC.skip ?_
      refine WN.thn ?_
      refine WC.seq ?_
      refine WC.seq ?_
      have hbd : (decV l).nd.length ≤ 9223372036854775807 := by have h9_ : (DL l).1.length ≤ l.length := Wir.rdL_len hp5; show (DL l).1.length ≤ _; omega
      refine WC.reg ?_
      refine WL.v (Runs.loadAll h12 0 rfl Try.underlying24 rfl inf24 rfl rfl) rfl ?_
      refine WL.call can12 rfl rfl (check_c (c := decV l) (A := A1) (cap := cap1) _ h12 hR1 hbd) ?_
      rintro _ w15 ⟨rfl, h15⟩
      refine ⟨_, rfl, ?_⟩
      refine WL.v (Runs.neq rfl rfl) rfl ?_
      refine WL.nil ?_
      refine WN.thn ?_
      refine WC.cond rfl (fun c16 => ?_) (fun c16 => ?_)
      · try simp only [decide_eq_true_eq, decide_eq_false_iff_not, Bool.not_eq_true', Bool.not_eq_false', Bool.and_eq_true, Int.not_lt, Int.not_le] at c16
        first
        | (exfalso; omega)
        | skip
          refine WC.seq ?_
          refine WC.reg ?_
          refine WL.v (Runs.build (vs := []) (cells := #[Vi 0, Vi 0, Vi 0, Vi 0, Vi 0, .slice none 0 0, Vi 0]) rfl (by kernel_rfl)) rfl ?_
          refine WL.storeAll h15 2 rfl rfl rfl inf24 rfl rfl rfl (Free.zero _) ?_
          intro  w17 h17
          try simp only [List.set_cons_zero, List.set_cons_succ, List.eraseIdx_cons_zero, List.eraseIdx_cons_succ] at h17
          refine WL.v (Runs.assign rfl) rfl ?_
          refine WL.nil ?_
          refine WN.thn ?_
          refine WC.ret ?_
          have e9 : decM l = (C0, 5) := decM_n (by simpa using c13) (fun hh => c16 (chk_0.2 hh))
          exact retB rfl (v := .agg #[Vi 0, Vi 0, Vi 0, Vi 0, Vi 0, .slice none 0 0, Vi 0]) ⟨_, rfl, run_loadVarA (vs := [Vi 0, Vi 0, Vi 0, Vi 0, Vi 0, .slice none 0 0, Vi 0]) Try.underlying24 rfl inf24 rfl (fun j v hv => by rw [add_mk, Nat.zero_add]; exact h17.ocell (i := 2) rfl (by simpa using hv))⟩ (show lk _ _ = _ from rfl) ⟨G, none, 0, hG, by rw [e9]; rfl, by rw [e9]; exact .inl rfl, (((h17.drop 0).drop 0).drop 0)⟩
      · try simp only [decide_eq_true_eq, decide_eq_false_iff_not, Bool.not_eq_true', Bool.not_eq_false', Bool.and_eq_true, Int.not_lt, Int.not_le] at c16
        first
        | (exfalso; omega)
        | skip
          refine WC.skip ?_
          refine WN.thn ?_
          refine WC.seq ?_
          refine WC.reg ?_
          refine WL.v (Runs.loadAll h15 0 rfl Try.underlying24 rfl inf24 rfl rfl) rfl ?_
          refine WL.storeAll h15 2 rfl rfl rfl inf24 rfl rfl rfl (Free.zero _) ?_
          intro  w18 h18
          try simp only [List.set_cons_zero, List.set_cons_succ, List.eraseIdx_cons_zero, List.eraseIdx_cons_succ] at h18
          refine WL.v (Runs.assign rfl) rfl ?_
          refine WL.nil ?_
          refine WN.thn ?_
          refine WC.ret ?_
          have e9 : decM l = (decV l, 0) := decM_y (by simpa using c13) (chk_0.1 (by simpa using c16))
          exact retB rfl (v := .agg #[Vi ((D0 l).1 : Nat), Vi ((D1 l).1 : Nat), Vi ((D2 l).1 : Nat), Vi ((D3 l).1 : Nat), Vi ((D4 l).1 : Nat), .slice A1 (DL l).1.length cap1, Vi ((D5 l).1 : Nat)]) ⟨_, rfl, run_loadVarA (vs := [Vi ((D0 l).1 : Nat), Vi ((D1 l).1 : Nat), Vi ((D2 l).1 : Nat), Vi ((D3 l).1 : Nat), Vi ((D4 l).1 : Nat), .slice A1 (DL l).1.length cap1, Vi ((D5 l).1 : Nat)]) Try.underlying24 rfl inf24 rfl (fun j v hv => by rw [add_mk, Nat.zero_add]; exact h18.ocell (i := 2) rfl (by simpa using hv))⟩ (show lk _ _ = _ from rfl) ⟨G, A1, cap1, hG, by rw [e9]; rfl, by rw [e9]; exact hR1, (((h18.drop 0).drop 0).drop 0)⟩
end Cr
end Go.Proofs.Ytbkfjedecepfoaa
