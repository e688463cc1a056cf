/- Walks of the reference of chapter 02: texts read. -/
import Derived.Test.YthjcfhfbaeokeaaMW16
namespace Go.Proofs.Ythjcfhfbaeokeaa
open Go Go.RowKit B
set_option linter.unusedVariables false
set_option linter.unusedSimpArgs false
namespace Wir

theorem can56 : B.Can Try.prog 56 := ⟨_, Try.func56, by kernel_rfl, rfl⟩   -- (*roundhouse/roundhouseref02.Reader).Num
theorem can57 : B.Can Try.prog 57 := ⟨_, Try.func57, by kernel_rfl, rfl⟩   -- (*roundhouse/roundhouseref02.Reader).fail
theorem rdT_er {l : List UInt8} {p : Nat} {e : Int} (h : (rdN l p e).2.2 ≠ 0) : rdT l p e = ([], (rdN l p e).2.1, (rdN l p e).2.2) := by
  by_cases he : e = 0
  · subst he
    by_cases hr : rerr l p = 0
    · have hN : rdN l p 0 = (rval l p, rnx l p, 0) := by unfold rdN; rw [if_neg (by simp), if_pos hr]
      rw [hN] at h; exact absurd rfl h
    · have hN : rdN l p 0 = (0, p, rerr l p) := by unfold rdN; rw [if_neg (by simp), if_neg hr]
      have hc : cerr l p 4096 = rerr l p := if_pos hr
      rw [hN]
      unfold rdT
      rw [if_neg (by simp), if_pos (by rw [hc]; exact hr), hc]
  · have hN : rdN l p e = (0, p, e) := by unfold rdN; rw [if_pos he]
    rw [hN]
    unfold rdT
    rw [if_pos he]
set_option maxRecDepth 100000 in
set_option maxHeartbeats 4000000 in
theorem qtext_c {W : World} {F : Snap} {cs : List Res} (w : World) {i rb : Nat} {p : Nat} {l : List UInt8} {e : Int} (h : St W F cs w) (hi : cs[i]? = some [(rb, .cells #[.string (bs l), Vi p, Vi e] 74 (0, 0))]) (hl : l.length ≤ 100000) (hp : p ≤ l.length) : Calls Try.prog 42 #[.pointer (some ⟨rb, 0, none⟩)] w fun r w' => r = .returned (.string (bs (rdT l p e).1)) ∧ St W F (cs.set i [(rb, .cells #[.string (bs l), Vi ((rdT l p e).2.1 : Nat), Vi (rdT l p e).2.2] 74 (0, 0))]) w'  := by
  refine enter (P := Try.prog) (args := [.pointer (some ⟨rb, 0, none⟩)]) Try.func42 rfl rfl rfl ?_
  refine WC.seq ?_
  refine WC.reg ?_
  refine WL.v (Runs.assign rfl) rfl ?_
  refine WL.nil ?_
  refine WN.thn ?_
  refine WC.seq ?_
  refine WC.reg ?_
  refine WL.v (Runs.move rfl) rfl ?_
  refine WL.v (Runs.nilCheckP rfl) rfl ?_
  refine WL.v (Runs.fld fld74_1 rfl) rfl ?_
  refine WL.v (Runs.load1 Try.underlying3 rfl rfl (h.ocell hi rfl)) rfl ?_
  refine WL.v (Runs.assign rfl) rfl ?_
  refine WL.nil ?_
  refine WN.thn ?_
  refine WC.seq ?_
  refine WC.reg ?_
  refine WL.v (Runs.move rfl) rfl ?_
  refine WL.call can56 rfl rfl (qnum_c _ h hi hl hp) ?_
  rintro _ w1 ⟨rfl, h1⟩
  refine ⟨_, rfl, ?_⟩
  have hi1 : (cs.set i [(rb, .cells #[.string (bs l), Vi ((rdN l p e).2.1 : Nat), Vi (rdN l p e).2.2] 74 (0, 0))])[i]? = some [(rb, .cells #[.string (bs l), Vi ((rdN l p e).2.1 : Nat), Vi (rdN l p e).2.2] 74 (0, 0))] := by rw [List.getElem?_set_self (List.getElem?_eq_some_iff.1 hi).1]
  have hpn := rdN_le (l := l) (p := p) e hp
  have hbn := rdN_bnd l p e
  refine WL.v (Runs.assign rfl) rfl ?_
  refine WL.nil ?_
  refine WN.thn ?_
  refine WC.seq ?_
  refine WC.seq ?_
  by_cases he : (rdN l p e).2.2 = 0
  · have hok := num_rdN he
    have hrn := hok.2.2
    refine WC.reg ?_
    refine WL.v (Runs.move rfl) rfl ?_
    refine WL.v (Runs.nilCheckP rfl) rfl ?_
    refine WL.v (Runs.fld fld74_2 rfl) rfl ?_
    refine WL.v (Runs.load1 Try.underlying25 rfl rfl (h1.ocell hi1 rfl)) rfl ?_
    refine WL.v (Runs.boolT (c := false) (Runs.neq rfl rfl) (by rw [decide_eq_true he]; rfl)) rfl ?_
    refine WL.nil ?_
    refine WN.thn ?_
    refine WC.condF rfl (rfl) ?_
    refine WC.skip ?_
    refine WN.thn ?_
    refine WC.seq ?_
    refine WC.seq ?_
    have hcase : 4096 < rval l p ∨ rval l p ≤ 4096 := by omega
    rcases hcase with hm | hm
    · skip
      refine WC.reg ?_
      refine WL.v (Runs.move rfl) rfl ?_
      refine WL.v (Runs.boolT (c := true) (Runs.gtr rfl rfl) (by rw [decide_eq_true_eq, hrn]; show (4096 : Int) < ((rval l p : Nat) : Int); omega)) rfl ?_
      refine WL.nil ?_
      refine WN.thn ?_
      refine WC.condT rfl (rfl) ?_
      refine WC.seq ?_
      refine WC.reg ?_
      refine WL.v (Runs.move rfl) rfl ?_
      refine WL.v (Runs.move rfl) rfl ?_
      refine WL.call can57 rfl rfl (fail_c _ p 3 h1 hi1) ?_
      rintro _ w2 ⟨rfl, h2⟩
      refine ⟨_, rfl, ?_⟩
      rw [List.set_set] at h2
      refine WL.nil ?_
      refine WN.thn ?_
      refine WC.seq ?_
      refine WC.reg ?_
      refine WL.v (Runs.assign rfl) rfl ?_
      refine WL.nil ?_
      refine WN.thn ?_
      refine WC.ret ?_
      have e1 : rdT l p e = ([], p, 3) := by
        unfold rdT cerr
        rw [if_neg (by rw [hok.1]; simp), hok.2.1, if_pos (by rw [if_neg (by simp), if_pos (by omega)]; decide), if_neg (by simp), if_pos (by omega)]
      rw [e1]
      exact ret1 rfl rfl ⟨rfl, h2⟩
    · skip
      refine WC.reg ?_
      refine WL.v (Runs.move rfl) rfl ?_
      refine WL.v (Runs.boolT (c := false) (Runs.gtr rfl rfl) (by rw [decide_eq_false_iff_not, hrn]; show ¬ (4096 : Int) < ((rval l p : Nat) : Int); omega)) rfl ?_
      refine WL.nil ?_
      refine WN.thn ?_
      refine WC.condF rfl (rfl) ?_
      refine WC.skip ?_
      refine WN.thn ?_
      refine WC.seq ?_
      refine WC.seq ?_
      have hrx := rnx_le hok.2.1
      have hcase : l.length < rnx l p + rval l p ∨ rnx l p + rval l p ≤ l.length := by omega
      rcases hcase with hn | hn
      · skip
        refine WC.qreg (C := fun w_ => St W _ _ w_) mixed (by kernel_rfl) (h1.drew) ?_
        refine WQ.val (fun w_ hC_ => Runs.move rfl) rfl ?_
        refine WQ.val (fun w_ hC_ => Runs.nilCheckP rfl) rfl ?_
        refine WQ.val (fun w_ hC_ => Runs.fld fld74_1 rfl) rfl ?_
        refine WQ.val (fun w_ hC_ => Runs.load1 Try.underlying3 rfl rfl (hC_.ocell hi1 rfl)) rfl ?_
        refine WQ.val (fun w_ hC_ => Runs.move rfl) rfl ?_
        refine WQ.val (fun w_ hC_ => Runs.addn rfl rfl (by omega)) rfl ?_
        refine WQ.val (fun w_ hC_ => Runs.move rfl) rfl ?_
        refine WQ.val (fun w_ hC_ => Runs.nilCheckP rfl) rfl ?_
        refine WQ.val (fun w_ hC_ => Runs.fld fld74_0 rfl) rfl ?_
        refine WQ.val (fun w_ hC_ => Runs.load1 Try.underlying9 rfl rfl (hC_.ocell hi1 rfl)) rfl ?_
        refine WQ.val (fun w_ hC_ => Runs.intT (n := (l.length : Int)) (Runs.slen Try.underlying9 rfl rfl) rfl) rfl ?_
        refine WQ.val (fun w_ hC_ => Runs.boolT (c := true) (Runs.gtr rfl rfl) (by rw [decide_eq_true_eq, hrn]; show (l.length : Int) < ((rnx l p : Nat) : Int) + ((rval l p : Nat) : Int); omega)) rfl ?_
        refine WQ.fin ?_
        intro w3 h3
        refine WN.thn ?_
        refine WC.condT rfl (rfl) ?_
        refine WC.seq ?_
        refine WC.reg ?_
        refine WL.v (Runs.move rfl) rfl ?_
        refine WL.v (Runs.nilCheckP rfl) rfl ?_
        refine WL.v (Runs.fld fld74_2 rfl) rfl ?_
        refine WL.store' h3 i hi1 rfl rfl inf25 rfl rfl (Free.zero _) (Nat.le_of_ble_eq_true rfl) ?_
        intro  w4 h4
        try simp only [List.set_cons_zero, List.set_cons_succ, List.eraseIdx_cons_zero, List.eraseIdx_cons_succ] at h4
        rw [List.set_set] at h4
        refine WL.nil ?_
        refine WN.thn ?_
        refine WC.seq ?_
        refine WC.reg ?_
        refine WL.v (Runs.assign rfl) rfl ?_
        refine WL.nil ?_
        refine WN.thn ?_
        refine WC.ret ?_
        have hc0 : cerr l p 4096 = 0 := by unfold cerr; rw [if_neg (by rw [hok.2.1]; simp), if_neg (by omega)]
        have e1 : rdT l p e = ([], rnx l p, 2) := by
          unfold rdT
          rw [if_neg (by rw [hok.1]; simp), if_neg (by rw [hc0]; simp), if_pos hn]
        rw [e1]
        rw [hrn] at h4
        exact ret1 rfl rfl ⟨rfl, h4⟩
      · skip
        refine WC.qreg (C := fun w_ => St W _ _ w_) mixed (by kernel_rfl) (h1.drew) ?_
        refine WQ.val (fun w_ hC_ => Runs.move rfl) rfl ?_
        refine WQ.val (fun w_ hC_ => Runs.nilCheckP rfl) rfl ?_
        refine WQ.val (fun w_ hC_ => Runs.fld fld74_1 rfl) rfl ?_
        refine WQ.val (fun w_ hC_ => Runs.load1 Try.underlying3 rfl rfl (hC_.ocell hi1 rfl)) rfl ?_
        refine WQ.val (fun w_ hC_ => Runs.move rfl) rfl ?_
        refine WQ.val (fun w_ hC_ => Runs.addn rfl rfl (by omega)) rfl ?_
        refine WQ.val (fun w_ hC_ => Runs.move rfl) rfl ?_
        refine WQ.val (fun w_ hC_ => Runs.nilCheckP rfl) rfl ?_
        refine WQ.val (fun w_ hC_ => Runs.fld fld74_0 rfl) rfl ?_
        refine WQ.val (fun w_ hC_ => Runs.load1 Try.underlying9 rfl rfl (hC_.ocell hi1 rfl)) rfl ?_
        refine WQ.val (fun w_ hC_ => Runs.intT (n := (l.length : Int)) (Runs.slen Try.underlying9 rfl rfl) rfl) rfl ?_
        refine WQ.val (fun w_ hC_ => Runs.boolT (c := false) (Runs.gtr rfl rfl) (by rw [decide_eq_false_iff_not, hrn]; show ¬ (l.length : Int) < ((rnx l p : Nat) : Int) + ((rval l p : Nat) : Int); omega)) rfl ?_
        refine WQ.fin ?_
        intro w5 h5
        refine WN.thn ?_
        refine WC.condF rfl (rfl) ?_
        refine WC.skip ?_
        refine WN.thn ?_
        refine WC.seq ?_
        refine WC.reg ?_
        refine WL.v (Runs.move rfl) rfl ?_
        refine WL.v (Runs.move rfl) rfl ?_
        refine WL.v (Runs.nilCheckP rfl) rfl ?_
        refine WL.v (Runs.fld fld74_1 rfl) rfl ?_
        refine WL.v (Runs.load1 Try.underlying3 rfl rfl (h5.ocell hi1 rfl)) rfl ?_
        refine WL.v (Runs.move rfl) rfl ?_
        refine WL.v (Runs.intT (n := ((rnx l p + rval l p : Nat) : Int)) (Runs.addn rfl rfl (by omega)) (by rw [hrn]; show ((rnx l p : Nat) : Int) + ((rval l p : Nat) : Int) = _; omega)) rfl ?_
        refine WL.v (Runs.nilCheckP rfl) rfl ?_
        refine WL.v (Runs.fld fld74_1 rfl) rfl ?_
        refine WL.store' h5 i hi1 rfl rfl inf3 rfl rfl (Free.zero _) (Nat.le_of_ble_eq_true rfl) ?_
        intro  w6 h6
        try simp only [List.set_cons_zero, List.set_cons_succ, List.eraseIdx_cons_zero, List.eraseIdx_cons_succ] at h6
        rw [List.set_set] at h6
        have hi2 : (cs.set i [(rb, .cells #[.string (bs l), Vi ((rnx l p + rval l p : Nat) : Int), Vi (rdN l p e).2.2] 74 (0, 0))])[i]? = some [(rb, .cells #[.string (bs l), Vi ((rnx l p + rval l p : Nat) : Int), Vi (rdN l p e).2.2] 74 (0, 0))] := by rw [List.getElem?_set_self (List.getElem?_eq_some_iff.1 hi).1]
        refine WL.nil ?_
        refine WN.thn ?_
        refine WC.seq ?_
        refine WC.qreg (C := fun w_ => St W _ _ w_) mixed (by kernel_rfl) (h6.drew) ?_
        refine WQ.val (fun w_ hC_ => Runs.move rfl) rfl ?_
        refine WQ.val (fun w_ hC_ => Runs.nilCheckP rfl) rfl ?_
        refine WQ.val (fun w_ hC_ => Runs.fld fld74_0 rfl) rfl ?_
        refine WQ.val (fun w_ hC_ => Runs.load1 Try.underlying9 rfl rfl (hC_.ocell hi2 rfl)) rfl ?_
        refine WQ.val (fun w_ hC_ => Runs.move rfl) rfl ?_
        refine WQ.val (fun w_ hC_ => Runs.nilCheckP rfl) rfl ?_
        refine WQ.val (fun w_ hC_ => Runs.fld fld74_1 rfl) rfl ?_
        refine WQ.val (fun w_ hC_ => Runs.load1 Try.underlying3 rfl rfl (hC_.ocell hi2 rfl)) rfl ?_
        refine WQ.val (fun w_ hC_ => Runs.move rfl) rfl ?_
        refine WQ.val (fun w_ hC_ => Runs.intT (n := ((rnx l p : Nat) : Int)) (Runs.subn rfl rfl (by rw [hrn]; show _ ≤ ((rnx l p + rval l p : Nat) : Int) - ((rval l p : Nat) : Int) ∧ ((rnx l p + rval l p : Nat) : Int) - ((rval l p : Nat) : Int) ≤ _; omega)) (by rw [hrn]; show ((rnx l p + rval l p : Nat) : Int) - ((rval l p : Nat) : Int) = _; omega)) rfl ?_
        refine WQ.val (fun w_ hC_ => Runs.move rfl) rfl ?_
        refine WQ.val (fun w_ hC_ => Runs.nilCheckP rfl) rfl ?_
        refine WQ.val (fun w_ hC_ => Runs.fld fld74_1 rfl) rfl ?_
        refine WQ.val (fun w_ hC_ => Runs.load1 Try.underlying3 rfl rfl (hC_.ocell hi2 rfl)) rfl ?_
        refine WQ.val (fun w_ hC_ => Runs.valT (u := .string (bs ((l.drop (rnx l p)).take (rval l p)))) (Runs.lssl Try.underlying9 rfl rfl rfl (n := rnx l p) (m := rnx l p + rval l p) rfl rfl (by omega) (by omega)) (by rw [show rnx l p + rval l p - rnx l p = rval l p by omega])) rfl ?_
        refine WQ.val (fun w_ hC_ => Runs.assign rfl) rfl ?_
        refine WQ.fin ?_
        intro w7 h7
        refine WN.thn ?_
        refine WC.ret ?_
        have hc0 : cerr l p 4096 = 0 := by unfold cerr; rw [if_neg (by rw [hok.2.1]; simp), if_neg (by omega)]
        have e1 : rdT l p e = ((l.drop (rnx l p)).take (rval l p), rnx l p + rval l p, 0) := by
          unfold rdT
          rw [if_neg (by rw [hok.1]; simp), if_neg (by rw [hc0]; simp), if_neg (by omega)]
        rw [e1]
        rw [hrn] at h7
        exact ret1 rfl rfl ⟨rfl, h7⟩
  · skip
    refine WC.reg ?_
    refine WL.v (Runs.move rfl) rfl ?_
    refine WL.v (Runs.nilCheckP rfl) rfl ?_
    refine WL.v (Runs.fld fld74_2 rfl) rfl ?_
    refine WL.v (Runs.load1 Try.underlying25 rfl rfl (h1.ocell hi1 rfl)) rfl ?_
    refine WL.v (Runs.boolT (c := true) (Runs.neq rfl rfl) (by rw [decide_eq_false he]; rfl)) rfl ?_
    refine WL.nil ?_
    refine WN.thn ?_
    refine WC.condT rfl (rfl) ?_
    refine WC.seq ?_
    refine WC.reg ?_
    refine WL.v (Runs.assign rfl) rfl ?_
    refine WL.nil ?_
    refine WN.thn ?_
    refine WC.ret ?_
    have e1 : rdT l p e = ([], (rdN l p e).2.1, (rdN l p e).2.2) := rdT_er he
    rw [e1]
    exact ret1 rfl rfl ⟨rfl, h1⟩
end Wir
end Go.Proofs.Ythjcfhfbaeokeaa
