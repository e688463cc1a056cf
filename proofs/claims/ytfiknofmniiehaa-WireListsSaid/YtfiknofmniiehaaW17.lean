/- The law WireDecodes: the message of any bytes, or what is wrong. -/
import Derived.Test.YtfiknofmniiehaaW16
namespace Go.Proofs.Ytfiknofmniiehaa
open Go Go.RowKit B
set_option linter.unusedVariables false
set_option linter.unusedSimpArgs false
namespace Wir

theorem can9 : B.Can Try.prog 9 := ⟨_, Try.func9, by kernel_rfl, rfl⟩   -- roundhouse/roundhouselaw02.live
theorem can19 : B.Can Try.prog 19 := ⟨_, Try.func19, by kernel_rfl, rfl⟩   -- roundhouse/roundhouseref02.Decode
theorem can22 : B.Can Try.prog 22 := ⟨_, Try.func22, by kernel_rfl, rfl⟩   -- (*roundhouse/roundhouseref02.Reader).Num
theorem can24 : B.Can Try.prog 24 := ⟨_, Try.func24, by kernel_rfl, rfl⟩   -- (*roundhouse/roundhouseref02.Reader).Text
theorem can29 : B.Can Try.prog 29 := ⟨_, Try.func29, by kernel_rfl, rfl⟩   -- (*roundhouse/roundhouseref02.Reader).End
theorem can42 : B.Can Try.prog 42 := ⟨_, Try.func42, by kernel_rfl, rfl⟩   -- (*roundhouse/roundhouseref02.Reader).fail
theorem rdT_er {l : List UInt8} {p : Nat} {e : Int} (h : (rdN l p e).2.2 ≠ 0) : rdT l p e = ([], (rdN l p e).2.1, (rdN l p e).2.2) := by
  by_cases he : e = 0
  · subst he
    by_cases hr : rerr l p = 0
    · have hN : rdN l p 0 = (rval l p, rnx l p, 0) := by unfold rdN; rw [if_neg (by simp), if_pos hr]
      rw [hN] at h; exact absurd rfl h
    · have hN : rdN l p 0 = (0, p, rerr l p) := by unfold rdN; rw [if_neg (by simp), if_neg hr]
      have hc : cerr l p 4096 = rerr l p := if_pos hr
      rw [hN]
      unfold rdT
      rw [if_neg (by simp), if_pos (by rw [hc]; exact hr), hc]
  · have hN : rdN l p e = (0, p, e) := by unfold rdN; rw [if_pos he]
    rw [hN]
    unfold rdT
    rw [if_pos he]
theorem eqM_t2 {m n : M} (h : m = n) : (decide (m.k = n.k) && (decide (m.f = n.f) && (decide (m.t = n.t) && (decide (m.j = n.j) && (decide (m.ep = n.ep) && (decide (m.st = n.st) && (decide (m.ar = n.ar) && (decide (m.tx = n.tx) && true)))))))) = true := by
  subst h; simp
set_option maxRecDepth 100000 in
set_option maxHeartbeats 4000000 in
theorem qtext_c {W : World} {F : Snap} {cs : List Res} (w : World) {i rb : Nat} {p : Nat} {l : List UInt8} {e : Int} (h : St W F cs w) (hi : cs[i]? = some [(rb, .cells #[.string (bs l), Vi p, Vi e] 40 (0, 0))]) (hl : l.length ≤ 100000) (hp : p ≤ l.length) : Calls Try.prog 24 #[.pointer (some ⟨rb, 0, none⟩)] w fun r w' => r = .returned (.string (bs (rdT l p e).1)) ∧ St W F (cs.set i [(rb, .cells #[.string (bs l), Vi ((rdT l p e).2.1 : Nat), Vi (rdT l p e).2.2] 40 (0, 0))]) w'  := by
  refine enter (P := Try.prog) (args := [.pointer (some ⟨rb, 0, none⟩)]) Try.func24 rfl rfl rfl ?_
  refine WC.seq ?_
  refine WC.reg ?_
  refine WL.v (Runs.assign rfl) rfl ?_
  refine WL.nil ?_
  refine WN.thn ?_
  refine WC.seq ?_
  refine WC.reg ?_
  refine WL.v (Runs.move rfl) rfl ?_
  refine WL.v (Runs.nilCheckP rfl) rfl ?_
  refine WL.v (Runs.fld fld40_1 rfl) rfl ?_
  refine WL.v (Runs.load1 Try.underlying3 rfl rfl (h.ocell hi rfl)) rfl ?_
  refine WL.v (Runs.assign rfl) rfl ?_
  refine WL.nil ?_
  refine WN.thn ?_
  refine WC.seq ?_
  refine WC.reg ?_
  refine WL.v (Runs.move rfl) rfl ?_
  refine WL.call can22 rfl rfl (qnum_c _ h hi hl hp) ?_
  rintro _ w1 ⟨rfl, h1⟩
  refine ⟨_, rfl, ?_⟩
  have hi1 : (cs.set i [(rb, .cells #[.string (bs l), Vi ((rdN l p e).2.1 : Nat), Vi (rdN l p e).2.2] 40 (0, 0))])[i]? = some [(rb, .cells #[.string (bs l), Vi ((rdN l p e).2.1 : Nat), Vi (rdN l p e).2.2] 40 (0, 0))] := by rw [List.getElem?_set_self (List.getElem?_eq_some_iff.1 hi).1]
  have hpn := rdN_le (l := l) (p := p) e hp
  have hbn := rdN_bnd l p e
  refine WL.v (Runs.assign rfl) rfl ?_
  refine WL.nil ?_
  refine WN.thn ?_
  refine WC.seq ?_
  refine WC.seq ?_
  by_cases he : (rdN l p e).2.2 = 0
  · have hok := num_rdN he
    have hrn := hok.2.2
    refine WC.reg ?_
    refine WL.v (Runs.move rfl) rfl ?_
    refine WL.v (Runs.nilCheckP rfl) rfl ?_
    refine WL.v (Runs.fld fld40_2 rfl) rfl ?_
    refine WL.v (Runs.load1 Try.underlying31 rfl rfl (h1.ocell hi1 rfl)) rfl ?_
    refine WL.v (Runs.boolT (c := false) (Runs.neq rfl rfl) (by rw [decide_eq_true he]; rfl)) rfl ?_
    refine WL.nil ?_
    refine WN.thn ?_
    refine WC.condF rfl (rfl) ?_
    refine WC.skip ?_
    refine WN.thn ?_
    refine WC.seq ?_
    refine WC.seq ?_
    have hcase : 4096 < rval l p ∨ rval l p ≤ 4096 := by omega
    rcases hcase with hm | hm
    · skip
      refine WC.reg ?_
      refine WL.v (Runs.move rfl) rfl ?_
      refine WL.v (Runs.boolT (c := true) (Runs.gtr rfl rfl) (by rw [decide_eq_true_eq, hrn]; show (4096 : Int) < ((rval l p : Nat) : Int); omega)) rfl ?_
      refine WL.nil ?_
      refine WN.thn ?_
      refine WC.condT rfl (rfl) ?_
      refine WC.seq ?_
      refine WC.reg ?_
      refine WL.v (Runs.move rfl) rfl ?_
      refine WL.v (Runs.move rfl) rfl ?_
      refine WL.call can42 rfl rfl (fail_c _ p 3 h1 hi1) ?_
      rintro _ w2 ⟨rfl, h2⟩
      refine ⟨_, rfl, ?_⟩
      rw [List.set_set] at h2
      refine WL.nil ?_
      refine WN.thn ?_
      refine WC.seq ?_
      refine WC.reg ?_
      refine WL.v (Runs.assign rfl) rfl ?_
      refine WL.nil ?_
      refine WN.thn ?_
      refine WC.ret ?_
      have e1 : rdT l p e = ([], p, 3) := by
        unfold rdT cerr
        rw [if_neg (by rw [hok.1]; simp), hok.2.1, if_pos (by rw [if_neg (by simp), if_pos (by omega)]; decide), if_neg (by simp), if_pos (by omega)]
      rw [e1]
      exact ret1 rfl rfl ⟨rfl, h2⟩
    · skip
      refine WC.reg ?_
      refine WL.v (Runs.move rfl) rfl ?_
      refine WL.v (Runs.boolT (c := false) (Runs.gtr rfl rfl) (by rw [decide_eq_false_iff_not, hrn]; show ¬ (4096 : Int) < ((rval l p : Nat) : Int); omega)) rfl ?_
      refine WL.nil ?_
      refine WN.thn ?_
      refine WC.condF rfl (rfl) ?_
      refine WC.skip ?_
      refine WN.thn ?_
      refine WC.seq ?_
      refine WC.seq ?_
      have hrx := rnx_le hok.2.1
      have hcase : l.length < rnx l p + rval l p ∨ rnx l p + rval l p ≤ l.length := by omega
      rcases hcase with hn | hn
      · skip
        refine WC.qreg (C := fun w_ => St W _ _ w_) mixed (by kernel_rfl) (h1.drew) ?_
        refine WQ.val (fun w_ hC_ => Runs.move rfl) rfl ?_
        refine WQ.val (fun w_ hC_ => Runs.nilCheckP rfl) rfl ?_
        refine WQ.val (fun w_ hC_ => Runs.fld fld40_1 rfl) rfl ?_
        refine WQ.val (fun w_ hC_ => Runs.load1 Try.underlying3 rfl rfl (hC_.ocell hi1 rfl)) rfl ?_
        refine WQ.val (fun w_ hC_ => Runs.move rfl) rfl ?_
        refine WQ.val (fun w_ hC_ => Runs.addn rfl rfl (by omega)) rfl ?_
        refine WQ.val (fun w_ hC_ => Runs.move rfl) rfl ?_
        refine WQ.val (fun w_ hC_ => Runs.nilCheckP rfl) rfl ?_
        refine WQ.val (fun w_ hC_ => Runs.fld fld40_0 rfl) rfl ?_
        refine WQ.val (fun w_ hC_ => Runs.load1 Try.underlying9 rfl rfl (hC_.ocell hi1 rfl)) rfl ?_
        refine WQ.val (fun w_ hC_ => Runs.intT (n := (l.length : Int)) (Runs.slen Try.underlying9 rfl rfl) rfl) rfl ?_
        refine WQ.val (fun w_ hC_ => Runs.boolT (c := true) (Runs.gtr rfl rfl) (by rw [decide_eq_true_eq, hrn]; show (l.length : Int) < ((rnx l p : Nat) : Int) + ((rval l p : Nat) : Int); omega)) rfl ?_
        refine WQ.fin ?_
        intro w3 h3
        refine WN.thn ?_
        refine WC.condT rfl (rfl) ?_
        refine WC.seq ?_
        refine WC.reg ?_
        refine WL.v (Runs.move rfl) rfl ?_
        refine WL.v (Runs.nilCheckP rfl) rfl ?_
        refine WL.v (Runs.fld fld40_2 rfl) rfl ?_
        refine WL.store' h3 i hi1 rfl rfl inf31 rfl rfl (Free.zero _) (Nat.le_of_ble_eq_true rfl) ?_
        intro  w4 h4
        try simp only [List.set_cons_zero, List.set_cons_succ, List.eraseIdx_cons_zero, List.eraseIdx_cons_succ] at h4
        rw [List.set_set] at h4
        refine WL.nil ?_
        refine WN.thn ?_
        refine WC.seq ?_
        refine WC.reg ?_
        refine WL.v (Runs.assign rfl) rfl ?_
        refine WL.nil ?_
        refine WN.thn ?_
        refine WC.ret ?_
        have hc0 : cerr l p 4096 = 0 := by unfold cerr; rw [if_neg (by rw [hok.2.1]; simp), if_neg (by omega)]
        have e1 : rdT l p e = ([], rnx l p, 2) := by
          unfold rdT
          rw [if_neg (by rw [hok.1]; simp), if_neg (by rw [hc0]; simp), if_pos hn]
        rw [e1]
        rw [hrn] at h4
        exact ret1 rfl rfl ⟨rfl, h4⟩
      · skip
        refine WC.qreg (C := fun w_ => St W _ _ w_) mixed (by kernel_rfl) (h1.drew) ?_
        refine WQ.val (fun w_ hC_ => Runs.move rfl) rfl ?_
        refine WQ.val (fun w_ hC_ => Runs.nilCheckP rfl) rfl ?_
        refine WQ.val (fun w_ hC_ => Runs.fld fld40_1 rfl) rfl ?_
        refine WQ.val (fun w_ hC_ => Runs.load1 Try.underlying3 rfl rfl (hC_.ocell hi1 rfl)) rfl ?_
        refine WQ.val (fun w_ hC_ => Runs.move rfl) rfl ?_
        refine WQ.val (fun w_ hC_ => Runs.addn rfl rfl (by omega)) rfl ?_
        refine WQ.val (fun w_ hC_ => Runs.move rfl) rfl ?_
        refine WQ.val (fun w_ hC_ => Runs.nilCheckP rfl) rfl ?_
        refine WQ.val (fun w_ hC_ => Runs.fld fld40_0 rfl) rfl ?_
        refine WQ.val (fun w_ hC_ => Runs.load1 Try.underlying9 rfl rfl (hC_.ocell hi1 rfl)) rfl ?_
        refine WQ.val (fun w_ hC_ => Runs.intT (n := (l.length : Int)) (Runs.slen Try.underlying9 rfl rfl) rfl) rfl ?_
        refine WQ.val (fun w_ hC_ => Runs.boolT (c := false) (Runs.gtr rfl rfl) (by rw [decide_eq_false_iff_not, hrn]; show ¬ (l.length : Int) < ((rnx l p : Nat) : Int) + ((rval l p : Nat) : Int); omega)) rfl ?_
        refine WQ.fin ?_
        intro w5 h5
        refine WN.thn ?_
        refine WC.condF rfl (rfl) ?_
        refine WC.skip ?_
        refine WN.thn ?_
        refine WC.seq ?_
        refine WC.reg ?_
        refine WL.v (Runs.move rfl) rfl ?_
        refine WL.v (Runs.move rfl) rfl ?_
        refine WL.v (Runs.nilCheckP rfl) rfl ?_
        refine WL.v (Runs.fld fld40_1 rfl) rfl ?_
        refine WL.v (Runs.load1 Try.underlying3 rfl rfl (h5.ocell hi1 rfl)) rfl ?_
        refine WL.v (Runs.move rfl) rfl ?_
        refine WL.v (Runs.intT (n := ((rnx l p + rval l p : Nat) : Int)) (Runs.addn rfl rfl (by omega)) (by rw [hrn]; show ((rnx l p : Nat) : Int) + ((rval l p : Nat) : Int) = _; omega)) rfl ?_
        refine WL.v (Runs.nilCheckP rfl) rfl ?_
        refine WL.v (Runs.fld fld40_1 rfl) rfl ?_
        refine WL.store' h5 i hi1 rfl rfl inf3 rfl rfl (Free.zero _) (Nat.le_of_ble_eq_true rfl) ?_
        intro  w6 h6
        try simp only [List.set_cons_zero, List.set_cons_succ, List.eraseIdx_cons_zero, List.eraseIdx_cons_succ] at h6
        rw [List.set_set] at h6
        have hi2 : (cs.set i [(rb, .cells #[.string (bs l), Vi ((rnx l p + rval l p : Nat) : Int), Vi (rdN l p e).2.2] 40 (0, 0))])[i]? = some [(rb, .cells #[.string (bs l), Vi ((rnx l p + rval l p : Nat) : Int), Vi (rdN l p e).2.2] 40 (0, 0))] := by rw [List.getElem?_set_self (List.getElem?_eq_some_iff.1 hi).1]
        refine WL.nil ?_
        refine WN.thn ?_
        refine WC.seq ?_
        refine WC.qreg (C := fun w_ => St W _ _ w_) mixed (by kernel_rfl) (h6.drew) ?_
        refine WQ.val (fun w_ hC_ => Runs.move rfl) rfl ?_
        refine WQ.val (fun w_ hC_ => Runs.nilCheckP rfl) rfl ?_
        refine WQ.val (fun w_ hC_ => Runs.fld fld40_0 rfl) rfl ?_
        refine WQ.val (fun w_ hC_ => Runs.load1 Try.underlying9 rfl rfl (hC_.ocell hi2 rfl)) rfl ?_
        refine WQ.val (fun w_ hC_ => Runs.move rfl) rfl ?_
        refine WQ.val (fun w_ hC_ => Runs.nilCheckP rfl) rfl ?_
        refine WQ.val (fun w_ hC_ => Runs.fld fld40_1 rfl) rfl ?_
        refine WQ.val (fun w_ hC_ => Runs.load1 Try.underlying3 rfl rfl (hC_.ocell hi2 rfl)) rfl ?_
        refine WQ.val (fun w_ hC_ => Runs.move rfl) rfl ?_
        refine WQ.val (fun w_ hC_ => Runs.intT (n := ((rnx l p : Nat) : Int)) (Runs.subn rfl rfl (by rw [hrn]; show _ ≤ ((rnx l p + rval l p : Nat) : Int) - ((rval l p : Nat) : Int) ∧ ((rnx l p + rval l p : Nat) : Int) - ((rval l p : Nat) : Int) ≤ _; omega)) (by rw [hrn]; show ((rnx l p + rval l p : Nat) : Int) - ((rval l p : Nat) : Int) = _; omega)) rfl ?_
        refine WQ.val (fun w_ hC_ => Runs.move rfl) rfl ?_
        refine WQ.val (fun w_ hC_ => Runs.nilCheckP rfl) rfl ?_
        refine WQ.val (fun w_ hC_ => Runs.fld fld40_1 rfl) rfl ?_
        refine WQ.val (fun w_ hC_ => Runs.load1 Try.underlying3 rfl rfl (hC_.ocell hi2 rfl)) rfl ?_
        refine WQ.val (fun w_ hC_ => Runs.valT (u := .string (bs ((l.drop (rnx l p)).take (rval l p)))) (Runs.lssl Try.underlying9 rfl rfl rfl (n := rnx l p) (m := rnx l p + rval l p) rfl rfl (by omega) (by omega)) (by rw [show rnx l p + rval l p - rnx l p = rval l p by omega])) rfl ?_
        refine WQ.val (fun w_ hC_ => Runs.assign rfl) rfl ?_
        refine WQ.fin ?_
        intro w7 h7
        refine WN.thn ?_
        refine WC.ret ?_
        have hc0 : cerr l p 4096 = 0 := by unfold cerr; rw [if_neg (by rw [hok.2.1]; simp), if_neg (by omega)]
        have e1 : rdT l p e = ((l.drop (rnx l p)).take (rval l p), rnx l p + rval l p, 0) := by
          unfold rdT
          rw [if_neg (by rw [hok.1]; simp), if_neg (by rw [hc0]; simp), if_neg (by omega)]
        rw [e1]
        rw [hrn] at h7
        exact ret1 rfl rfl ⟨rfl, h7⟩
  · skip
    refine WC.reg ?_
    refine WL.v (Runs.move rfl) rfl ?_
    refine WL.v (Runs.nilCheckP rfl) rfl ?_
    refine WL.v (Runs.fld fld40_2 rfl) rfl ?_
    refine WL.v (Runs.load1 Try.underlying31 rfl rfl (h1.ocell hi1 rfl)) rfl ?_
    refine WL.v (Runs.boolT (c := true) (Runs.neq rfl rfl) (by rw [decide_eq_false he]; rfl)) rfl ?_
    refine WL.nil ?_
    refine WN.thn ?_
    refine WC.condT rfl (rfl) ?_
    refine WC.seq ?_
    refine WC.reg ?_
    refine WL.v (Runs.assign rfl) rfl ?_
    refine WL.nil ?_
    refine WN.thn ?_
    refine WC.ret ?_
    have e1 : rdT l p e = ([], (rdN l p e).2.1, (rdN l p e).2.2) := rdT_er he
    rw [e1]
    exact ret1 rfl rfl ⟨rfl, h1⟩
set_option maxRecDepth 100000 in
set_option maxHeartbeats 8000000 in
theorem qdec_c {W : World} {F : Snap} {cs : List Res} (w : World) (l : List UInt8) (h : St W F cs w) (hl : l.length ≤ 100000) : Calls Try.prog 19 #[.string (bs l)] w fun r w' => r = .returned (.tuple #[(decB l).1.val, Vi (decB l).2]) ∧ St W F cs w'  := by
  refine enter (P := Try.prog) (args := [.string (bs l)]) Try.func19 rfl rfl rfl ?_
  refine WC.seq ?_
  refine WC.reg ?_
  refine WL.alloc' rfl h inf24 ?_
  intro b2 w1 h1
  refine WL.v (Runs.assign rfl) rfl ?_
  refine WL.nil ?_
  refine WN.thn ?_
  refine WC.seq ?_
  refine WC.reg ?_
  refine WL.v (Runs.move rfl) rfl ?_
  refine WL.v (Runs.build (vs := [(0, .string (bs l))]) (cells := #[.string (bs l), Vi 0, Vi 0]) rfl (by kernel_rfl)) rfl ?_
  refine WL.box rfl h1 rfl ?_
  intro b10 w2 h2
  refine WL.v (Runs.assign rfl) rfl ?_
  refine WL.nil ?_
  refine WN.thn ?_
  refine WC.seq ?_
  refine WC.reg ?_
  refine WL.v (Runs.build (vs := []) (cells := #[Vi 0, Vi 0, Vi 0, Vi 0, Vi 0, Vi 0, Vi 0, .string ⟨#[]⟩]) rfl (by kernel_rfl)) rfl ?_
  refine WL.alloc' rfl h2 inf24 ?_
  intro b5 w3 h3
  refine WL.storeAll h3 0 rfl rfl rfl inf24 rfl rfl rfl (Free.zero _) ?_
  intro  w4 h4
  try simp only [List.set_cons_zero, List.set_cons_succ, List.eraseIdx_cons_zero, List.eraseIdx_cons_succ] at h4
  refine WL.nil ?_
  refine WN.thn ?_
  refine WC.seq ?_
  refine WC.reg ?_
  refine WL.v (Runs.move rfl) rfl ?_
  refine WL.call can22 rfl rfl (qnum_c _ (p := 0) (e := 0) h4 (i := 1) rfl hl (by omega)) ?_
  rintro _ w5 ⟨rfl, h5⟩
  refine ⟨_, rfl, ?_⟩
  replace h5 : St W F ([(b5, .cells #[Vi 0, Vi 0, Vi 0, Vi 0, Vi 0, Vi 0, Vi 0, .string ⟨#[]⟩] 24 (0, 0))] :: [(b10, .cells #[.string (bs l), Vi (((D0 l).2.1 : Nat)), Vi ((D0 l).2.2)] 40 (0, 0))] :: [(b2, .cells #[Vi 0, Vi 0, Vi 0, Vi 0, Vi 0, Vi 0, Vi 0, .string ⟨#[]⟩] 24 (0, 0))] :: cs) w5 := h5
  have hp0 : (D0 l).2.1 ≤ l.length := rdN_le _ (by omega)
  have hb0 : (D0 l).1 ≤ 1099511627776 := rdN_bnd _ _ _
  refine WL.v (Runs.fld fld24_0 rfl) rfl ?_
  refine WL.store' h5 0 rfl rfl rfl inf3 rfl rfl (Free.zero _) (Nat.le_of_ble_eq_true rfl) ?_
  intro  w6 h6
  try simp only [List.set_cons_zero, List.set_cons_succ, List.eraseIdx_cons_zero, List.eraseIdx_cons_succ] at h6
  replace h6 : St W F ([(b5, .cells #[Vi ((D0 l).1 : Nat), Vi 0, Vi 0, Vi 0, Vi 0, Vi 0, Vi 0, .string ⟨#[]⟩] 24 (0, 0))] :: [(b10, .cells #[.string (bs l), Vi (((D0 l).2.1 : Nat)), Vi ((D0 l).2.2)] 40 (0, 0))] :: [(b2, .cells #[Vi 0, Vi 0, Vi 0, Vi 0, Vi 0, Vi 0, Vi 0, .string ⟨#[]⟩] 24 (0, 0))] :: cs) w6 := h6
  refine WL.nil ?_
  refine WN.thn ?_
  refine WC.seq ?_
  refine WC.reg ?_
  refine WL.v (Runs.move rfl) rfl ?_
  refine WL.call can22 rfl rfl (qnum_c _ (p := (D0 l).2.1) (e := (D0 l).2.2) h6 (i := 1) rfl hl hp0) ?_
  rintro _ w7 ⟨rfl, h7⟩
  refine ⟨_, rfl, ?_⟩
  replace h7 : St W F ([(b5, .cells #[Vi ((D0 l).1 : Nat), Vi 0, Vi 0, Vi 0, Vi 0, Vi 0, Vi 0, .string ⟨#[]⟩] 24 (0, 0))] :: [(b10, .cells #[.string (bs l), Vi (((D1 l).2.1 : Nat)), Vi ((D1 l).2.2)] 40 (0, 0))] :: [(b2, .cells #[Vi 0, Vi 0, Vi 0, Vi 0, Vi 0, Vi 0, Vi 0, .string ⟨#[]⟩] 24 (0, 0))] :: cs) w7 := h7
  have hp1 : (D1 l).2.1 ≤ l.length := rdN_le _ hp0
  have hb1 : (D1 l).1 ≤ 1099511627776 := rdN_bnd _ _ _
  refine WL.v (Runs.subn (m := ((D1 l).1 : Int)) rfl rfl (by omega)) rfl ?_
  refine WL.v (Runs.fld fld24_1 rfl) rfl ?_
  refine WL.store' h7 0 rfl rfl rfl inf3 rfl rfl (Free.zero _) (Nat.le_of_ble_eq_true rfl) ?_
  intro  w8 h8
  try simp only [List.set_cons_zero, List.set_cons_succ, List.eraseIdx_cons_zero, List.eraseIdx_cons_succ] at h8
  replace h8 : St W F ([(b5, .cells #[Vi ((D0 l).1 : Nat), Vi (((D1 l).1 : Int) - 1), Vi 0, Vi 0, Vi 0, Vi 0, Vi 0, .string ⟨#[]⟩] 24 (0, 0))] :: [(b10, .cells #[.string (bs l), Vi (((D1 l).2.1 : Nat)), Vi ((D1 l).2.2)] 40 (0, 0))] :: [(b2, .cells #[Vi 0, Vi 0, Vi 0, Vi 0, Vi 0, Vi 0, Vi 0, .string ⟨#[]⟩] 24 (0, 0))] :: cs) w8 := h8
  refine WL.nil ?_
  refine WN.thn ?_
  refine WC.seq ?_
  refine WC.reg ?_
  refine WL.v (Runs.move rfl) rfl ?_
  refine WL.call can22 rfl rfl (qnum_c _ (p := (D1 l).2.1) (e := (D1 l).2.2) h8 (i := 1) rfl hl hp1) ?_
  rintro _ w9 ⟨rfl, h9⟩
  refine ⟨_, rfl, ?_⟩
  replace h9 : St W F ([(b5, .cells #[Vi ((D0 l).1 : Nat), Vi (((D1 l).1 : Int) - 1), Vi 0, Vi 0, Vi 0, Vi 0, Vi 0, .string ⟨#[]⟩] 24 (0, 0))] :: [(b10, .cells #[.string (bs l), Vi (((D2 l).2.1 : Nat)), Vi ((D2 l).2.2)] 40 (0, 0))] :: [(b2, .cells #[Vi 0, Vi 0, Vi 0, Vi 0, Vi 0, Vi 0, Vi 0, .string ⟨#[]⟩] 24 (0, 0))] :: cs) w9 := h9
  have hp2 : (D2 l).2.1 ≤ l.length := rdN_le _ hp1
  have hb2 : (D2 l).1 ≤ 1099511627776 := rdN_bnd _ _ _
  refine WL.v (Runs.subn (m := ((D2 l).1 : Int)) rfl rfl (by omega)) rfl ?_
  refine WL.v (Runs.fld fld24_2 rfl) rfl ?_
  refine WL.store' h9 0 rfl rfl rfl inf3 rfl rfl (Free.zero _) (Nat.le_of_ble_eq_true rfl) ?_
  intro  w10 h10
  try simp only [List.set_cons_zero, List.set_cons_succ, List.eraseIdx_cons_zero, List.eraseIdx_cons_succ] at h10
  replace h10 : St W F ([(b5, .cells #[Vi ((D0 l).1 : Nat), Vi (((D1 l).1 : Int) - 1), Vi (((D2 l).1 : Int) - 1), Vi 0, Vi 0, Vi 0, Vi 0, .string ⟨#[]⟩] 24 (0, 0))] :: [(b10, .cells #[.string (bs l), Vi (((D2 l).2.1 : Nat)), Vi ((D2 l).2.2)] 40 (0, 0))] :: [(b2, .cells #[Vi 0, Vi 0, Vi 0, Vi 0, Vi 0, Vi 0, Vi 0, .string ⟨#[]⟩] 24 (0, 0))] :: cs) w10 := h10
  refine WL.nil ?_
  refine WN.thn ?_
  refine WC.seq ?_
  refine WC.reg ?_
  refine WL.v (Runs.move rfl) rfl ?_
  refine WL.call can22 rfl rfl (qnum_c _ (p := (D2 l).2.1) (e := (D2 l).2.2) h10 (i := 1) rfl hl hp2) ?_
  rintro _ w11 ⟨rfl, h11⟩
  refine ⟨_, rfl, ?_⟩
  replace h11 : St W F ([(b5, .cells #[Vi ((D0 l).1 : Nat), Vi (((D1 l).1 : Int) - 1), Vi (((D2 l).1 : Int) - 1), Vi 0, Vi 0, Vi 0, Vi 0, .string ⟨#[]⟩] 24 (0, 0))] :: [(b10, .cells #[.string (bs l), Vi (((D3 l).2.1 : Nat)), Vi ((D3 l).2.2)] 40 (0, 0))] :: [(b2, .cells #[Vi 0, Vi 0, Vi 0, Vi 0, Vi 0, Vi 0, Vi 0, .string ⟨#[]⟩] 24 (0, 0))] :: cs) w11 := h11
  have hp3 : (D3 l).2.1 ≤ l.length := rdN_le _ hp2
  have hb3 : (D3 l).1 ≤ 1099511627776 := rdN_bnd _ _ _
  refine WL.v (Runs.fld fld24_3 rfl) rfl ?_
  refine WL.store' h11 0 rfl rfl rfl inf3 rfl rfl (Free.zero _) (Nat.le_of_ble_eq_true rfl) ?_
  intro  w12 h12
  try simp only [List.set_cons_zero, List.set_cons_succ, List.eraseIdx_cons_zero, List.eraseIdx_cons_succ] at h12
  replace h12 : St W F ([(b5, .cells #[Vi ((D0 l).1 : Nat), Vi (((D1 l).1 : Int) - 1), Vi (((D2 l).1 : Int) - 1), Vi ((D3 l).1 : Nat), Vi 0, Vi 0, Vi 0, .string ⟨#[]⟩] 24 (0, 0))] :: [(b10, .cells #[.string (bs l), Vi (((D3 l).2.1 : Nat)), Vi ((D3 l).2.2)] 40 (0, 0))] :: [(b2, .cells #[Vi 0, Vi 0, Vi 0, Vi 0, Vi 0, Vi 0, Vi 0, .string ⟨#[]⟩] 24 (0, 0))] :: cs) w12 := h12
  refine WL.nil ?_
  refine WN.thn ?_
  refine WC.seq ?_
  refine WC.reg ?_
  refine WL.v (Runs.move rfl) rfl ?_
  refine WL.call can22 rfl rfl (qnum_c _ (p := (D3 l).2.1) (e := (D3 l).2.2) h12 (i := 1) rfl hl hp3) ?_
  rintro _ w13 ⟨rfl, h13⟩
  refine ⟨_, rfl, ?_⟩
  replace h13 : St W F ([(b5, .cells #[Vi ((D0 l).1 : Nat), Vi (((D1 l).1 : Int) - 1), Vi (((D2 l).1 : Int) - 1), Vi ((D3 l).1 : Nat), Vi 0, Vi 0, Vi 0, .string ⟨#[]⟩] 24 (0, 0))] :: [(b10, .cells #[.string (bs l), Vi (((D4 l).2.1 : Nat)), Vi ((D4 l).2.2)] 40 (0, 0))] :: [(b2, .cells #[Vi 0, Vi 0, Vi 0, Vi 0, Vi 0, Vi 0, Vi 0, .string ⟨#[]⟩] 24 (0, 0))] :: cs) w13 := h13
  have hp4 : (D4 l).2.1 ≤ l.length := rdN_le _ hp3
  have hb4 : (D4 l).1 ≤ 1099511627776 := rdN_bnd _ _ _
  refine WL.v (Runs.fld fld24_4 rfl) rfl ?_
  refine WL.store' h13 0 rfl rfl rfl inf3 rfl rfl (Free.zero _) (Nat.le_of_ble_eq_true rfl) ?_
  intro  w14 h14
  try simp only [List.set_cons_zero, List.set_cons_succ, List.eraseIdx_cons_zero, List.eraseIdx_cons_succ] at h14
  replace h14 : St W F ([(b5, .cells #[Vi ((D0 l).1 : Nat), Vi (((D1 l).1 : Int) - 1), Vi (((D2 l).1 : Int) - 1), Vi ((D3 l).1 : Nat), Vi ((D4 l).1 : Nat), Vi 0, Vi 0, .string ⟨#[]⟩] 24 (0, 0))] :: [(b10, .cells #[.string (bs l), Vi (((D4 l).2.1 : Nat)), Vi ((D4 l).2.2)] 40 (0, 0))] :: [(b2, .cells #[Vi 0, Vi 0, Vi 0, Vi 0, Vi 0, Vi 0, Vi 0, .string ⟨#[]⟩] 24 (0, 0))] :: cs) w14 := h14
  refine WL.nil ?_
  refine WN.thn ?_
  refine WC.seq ?_
  refine WC.reg ?_
  refine WL.v (Runs.move rfl) rfl ?_
  refine WL.call can22 rfl rfl (qnum_c _ (p := (D4 l).2.1) (e := (D4 l).2.2) h14 (i := 1) rfl hl hp4) ?_
  rintro _ w15 ⟨rfl, h15⟩
  refine ⟨_, rfl, ?_⟩
  replace h15 : St W F ([(b5, .cells #[Vi ((D0 l).1 : Nat), Vi (((D1 l).1 : Int) - 1), Vi (((D2 l).1 : Int) - 1), Vi ((D3 l).1 : Nat), Vi ((D4 l).1 : Nat), Vi 0, Vi 0, .string ⟨#[]⟩] 24 (0, 0))] :: [(b10, .cells #[.string (bs l), Vi (((D5 l).2.1 : Nat)), Vi ((D5 l).2.2)] 40 (0, 0))] :: [(b2, .cells #[Vi 0, Vi 0, Vi 0, Vi 0, Vi 0, Vi 0, Vi 0, .string ⟨#[]⟩] 24 (0, 0))] :: cs) w15 := h15
  have hp5 : (D5 l).2.1 ≤ l.length := rdN_le _ hp4
  have hb5 : (D5 l).1 ≤ 1099511627776 := rdN_bnd _ _ _
  refine WL.v (Runs.fld fld24_5 rfl) rfl ?_
  refine WL.store' h15 0 rfl rfl rfl inf3 rfl rfl (Free.zero _) (Nat.le_of_ble_eq_true rfl) ?_
  intro  w16 h16
  try simp only [List.set_cons_zero, List.set_cons_succ, List.eraseIdx_cons_zero, List.eraseIdx_cons_succ] at h16
  replace h16 : St W F ([(b5, .cells #[Vi ((D0 l).1 : Nat), Vi (((D1 l).1 : Int) - 1), Vi (((D2 l).1 : Int) - 1), Vi ((D3 l).1 : Nat), Vi ((D4 l).1 : Nat), Vi ((D5 l).1 : Nat), Vi 0, .string ⟨#[]⟩] 24 (0, 0))] :: [(b10, .cells #[.string (bs l), Vi (((D5 l).2.1 : Nat)), Vi ((D5 l).2.2)] 40 (0, 0))] :: [(b2, .cells #[Vi 0, Vi 0, Vi 0, Vi 0, Vi 0, Vi 0, Vi 0, .string ⟨#[]⟩] 24 (0, 0))] :: cs) w16 := h16
  refine WL.nil ?_
  refine WN.thn ?_
  refine WC.seq ?_
  refine WC.reg ?_
  refine WL.v (Runs.move rfl) rfl ?_
  refine WL.call can22 rfl rfl (qnum_c _ (p := (D5 l).2.1) (e := (D5 l).2.2) h16 (i := 1) rfl hl hp5) ?_
  rintro _ w17 ⟨rfl, h17⟩
  refine ⟨_, rfl, ?_⟩
  replace h17 : St W F ([(b5, .cells #[Vi ((D0 l).1 : Nat), Vi (((D1 l).1 : Int) - 1), Vi (((D2 l).1 : Int) - 1), Vi ((D3 l).1 : Nat), Vi ((D4 l).1 : Nat), Vi ((D5 l).1 : Nat), Vi 0, .string ⟨#[]⟩] 24 (0, 0))] :: [(b10, .cells #[.string (bs l), Vi (((D6 l).2.1 : Nat)), Vi ((D6 l).2.2)] 40 (0, 0))] :: [(b2, .cells #[Vi 0, Vi 0, Vi 0, Vi 0, Vi 0, Vi 0, Vi 0, .string ⟨#[]⟩] 24 (0, 0))] :: cs) w17 := h17
  have hp6 : (D6 l).2.1 ≤ l.length := rdN_le _ hp5
  have hb6 : (D6 l).1 ≤ 1099511627776 := rdN_bnd _ _ _
  refine WL.v (Runs.fld fld24_6 rfl) rfl ?_
  refine WL.store' h17 0 rfl rfl rfl inf3 rfl rfl (Free.zero _) (Nat.le_of_ble_eq_true rfl) ?_
  intro  w18 h18
  try simp only [List.set_cons_zero, List.set_cons_succ, List.eraseIdx_cons_zero, List.eraseIdx_cons_succ] at h18
  replace h18 : St W F ([(b5, .cells #[Vi ((D0 l).1 : Nat), Vi (((D1 l).1 : Int) - 1), Vi (((D2 l).1 : Int) - 1), Vi ((D3 l).1 : Nat), Vi ((D4 l).1 : Nat), Vi ((D5 l).1 : Nat), Vi ((D6 l).1 : Nat), .string ⟨#[]⟩] 24 (0, 0))] :: [(b10, .cells #[.string (bs l), Vi (((D6 l).2.1 : Nat)), Vi ((D6 l).2.2)] 40 (0, 0))] :: [(b2, .cells #[Vi 0, Vi 0, Vi 0, Vi 0, Vi 0, Vi 0, Vi 0, .string ⟨#[]⟩] 24 (0, 0))] :: cs) w18 := h18
  refine WL.nil ?_
  refine WN.thn ?_
  refine WC.seq ?_
  refine WC.reg ?_
  refine WL.v (Runs.move rfl) rfl ?_
  refine WL.call can24 rfl rfl (qtext_c _ (p := (D6 l).2.1) (e := (D6 l).2.2) h18 (i := 1) rfl hl hp6) ?_
  rintro _ w19 ⟨rfl, h19⟩
  refine ⟨_, rfl, ?_⟩
  replace h19 : St W F ([(b5, .cells #[Vi ((D0 l).1 : Nat), Vi (((D1 l).1 : Int) - 1), Vi (((D2 l).1 : Int) - 1), Vi ((D3 l).1 : Nat), Vi ((D4 l).1 : Nat), Vi ((D5 l).1 : Nat), Vi ((D6 l).1 : Nat), .string ⟨#[]⟩] 24 (0, 0))] :: [(b10, .cells #[.string (bs l), Vi (((DT l).2.1 : Nat)), Vi ((DT l).2.2)] 40 (0, 0))] :: [(b2, .cells #[Vi 0, Vi 0, Vi 0, Vi 0, Vi 0, Vi 0, Vi 0, .string ⟨#[]⟩] 24 (0, 0))] :: cs) w19 := h19
  refine WL.v (Runs.fld fld24_7 rfl) rfl ?_
  refine WL.store' h19 0 rfl rfl rfl inf9 rfl rfl (Free.zero _) (Nat.le_of_ble_eq_true rfl) ?_
  intro  w20 h20
  try simp only [List.set_cons_zero, List.set_cons_succ, List.eraseIdx_cons_zero, List.eraseIdx_cons_succ] at h20
  replace h20 : St W F ([(b5, .cells #[Vi ((D0 l).1 : Nat), Vi (((D1 l).1 : Int) - 1), Vi (((D2 l).1 : Int) - 1), Vi ((D3 l).1 : Nat), Vi ((D4 l).1 : Nat), Vi ((D5 l).1 : Nat), Vi ((D6 l).1 : Nat), .string (bs (DT l).1)] 24 (0, 0))] :: [(b10, .cells #[.string (bs l), Vi (((DT l).2.1 : Nat)), Vi ((DT l).2.2)] 40 (0, 0))] :: [(b2, .cells #[Vi 0, Vi 0, Vi 0, Vi 0, Vi 0, Vi 0, Vi 0, .string ⟨#[]⟩] 24 (0, 0))] :: cs) w20 := h20
  refine WL.nil ?_
  refine WN.thn ?_
  refine WC.seq ?_
  refine WC.reg ?_
  refine WL.v (Runs.move rfl) rfl ?_
  refine WL.call can29 rfl rfl (qend_c _ (p := (DT l).2.1) (e := (DT l).2.2) h20 (i := 1) rfl) ?_
  rintro _ w21 ⟨rfl, h21⟩
  refine ⟨_, rfl, ?_⟩
  refine WL.v (Runs.move rfl) rfl ?_
  refine WL.v (Runs.extract rfl rfl) rfl ?_
  refine WL.v (Runs.extract rfl rfl) rfl ?_
  refine WL.v (Runs.assign rfl) rfl ?_
  refine WL.v (Runs.assign rfl) rfl ?_
  refine WL.nil ?_
  refine WN.thn ?_
  refine WC.seq ?_
  refine WC.seq ?_
  by_cases hde : decE l = 0
  · skip
    refine WC.reg ?_
    refine WL.v (Runs.move rfl) rfl ?_
    refine WL.v (Runs.boolT (c := false) (Runs.neq rfl rfl) (by show (!decide (decE l = 0)) = false; rw [decide_eq_true hde]; rfl)) rfl ?_
    refine WL.nil ?_
    refine WN.thn ?_
    refine WC.condF rfl (rfl) ?_
    refine WC.skip ?_
    refine WN.thn ?_
    refine WC.seq ?_
    refine WC.seq ?_
    by_cases hmy : mayM (decM l)
    · skip
      refine WC.reg ?_
      refine WL.v (Runs.loadAll h21 0 rfl Try.underlying24 rfl inf24 rfl rfl) rfl ?_
      refine WL.call can35 rfl rfl (rmay_c _ (decM l) h21) ?_
      rintro _ w22 ⟨rfl, h22⟩
      refine ⟨_, rfl, ?_⟩
      refine WL.v (Runs.not rfl) rfl ?_
      refine WL.nil ?_
      refine WN.thn ?_
      refine WC.condF rfl ((by rw [decide_eq_true hmy]; rfl)) ?_
      refine WC.skip ?_
      refine WN.thn ?_
      refine WC.seq ?_
      refine WC.reg ?_
      refine WL.v (Runs.loadAll h22 0 rfl Try.underlying24 rfl inf24 rfl rfl) rfl ?_
      refine WL.storeAll h22 2 rfl rfl rfl inf24 rfl rfl rfl (Free.zero _) ?_
      intro  w23 h23
      try simp only [List.set_cons_zero, List.set_cons_succ, List.eraseIdx_cons_zero, List.eraseIdx_cons_succ] at h23
      refine WL.v (Runs.assign rfl) rfl ?_
      refine WL.nil ?_
      refine WN.thn ?_
      refine WC.ret ?_
      exact retB rfl (v := .agg #[Vi ((D0 l).1 : Nat), Vi (((D1 l).1 : Int) - 1), Vi (((D2 l).1 : Int) - 1), Vi ((D3 l).1 : Nat), Vi ((D4 l).1 : Nat), Vi ((D5 l).1 : Nat), Vi ((D6 l).1 : Nat), .string (bs (DT l).1)]) ⟨_, rfl, run_loadVarA (vs := [Vi ((D0 l).1 : Nat), Vi (((D1 l).1 : Int) - 1), Vi (((D2 l).1 : Int) - 1), Vi ((D3 l).1 : Nat), Vi ((D4 l).1 : Nat), Vi ((D5 l).1 : Nat), Vi ((D6 l).1 : Nat), .string (bs (DT l).1)]) Try.underlying24 rfl inf24 rfl (fun j v hv => by rw [add_mk, Nat.zero_add]; exact h23.ocell (i := 2) rfl (by simpa using hv))⟩ (show lk _ _ = _ from rfl) ⟨by unfold decB; rw [if_neg (by rw [hde]; simp), if_pos hmy]; rfl, ((h23.drop 0).drop 0).drop 0⟩
    · skip
      refine WC.reg ?_
      refine WL.v (Runs.loadAll h21 0 rfl Try.underlying24 rfl inf24 rfl rfl) rfl ?_
      refine WL.call can35 rfl rfl (rmay_c _ (decM l) h21) ?_
      rintro _ w24 ⟨rfl, h24⟩
      refine ⟨_, rfl, ?_⟩
      refine WL.v (Runs.not rfl) rfl ?_
      refine WL.nil ?_
      refine WN.thn ?_
      refine WC.condT rfl ((by rw [decide_eq_false hmy]; rfl)) ?_
      refine WC.seq ?_
      refine WC.reg ?_
      refine WL.v (Runs.build (vs := []) (cells := #[Vi 0, Vi 0, Vi 0, Vi 0, Vi 0, Vi 0, Vi 0, .string ⟨#[]⟩]) rfl (by kernel_rfl)) rfl ?_
      refine WL.storeAll h24 2 rfl rfl rfl inf24 rfl rfl rfl (Free.zero _) ?_
      intro  w25 h25
      try simp only [List.set_cons_zero, List.set_cons_succ, List.eraseIdx_cons_zero, List.eraseIdx_cons_succ] at h25
      refine WL.v (Runs.assign rfl) rfl ?_
      refine WL.nil ?_
      refine WN.thn ?_
      refine WC.ret ?_
      exact retB rfl (v := .agg #[Vi 0, Vi 0, Vi 0, Vi 0, Vi 0, Vi 0, Vi 0, .string ⟨#[]⟩]) ⟨_, rfl, run_loadVarA (vs := [Vi 0, Vi 0, Vi 0, Vi 0, Vi 0, Vi 0, Vi 0, .string ⟨#[]⟩]) Try.underlying24 rfl inf24 rfl (fun j v hv => by rw [add_mk, Nat.zero_add]; exact h25.ocell (i := 2) rfl (by simpa using hv))⟩ (show lk _ _ = _ from rfl) ⟨by unfold decB; rw [if_neg (by rw [hde]; simp), if_neg hmy]; rfl, ((h25.drop 0).drop 0).drop 0⟩
  · skip
    refine WC.reg ?_
    refine WL.v (Runs.move rfl) rfl ?_
    refine WL.v (Runs.boolT (c := true) (Runs.neq rfl rfl) (by show (!decide (decE l = 0)) = true; rw [decide_eq_false hde]; rfl)) rfl ?_
    refine WL.nil ?_
    refine WN.thn ?_
    refine WC.condT rfl (rfl) ?_
    refine WC.seq ?_
    refine WC.reg ?_
    refine WL.v (Runs.build (vs := []) (cells := #[Vi 0, Vi 0, Vi 0, Vi 0, Vi 0, Vi 0, Vi 0, .string ⟨#[]⟩]) rfl (by kernel_rfl)) rfl ?_
    refine WL.v (Runs.move rfl) rfl ?_
    refine WL.storeAll h21 2 rfl rfl rfl inf24 rfl rfl rfl (Free.zero _) ?_
    intro  w26 h26
    try simp only [List.set_cons_zero, List.set_cons_succ, List.eraseIdx_cons_zero, List.eraseIdx_cons_succ] at h26
    refine WL.v (Runs.assign rfl) rfl ?_
    refine WL.nil ?_
    refine WN.thn ?_
    refine WC.ret ?_
    exact retB rfl (v := .agg #[Vi 0, Vi 0, Vi 0, Vi 0, Vi 0, Vi 0, Vi 0, .string ⟨#[]⟩]) ⟨_, rfl, run_loadVarA (vs := [Vi 0, Vi 0, Vi 0, Vi 0, Vi 0, Vi 0, Vi 0, .string ⟨#[]⟩]) Try.underlying24 rfl inf24 rfl (fun j v hv => by rw [add_mk, Nat.zero_add]; exact h26.ocell (i := 2) rfl (by simpa using hv))⟩ (show lk _ _ = _ from rfl) ⟨by unfold decB; rw [if_pos hde]; rfl, ((h26.drop 0).drop 0).drop 0⟩
set_option maxRecDepth 100000 in
set_option maxHeartbeats 4000000 in
theorem decodes_law {W : World} {F : Snap} {cs : List Res} (w : World) (l : List UInt8) (h : St W F cs w) : Calls Try.prog 4 #[.string (bs l)] w fun r w' => r = .returned (.bool true) ∧ St W F cs w'  := by
  refine enter (P := Try.prog) (args := [.string (bs l)]) Try.func4 rfl rfl rfl ?_
  refine WC.seq ?_
  refine WC.reg ?_
  refine WL.v (Runs.assign rfl) rfl ?_
  refine WL.nil ?_
  refine WN.thn ?_
  refine WC.seq ?_
  refine WC.seq ?_
  refine WC.reg ?_
  refine WL.v (Runs.move rfl) rfl ?_
  refine WL.v (Runs.intT (n := (l.length : Int)) (Runs.slen Try.underlying9 rfl rfl) rfl) rfl ?_
  refine WL.v (Runs.gtr rfl rfl) rfl ?_
  refine WL.nil ?_
  refine WN.thn ?_
  refine WC.cond rfl (fun c1 => ?_) (fun c1 => ?_)
  · try simp only [decide_eq_true_eq, decide_eq_false_iff_not, Bool.not_eq_true', Bool.not_eq_false', Bool.and_eq_true, Int.not_lt, Int.not_le] at c1
    first
    | (exfalso; omega)
    | skip
      refine WC.seq ?_
      refine WC.reg ?_
      refine WL.call can9 rfl rfl (live_c _ h) ?_
      rintro _ w2 ⟨rfl, h2⟩
      refine ⟨_, rfl, ?_⟩
      refine WL.v (Runs.assign rfl) rfl ?_
      refine WL.nil ?_
      refine WN.thn ?_
      refine WC.ret ?_
      exact ret1 rfl rfl ⟨rfl, h2⟩
  · try simp only [decide_eq_true_eq, decide_eq_false_iff_not, Bool.not_eq_true', Bool.not_eq_false', Bool.and_eq_true, Int.not_lt, Int.not_le] at c1
    first
    | (exfalso; omega)
    | skip
      refine WC.skip ?_
      refine WN.thn ?_
      refine WC.seq ?_
      refine WC.reg ?_
      refine WL.v (Runs.move rfl) rfl ?_
      refine WL.call can18 rfl rfl (dec_c _ l h (by omega)) ?_
      rintro _ w3 ⟨rfl, h3⟩
      refine ⟨_, rfl, ?_⟩
      refine WL.v (Runs.move rfl) rfl ?_
      refine WL.v (Runs.extract rfl rfl) rfl ?_
      refine WL.v (Runs.extract rfl rfl) rfl ?_
      refine WL.alloc' rfl h3 inf24 ?_
      intro b3 w4 h4
      refine WL.storeAll h4 0 rfl rfl rfl inf24 rfl rfl rfl (Free.zero _) ?_
      intro  w5 h5
      try simp only [List.set_cons_zero, List.set_cons_succ, List.eraseIdx_cons_zero, List.eraseIdx_cons_succ] at h5
      refine WL.v (Runs.assign rfl) rfl ?_
      refine WL.nil ?_
      refine WN.thn ?_
      refine WC.seq ?_
      refine WC.reg ?_
      refine WL.v (Runs.move rfl) rfl ?_
      refine WL.call can19 rfl rfl (qdec_c _ l h5 (by omega)) ?_
      rintro _ w6 ⟨rfl, h6⟩
      refine ⟨_, rfl, ?_⟩
      refine WL.v (Runs.move rfl) rfl ?_
      refine WL.v (Runs.extract rfl rfl) rfl ?_
      refine WL.v (Runs.extract rfl rfl) rfl ?_
      refine WL.alloc' rfl h6 inf24 ?_
      intro b5 w7 h7
      refine WL.storeAll h7 0 rfl rfl rfl inf24 rfl rfl rfl (Free.zero _) ?_
      intro  w8 h8
      try simp only [List.set_cons_zero, List.set_cons_succ, List.eraseIdx_cons_zero, List.eraseIdx_cons_succ] at h8
      refine WL.v (Runs.assign rfl) rfl ?_
      refine WL.nil ?_
      refine WN.thn ?_
      refine WC.seq ?_
      refine WC.reg ?_
      refine WL.v (Runs.loadAll h8 1 rfl Try.underlying24 rfl inf24 rfl rfl) rfl ?_
      refine WL.v (Runs.loadAll h8 0 rfl Try.underlying24 rfl inf24 rfl rfl) rfl ?_
      refine WL.v (Runs.boolT (c := true) (Runs.aeql (by kernel_rfl) rfl rfl (eqM _ (decB l).1 (decB l).1)) (eqM_t2 rfl)) rfl ?_
      refine WL.v (Runs.move rfl) rfl ?_
      refine WL.gon rfl rfl rfl ?_
      refine WL.v (Runs.move rfl) rfl ?_
      refine WL.gon rfl rfl rfl ?_
      refine WL.v (Runs.move rfl) rfl ?_
      refine WL.gon rfl rfl rfl ?_
      refine WL.v (Runs.boolT (c := true) (Runs.eql rfl rfl) (decide_eq_true rfl)) rfl ?_
      refine WL.v (Runs.pick rfl rfl rfl) rfl ?_
      refine WL.v (Runs.move rfl) rfl ?_
      refine WL.gon rfl rfl rfl ?_
      refine WL.call can9 rfl rfl (live_c _ h8) ?_
      rintro _ w9 ⟨rfl, h9⟩
      refine ⟨_, rfl, ?_⟩
      refine WL.v (Runs.pick rfl rfl rfl) rfl ?_
      refine WL.v (Runs.assign rfl) rfl ?_
      refine WL.nil ?_
      refine WN.thn ?_
      refine WC.ret ?_
      exact ret1 rfl rfl ⟨rfl, (h9.drop 0).drop 0⟩
end Wir
end Go.Proofs.Ytfiknofmniiehaa
