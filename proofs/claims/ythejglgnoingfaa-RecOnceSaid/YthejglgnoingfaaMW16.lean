/- Walks of the reference of chapter 02: readers. -/
import Derived.Test.YthejglgnoingfaaMW14
namespace Go.Proofs.Ythejglgnoingfaa
open Go Go.RowKit B
set_option linter.unusedVariables false
set_option linter.unusedSimpArgs false
namespace Wir

theorem fld82_0 : fldB Try.prog 82 0 0 = true := by kernel_rfl
theorem fld82_1 : fldB Try.prog 82 1 1 = true := by kernel_rfl
theorem fld82_2 : fldB Try.prog 82 2 2 = true := by kernel_rfl
theorem dig_at {l : List UInt8} {p k : Nat} (hk : k < szB l p) : (dig l p).getD k 0 = l.getD (p + 1 + k) 0 := by
  unfold dig
  rw [List.getD_eq_getElem?_getD, List.getElem?_take, if_pos hk, List.getElem?_drop, ← List.getD_eq_getElem?_getD]
set_option maxRecDepth 100000 in
set_option maxHeartbeats 4000000 in
theorem qnum_c {W : World} {F : Snap} {cs : List Res} (w : World) {i rb : Nat} {p : Nat} {l : List UInt8} {e : Int} (h : St W F cs w) (hi : cs[i]? = some [(rb, .cells #[.string (bs l), Vi p, Vi e] 82 (0, 0))]) (hl : l.length ≤ 100000) (hp : p ≤ l.length) : Calls Try.prog 37 #[.pointer (some ⟨rb, 0, none⟩)] w fun r w' => r = .returned (Vi ((rdN l p e).1 : Nat)) ∧ St W F (cs.set i [(rb, .cells #[.string (bs l), Vi ((rdN l p e).2.1 : Nat), Vi (rdN l p e).2.2] 82 (0, 0))]) w'  := by
  refine enter (P := Try.prog) (args := [.pointer (some ⟨rb, 0, none⟩)]) Try.func37 rfl rfl rfl ?_
  refine WC.seq (WC.reg ?_)
  refine WL.v (Runs.assign rfl) rfl ?_
  refine WL.nil (WN.thn (WC.seq (WC.seq ?_)))
  by_cases he0 : e = 0
  · skip
    refine WC.reg ?_
    refine WL.v (Runs.move rfl) rfl ?_
    refine WL.v (Runs.nilCheckP rfl) rfl ?_
    refine WL.v (Runs.fld fld82_2 rfl) rfl ?_
    refine WL.v (Runs.load1 Try.underlying26 rfl rfl (h.ocell hi rfl)) rfl ?_
    refine WL.v (Runs.boolT (c := false) (Runs.neq rfl rfl) (by rw [decide_eq_true he0]; rfl)) rfl ?_
    refine WL.nil (WN.thn ?_)
    refine WC.condF rfl (rfl) ?_
    refine WC.skip (WN.thn (WC.seq (WC.seq ?_)))
    have hcase : p = l.length ∨ p < l.length := by omega
    rcases hcase with hpe | hpl
    · skip
      refine WC.qreg (C := fun w_ => St W _ _ w_) mixed (by kernel_rfl) (h.drew) ?_
      refine WQ.val (fun w_ hC_ => Runs.move rfl) rfl ?_
      refine WQ.val (fun w_ hC_ => Runs.nilCheckP rfl) rfl ?_
      refine WQ.val (fun w_ hC_ => Runs.fld fld82_1 rfl) rfl ?_
      refine WQ.val (fun w_ hC_ => Runs.load1 Try.underlying3 rfl rfl (hC_.ocell hi rfl)) rfl ?_
      refine WQ.val (fun w_ hC_ => Runs.move rfl) rfl ?_
      refine WQ.val (fun w_ hC_ => Runs.nilCheckP rfl) rfl ?_
      refine WQ.val (fun w_ hC_ => Runs.fld fld82_0 rfl) rfl ?_
      refine WQ.val (fun w_ hC_ => Runs.load1 Try.underlying9 rfl rfl (hC_.ocell hi rfl)) rfl ?_
      refine WQ.val (fun w_ hC_ => Runs.intT (n := (l.length : Int)) (Runs.slen Try.underlying9 rfl rfl) rfl) rfl ?_
      refine WQ.val (fun w_ hC_ => Runs.boolT (c := true) (Runs.eql rfl rfl) (by rw [decide_eq_true_eq]; omega)) rfl ?_
      refine WQ.fin ?_
      intro w1 h1
      refine WN.thn ?_
      refine WC.condT rfl (rfl) ?_
      refine WC.seq (WC.reg ?_)
      refine WL.v (Runs.move rfl) rfl ?_
      refine WL.v (Runs.nilCheckP rfl) rfl ?_
      refine WL.v (Runs.fld fld82_2 rfl) rfl ?_
      refine WL.store' h1 i hi rfl rfl inf26 rfl rfl (Free.zero _) (Nat.le_of_ble_eq_true rfl) ?_
      intro  w2 h2
      try simp only [lz, ls, ez, es'] at h2
      refine WL.nil (WN.thn (WC.seq (WC.reg ?_)))
      refine WL.v (Runs.assign rfl) rfl ?_
      refine WL.nil (WN.thn (WC.ret ?_))
      have he2 : rerr l p = 2 := by unfold rerr; rw [if_pos (by omega)]
      have e1 : rdN l p e = (0, p, 2) := by unfold rdN; rw [if_neg (by rw [he0]; simp), if_neg (by rw [he2]; decide), he2]
      rw [e1]
      exact ret1 rfl rfl ⟨rfl, h2⟩
    · skip
      refine WC.qreg (C := fun w_ => St W _ _ w_) mixed (by kernel_rfl) (h.drew) ?_
      refine WQ.val (fun w_ hC_ => Runs.move rfl) rfl ?_
      refine WQ.val (fun w_ hC_ => Runs.nilCheckP rfl) rfl ?_
      refine WQ.val (fun w_ hC_ => Runs.fld fld82_1 rfl) rfl ?_
      refine WQ.val (fun w_ hC_ => Runs.load1 Try.underlying3 rfl rfl (hC_.ocell hi rfl)) rfl ?_
      refine WQ.val (fun w_ hC_ => Runs.move rfl) rfl ?_
      refine WQ.val (fun w_ hC_ => Runs.nilCheckP rfl) rfl ?_
      refine WQ.val (fun w_ hC_ => Runs.fld fld82_0 rfl) rfl ?_
      refine WQ.val (fun w_ hC_ => Runs.load1 Try.underlying9 rfl rfl (hC_.ocell hi rfl)) rfl ?_
      refine WQ.val (fun w_ hC_ => Runs.intT (n := (l.length : Int)) (Runs.slen Try.underlying9 rfl rfl) rfl) rfl ?_
      refine WQ.val (fun w_ hC_ => Runs.boolT (c := false) (Runs.eql rfl rfl) (by rw [decide_eq_false_iff_not]; omega)) rfl ?_
      refine WQ.fin ?_
      intro w3 h3
      refine WN.thn ?_
      refine WC.condF rfl (rfl) ?_
      refine WC.skip (WN.thn (WC.seq ?_))
      refine WC.qreg (C := fun w_ => St W _ _ w_) mixed (by kernel_rfl) (h3.drew) ?_
      refine WQ.val (fun w_ hC_ => Runs.move rfl) rfl ?_
      refine WQ.val (fun w_ hC_ => Runs.nilCheckP rfl) rfl ?_
      refine WQ.val (fun w_ hC_ => Runs.fld fld82_0 rfl) rfl ?_
      refine WQ.val (fun w_ hC_ => Runs.load1 Try.underlying9 rfl rfl (hC_.ocell hi rfl)) rfl ?_
      refine WQ.val (fun w_ hC_ => Runs.move rfl) rfl ?_
      refine WQ.val (fun w_ hC_ => Runs.nilCheckP rfl) rfl ?_
      refine WQ.val (fun w_ hC_ => Runs.fld fld82_1 rfl) rfl ?_
      refine WQ.val (fun w_ hC_ => Runs.load1 Try.underlying3 rfl rfl (hC_.ocell hi rfl)) rfl ?_
      refine WQ.val (fun w_ hC_ => Runs.lsidx Try.underlying9 rfl rfl (n := p) rfl (by omega)) rfl ?_
      refine WQ.val (fun w_ hC_ => Runs.intT (n := (szB l p : Int)) (Runs.u8toI Try.underlying5 Try.underlying3 rfl) rfl) rfl ?_
      refine WQ.val (fun w_ hC_ => Runs.assign rfl) rfl ?_
      refine WQ.fin ?_
      intro w4 h4
      refine WN.thn (WC.seq (WC.seq ?_))
      have hcase : 6 < szB l p ∨ szB l p ≤ 6 := by omega
      rcases hcase with hs6 | hs6
      · skip
        refine WC.reg ?_
        refine WL.v (Runs.move rfl) rfl ?_
        refine WL.v (Runs.boolT (c := true) (Runs.gtr rfl rfl) (by rw [decide_eq_true_eq]; omega)) rfl ?_
        refine WL.nil (WN.thn ?_)
        refine WC.condT rfl (rfl) ?_
        refine WC.seq (WC.reg ?_)
        refine WL.v (Runs.move rfl) rfl ?_
        refine WL.v (Runs.nilCheckP rfl) rfl ?_
        refine WL.v (Runs.fld fld82_2 rfl) rfl ?_
        refine WL.store' h4 i hi rfl rfl inf26 rfl rfl (Free.zero _) (Nat.le_of_ble_eq_true rfl) ?_
        intro  w5 h5
        try simp only [lz, ls, ez, es'] at h5
        refine WL.nil (WN.thn (WC.seq (WC.reg ?_)))
        refine WL.v (Runs.assign rfl) rfl ?_
        refine WL.nil (WN.thn (WC.ret ?_))
        have he2 : rerr l p = 3 := by unfold rerr; rw [if_neg (by omega), if_pos hs6]
        have e1 : rdN l p e = (0, p, 3) := by unfold rdN; rw [if_neg (by rw [he0]; simp), if_neg (by rw [he2]; decide), he2]
        rw [e1]
        exact ret1 rfl rfl ⟨rfl, h5⟩
      · skip
        refine WC.reg ?_
        refine WL.v (Runs.move rfl) rfl ?_
        refine WL.v (Runs.boolT (c := false) (Runs.gtr rfl rfl) (by rw [decide_eq_false_iff_not]; omega)) rfl ?_
        refine WL.nil (WN.thn ?_)
        refine WC.condF rfl (rfl) ?_
        refine WC.skip (WN.thn (WC.seq (WC.seq ?_)))
        have hcase : l.length < p + 1 + szB l p ∨ p + 1 + szB l p ≤ l.length := by omega
        rcases hcase with hse | hsl
        · skip
          refine WC.qreg (C := fun w_ => St W _ _ w_) mixed (by kernel_rfl) (h4.drew) ?_
          refine WQ.val (fun w_ hC_ => Runs.move rfl) rfl ?_
          refine WQ.val (fun w_ hC_ => Runs.nilCheckP rfl) rfl ?_
          refine WQ.val (fun w_ hC_ => Runs.fld fld82_1 rfl) rfl ?_
          refine WQ.val (fun w_ hC_ => Runs.load1 Try.underlying3 rfl rfl (hC_.ocell hi rfl)) rfl ?_
          refine WQ.val (fun w_ hC_ => Runs.addn rfl rfl (by omega)) rfl ?_
          refine WQ.val (fun w_ hC_ => Runs.move rfl) rfl ?_
          refine WQ.val (fun w_ hC_ => Runs.addn rfl rfl (by omega)) rfl ?_
          refine WQ.val (fun w_ hC_ => Runs.move rfl) rfl ?_
          refine WQ.val (fun w_ hC_ => Runs.nilCheckP rfl) rfl ?_
          refine WQ.val (fun w_ hC_ => Runs.fld fld82_0 rfl) rfl ?_
          refine WQ.val (fun w_ hC_ => Runs.load1 Try.underlying9 rfl rfl (hC_.ocell hi rfl)) rfl ?_
          refine WQ.val (fun w_ hC_ => Runs.intT (n := (l.length : Int)) (Runs.slen Try.underlying9 rfl rfl) rfl) rfl ?_
          refine WQ.val (fun w_ hC_ => Runs.boolT (c := true) (Runs.gtr rfl rfl) (by rw [decide_eq_true_eq]; omega)) rfl ?_
          refine WQ.fin ?_
          intro w6 h6
          refine WN.thn ?_
          refine WC.condT rfl (rfl) ?_
          refine WC.seq (WC.reg ?_)
          refine WL.v (Runs.move rfl) rfl ?_
          refine WL.v (Runs.nilCheckP rfl) rfl ?_
          refine WL.v (Runs.fld fld82_2 rfl) rfl ?_
          refine WL.store' h6 i hi rfl rfl inf26 rfl rfl (Free.zero _) (Nat.le_of_ble_eq_true rfl) ?_
          intro  w7 h7
          try simp only [lz, ls, ez, es'] at h7
          refine WL.nil (WN.thn (WC.seq (WC.reg ?_)))
          refine WL.v (Runs.assign rfl) rfl ?_
          refine WL.nil (WN.thn (WC.ret ?_))
          have he2 : rerr l p = 2 := by unfold rerr; rw [if_neg (by omega), if_neg (by omega), if_pos hse]
          have e1 : rdN l p e = (0, p, 2) := by unfold rdN; rw [if_neg (by rw [he0]; simp), if_neg (by rw [he2]; decide), he2]
          rw [e1]
          exact ret1 rfl rfl ⟨rfl, h7⟩
        · have hdl := dig_len hsl
          refine WC.qreg (C := fun w_ => St W _ _ w_) mixed (by kernel_rfl) (h4.drew) ?_
          refine WQ.val (fun w_ hC_ => Runs.move rfl) rfl ?_
          refine WQ.val (fun w_ hC_ => Runs.nilCheckP rfl) rfl ?_
          refine WQ.val (fun w_ hC_ => Runs.fld fld82_1 rfl) rfl ?_
          refine WQ.val (fun w_ hC_ => Runs.load1 Try.underlying3 rfl rfl (hC_.ocell hi rfl)) rfl ?_
          refine WQ.val (fun w_ hC_ => Runs.addn rfl rfl (by omega)) rfl ?_
          refine WQ.val (fun w_ hC_ => Runs.move rfl) rfl ?_
          refine WQ.val (fun w_ hC_ => Runs.addn rfl rfl (by omega)) rfl ?_
          refine WQ.val (fun w_ hC_ => Runs.move rfl) rfl ?_
          refine WQ.val (fun w_ hC_ => Runs.nilCheckP rfl) rfl ?_
          refine WQ.val (fun w_ hC_ => Runs.fld fld82_0 rfl) rfl ?_
          refine WQ.val (fun w_ hC_ => Runs.load1 Try.underlying9 rfl rfl (hC_.ocell hi rfl)) rfl ?_
          refine WQ.val (fun w_ hC_ => Runs.intT (n := (l.length : Int)) (Runs.slen Try.underlying9 rfl rfl) rfl) rfl ?_
          refine WQ.val (fun w_ hC_ => Runs.boolT (c := false) (Runs.gtr rfl rfl) (by rw [decide_eq_false_iff_not]; omega)) rfl ?_
          refine WQ.fin ?_
          intro w8 h8
          refine WN.thn ?_
          refine WC.condF rfl (rfl) ?_
          refine WC.skip (WN.thn (WC.seq (WC.reg ?_)))
          refine WL.v (Runs.assign rfl) rfl ?_
          refine WL.nil (WN.thn (WC.seq (WC.seq (WC.reg ?_))))
          refine WL.v (Runs.assign rfl) rfl ?_
          refine WL.nil (WN.thn (WC.block ?_))
          refine WC.loop (σ := Nat) (fun q_ => [(0, .pointer (some ⟨rb, 0, none⟩)), (3, .int .i64 (szB l p : Int)), (4, .int .i64 (valN ((dig l p).take q_) : Int)), (5, .int .i64 (q_ : Int))]) (fun q_ w => q_ ≤ szB l p ∧ St W F cs w) (fun q_ => szB l p - q_) (0) (by repeat (first | exact trivial | refine ⟨rfl, ?_⟩)) (⟨by omega, h8⟩) ?_
          rintro k w9 ⟨hk, hL⟩
          try dsimp only at hk hL
          refine WC.sub (s := [(0, .pointer (some ⟨rb, 0, none⟩)), (3, .int .i64 (szB l p : Int)), (4, .int .i64 (valN ((dig l p).take k) : Int)), (5, .int .i64 (k : Int))]) (by repeat (first | exact trivial | refine ⟨rfl, ?_⟩)) ?_
          have hvl := valN_lt ((dig l p).take k)
          rw [List.length_take, Nat.min_eq_left (by omega)] at hvl
          have hpw := pow_le (n := k) (by omega)
          refine WC.seq (WC.seq (WC.reg ?_))
          refine WL.v (Runs.move rfl) rfl ?_
          refine WL.v (Runs.move rfl) rfl ?_
          refine WL.v (Runs.lss rfl rfl) rfl ?_
          refine WL.nil (WN.thn ?_)
          refine WC.cond rfl (fun c10 => ?_) (fun c10 => ?_)
          · try simp only [dt, df, nt, nf, ba, il, ie] at c10
            first
            | (exfalso; omega)
            | skip
              refine WC.skip (WN.thn (WC.seq (WC.block ?_)))
              refine WC.qreg (C := fun w_ => St W _ _ w_) mixed (by kernel_rfl) (hL.drew) ?_
              refine WQ.val (fun w_ hC_ => Runs.move rfl) rfl ?_
              refine WQ.val (fun w_ hC_ => Runs.intT (n := ((256 * valN ((dig l p).take k) : Nat) : Int)) (Runs.muln rfl rfl (by omega)) (by omega)) rfl ?_
              refine WQ.val (fun w_ hC_ => Runs.move rfl) rfl ?_
              refine WQ.val (fun w_ hC_ => Runs.nilCheckP rfl) rfl ?_
              refine WQ.val (fun w_ hC_ => Runs.fld fld82_0 rfl) rfl ?_
              refine WQ.val (fun w_ hC_ => Runs.load1 Try.underlying9 rfl rfl (hC_.ocell hi rfl)) rfl ?_
              refine WQ.val (fun w_ hC_ => Runs.move rfl) rfl ?_
              refine WQ.val (fun w_ hC_ => Runs.nilCheckP rfl) rfl ?_
              refine WQ.val (fun w_ hC_ => Runs.fld fld82_1 rfl) rfl ?_
              refine WQ.val (fun w_ hC_ => Runs.load1 Try.underlying3 rfl rfl (hC_.ocell hi rfl)) rfl ?_
              refine WQ.val (fun w_ hC_ => Runs.addn rfl rfl (by omega)) rfl ?_
              refine WQ.val (fun w_ hC_ => Runs.move rfl) rfl ?_
              refine WQ.val (fun w_ hC_ => Runs.addn rfl rfl (by omega)) rfl ?_
              refine WQ.val (fun w_ hC_ => Runs.valT (u := V8 ((dig l p).getD k 0)) (Runs.lsidx Try.underlying9 rfl rfl (n := p + 1 + k) (by omega) (by omega)) (by rw [dig_at (by omega)])) rfl ?_
              refine WQ.val (fun w_ hC_ => Runs.u8toI Try.underlying5 Try.underlying3 rfl) rfl ?_
              refine WQ.val (fun w_ hC_ => Runs.intT (n := ((256 * valN ((dig l p).take k) + ((dig l p).getD k 0).toNat : Nat) : Int)) (Runs.addn rfl rfl (by have := ((dig l p).getD k 0).toNat_lt; omega)) (by omega)) rfl ?_
              refine WQ.val (fun w_ hC_ => Runs.assign rfl) rfl ?_
              refine WQ.fin ?_
              intro w11 h11
              refine WN.blk (WN.thn (WC.reg ?_))
              refine WL.v (Runs.move rfl) rfl ?_
              refine WL.v (Runs.addn rfl rfl (by omega)) rfl ?_
              refine WL.v (Runs.assign rfl) rfl ?_
              refine WL.nil ?_
              refine WN.again (k + 1) (by omega) ⟨rfl, rfl, ?_, rfl, trivial⟩ ⟨by omega, h11⟩
              show _ = some (Value.int .i64 (valN ((dig l p).take (k + 1)) : Int))
              rw [take_one (by omega), valN_snoc]
              rfl
          · try simp only [dt, df, nt, nf, ba, il, ie] at c10
            first
            | (exfalso; omega)
            | skip
              refine WC.exit (WX.thn (WX.cut (WX.hit (WN.thn (WC.seq ?_)))))
              refine WC.seq ?_
              obtain rfl : k = szB l p := by omega
              rw [show (dig l p).take (szB l p) = dig l p from List.take_of_length_le (by omega)] at *
              have hcase : 1099511627776 < valN (dig l p) ∨ (valN (dig l p) ≤ 1099511627776 ∧ szB l p = 0) ∨ (valN (dig l p) ≤ 1099511627776 ∧ 0 < szB l p ∧ (dig l p).getD 0 0 = 0) ∨ (valN (dig l p) ≤ 1099511627776 ∧ 0 < szB l p ∧ ¬ (dig l p).getD 0 0 = 0) := by
                rcases cases11 (szB l p) (valN (dig l p)) 1099511627776 ((dig l p).getD 0 0 = 0) with h1 | ⟨h1, h2⟩ | ⟨h1, h2, h3⟩ | ⟨h1, h2, h3⟩
                · rcases Nat.lt_or_ge 1099511627776 (valN (dig l p)) with h4 | h4
                  · exact .inl h4
                  · exact .inr (.inl ⟨h4, h1⟩)
                · rcases Nat.lt_or_ge 1099511627776 (valN (dig l p)) with h4 | h4
                  · exact .inl h4
                  · exact .inr (.inr (.inl ⟨h4, h1, h2⟩))
                · exact .inl h3
                · exact .inr (.inr (.inr ⟨h3, h1, h2⟩))
              rcases hcase with y1 | ⟨y1, y2⟩ | ⟨y1, y2, y3⟩ | ⟨y1, y2, y3⟩
              · skip
                refine WC.qreg (C := fun w_ => St W _ _ w_) mixed (by kernel_rfl) (hL.drew) ?_
                refine WQ.val (fun w_ hC_ => Runs.move rfl) rfl ?_
                refine WQ.val (fun w_ hC_ => Runs.boolT (c := true) (Runs.gtr rfl rfl) (by rw [decide_eq_true_eq]; omega)) rfl ?_
                refine WQ.val (fun w_ hC_ => Runs.move rfl) rfl ?_
                refine WQ.goff rfl rfl rfl rfl ?_
                refine WQ.goff rfl rfl rfl rfl ?_
                refine WQ.goff rfl rfl rfl rfl ?_
                refine WQ.goffU rfl rfl rfl ?_
                refine WQ.goffU rfl rfl rfl ?_
                refine WQ.goffU rfl rfl rfl ?_
                refine WQ.goffU rfl rfl rfl ?_
                refine WQ.goffU rfl rfl rfl ?_
                refine WQ.goffU rfl rfl rfl ?_
                refine WQ.goffU rfl rfl rfl ?_
                refine WQ.goffU rfl rfl rfl ?_
                refine WQ.goffU rfl rfl rfl ?_
                refine WQ.goffU rfl rfl rfl ?_
                refine WQ.goffU rfl rfl rfl ?_
                refine WQ.goff rfl rfl rfl rfl ?_
                refine WQ.val (fun w_ hC_ => Runs.pick rfl rfl rfl) rfl ?_
                refine WQ.fin ?_
                intro w12 h12
                refine WN.thn ?_
                refine WC.condT rfl (rfl) ?_
                refine WC.seq (WC.reg ?_)
                refine WL.v (Runs.move rfl) rfl ?_
                refine WL.v (Runs.nilCheckP rfl) rfl ?_
                refine WL.v (Runs.fld fld82_2 rfl) rfl ?_
                refine WL.store' h12 i hi rfl rfl inf26 rfl rfl (Free.zero _) (Nat.le_of_ble_eq_true rfl) ?_
                intro  w13 h13
                try simp only [lz, ls, ez, es'] at h13
                refine WL.nil (WN.thn (WC.seq (WC.reg ?_)))
                refine WL.v (Runs.assign rfl) rfl ?_
                refine WL.nil (WN.thn (WC.ret ?_))
                have he2 : rerr l p = 3 := by unfold rerr; rw [if_neg (by omega), if_neg (by omega), if_neg (by omega), if_pos (.inl y1)]
                have e1 : rdN l p e = (0, p, 3) := by unfold rdN; rw [if_neg (by rw [he0]; simp), if_neg (by rw [he2]; decide), he2]
                rw [e1]
                exact ret1 rfl rfl ⟨rfl, h13⟩
              · skip
                refine WC.qreg (C := fun w_ => St W _ _ w_) mixed (by kernel_rfl) (hL.drew) ?_
                refine WQ.val (fun w_ hC_ => Runs.move rfl) rfl ?_
                refine WQ.val (fun w_ hC_ => Runs.boolT (c := false) (Runs.gtr rfl rfl) (by rw [decide_eq_false_iff_not]; omega)) rfl ?_
                refine WQ.val (fun w_ hC_ => Runs.move rfl) rfl ?_
                refine WQ.gon rfl rfl rfl ?_
                refine WQ.val (fun w_ hC_ => Runs.move rfl) rfl ?_
                refine WQ.gon rfl rfl rfl ?_
                refine WQ.val (fun w_ hC_ => Runs.boolT (c := false) (Runs.gtr rfl rfl) (by rw [decide_eq_false_iff_not]; omega)) rfl ?_
                refine WQ.gon rfl rfl rfl ?_
                refine WQ.val (fun w_ hC_ => Runs.move rfl) rfl ?_
                refine WQ.goff rfl rfl rfl rfl ?_
                refine WQ.goff rfl rfl rfl rfl ?_
                refine WQ.goff rfl rfl rfl rfl ?_
                refine WQ.goff rfl rfl rfl rfl ?_
                refine WQ.goff rfl rfl rfl rfl ?_
                refine WQ.goff rfl rfl rfl rfl ?_
                refine WQ.goff rfl rfl rfl rfl ?_
                refine WQ.goff rfl rfl rfl rfl ?_
                refine WQ.goff rfl rfl rfl rfl ?_
                refine WQ.goff rfl rfl rfl rfl ?_
                refine WQ.goff rfl rfl rfl rfl ?_
                refine WQ.gon rfl rfl rfl ?_
                refine WQ.val (fun w_ hC_ => Runs.pick rfl rfl rfl) rfl ?_
                refine WQ.val (fun w_ hC_ => Runs.pick rfl rfl rfl) rfl ?_
                refine WQ.fin ?_
                intro w14 h14
                refine WN.thn ?_
                refine WC.condF rfl (rfl) ?_
                refine WC.skip (WN.thn (WC.seq (WC.reg ?_)))
                refine WL.v (Runs.move rfl) rfl ?_
                refine WL.v (Runs.move rfl) rfl ?_
                refine WL.v (Runs.nilCheckP rfl) rfl ?_
                refine WL.v (Runs.fld fld82_1 rfl) rfl ?_
                refine WL.v (Runs.load1 Try.underlying3 rfl rfl (h14.ocell hi rfl)) rfl ?_
                refine WL.v (Runs.addn rfl rfl (by omega)) rfl ?_
                refine WL.v (Runs.move rfl) rfl ?_
                refine WL.v (Runs.addn rfl rfl (by omega)) rfl ?_
                refine WL.v (Runs.nilCheckP rfl) rfl ?_
                refine WL.v (Runs.fld fld82_1 rfl) rfl ?_
                refine WL.store' h14 i hi rfl rfl inf3 rfl rfl (Free.zero _) (Nat.le_of_ble_eq_true rfl) ?_
                intro  w15 h15
                try simp only [lz, ls, ez, es'] at h15
                refine WL.nil (WN.thn (WC.seq (WC.reg ?_)))
                refine WL.v (Runs.move rfl) rfl ?_
                refine WL.v (Runs.assign rfl) rfl ?_
                refine WL.nil (WN.thn (WC.ret ?_))
                have he2 : rerr l p = 0 := by
                  unfold rerr
                  rw [if_neg (by omega), if_neg (by omega), if_neg (by omega), if_neg]
                  rintro (h4 | ⟨h4, h5⟩)
                  · omega
                  · first | omega | exact absurd h5 y3
                have e1 : rdN l p e = (rval l p, rnx l p, 0) := by unfold rdN; rw [if_neg (by rw [he0]; simp), if_pos he2]
                rw [e1]
                subst he0
                exact ret1 rfl rfl ⟨rfl, h15⟩
              · skip
                refine WC.qreg (C := fun w_ => St W _ _ w_) mixed (by kernel_rfl) (hL.drew) ?_
                refine WQ.val (fun w_ hC_ => Runs.move rfl) rfl ?_
                refine WQ.val (fun w_ hC_ => Runs.boolT (c := false) (Runs.gtr rfl rfl) (by rw [decide_eq_false_iff_not]; omega)) rfl ?_
                refine WQ.val (fun w_ hC_ => Runs.move rfl) rfl ?_
                refine WQ.gon rfl rfl rfl ?_
                refine WQ.val (fun w_ hC_ => Runs.move rfl) rfl ?_
                refine WQ.gon rfl rfl rfl ?_
                refine WQ.val (fun w_ hC_ => Runs.boolT (c := true) (Runs.gtr rfl rfl) (by rw [decide_eq_true_eq]; omega)) rfl ?_
                refine WQ.gon rfl rfl rfl ?_
                refine WQ.val (fun w_ hC_ => Runs.move rfl) rfl ?_
                refine WQ.gon rfl rfl rfl ?_
                refine WQ.val (fun w_ hC_ => Runs.move rfl) rfl ?_
                refine WQ.gon rfl rfl rfl ?_
                refine WQ.val (fun w_ hC_ => Runs.nilCheckP rfl) rfl ?_
                refine WQ.gon rfl rfl rfl ?_
                refine WQ.val (fun w_ hC_ => Runs.fld fld82_0 rfl) rfl ?_
                refine WQ.gon rfl rfl rfl ?_
                refine WQ.val (fun w_ hC_ => Runs.load1 Try.underlying9 rfl rfl (hC_.ocell hi rfl)) rfl ?_
                refine WQ.gon rfl rfl rfl ?_
                refine WQ.val (fun w_ hC_ => Runs.move rfl) rfl ?_
                refine WQ.gon rfl rfl rfl ?_
                refine WQ.val (fun w_ hC_ => Runs.nilCheckP rfl) rfl ?_
                refine WQ.gon rfl rfl rfl ?_
                refine WQ.val (fun w_ hC_ => Runs.fld fld82_1 rfl) rfl ?_
                refine WQ.gon rfl rfl rfl ?_
                refine WQ.val (fun w_ hC_ => Runs.load1 Try.underlying3 rfl rfl (hC_.ocell hi rfl)) rfl ?_
                refine WQ.gon rfl rfl rfl ?_
                refine WQ.val (fun w_ hC_ => Runs.addn rfl rfl (by omega)) rfl ?_
                refine WQ.gon rfl rfl rfl ?_
                refine WQ.val (fun w_ hC_ => Runs.valT (u := V8 ((dig l p).getD 0 0)) (Runs.lsidx Try.underlying9 rfl rfl (n := p + 1) (by omega) (by omega)) (by rw [dig_at (by omega)])) rfl ?_
                refine WQ.gon rfl rfl rfl ?_
                refine WQ.val (fun w_ hC_ => Runs.boolT (c := true) (Runs.eql rfl rfl) (by rw [y3]; rfl)) rfl ?_
                refine WQ.gon rfl rfl rfl ?_
                refine WQ.val (fun w_ hC_ => Runs.pick rfl rfl rfl) rfl ?_
                refine WQ.val (fun w_ hC_ => Runs.pick rfl rfl rfl) rfl ?_
                refine WQ.fin ?_
                intro w16 h16
                refine WN.thn ?_
                refine WC.condT rfl (rfl) ?_
                refine WC.seq (WC.reg ?_)
                refine WL.v (Runs.move rfl) rfl ?_
                refine WL.v (Runs.nilCheckP rfl) rfl ?_
                refine WL.v (Runs.fld fld82_2 rfl) rfl ?_
                refine WL.store' h16 i hi rfl rfl inf26 rfl rfl (Free.zero _) (Nat.le_of_ble_eq_true rfl) ?_
                intro  w17 h17
                try simp only [lz, ls, ez, es'] at h17
                refine WL.nil (WN.thn (WC.seq (WC.reg ?_)))
                refine WL.v (Runs.assign rfl) rfl ?_
                refine WL.nil (WN.thn (WC.ret ?_))
                have he2 : rerr l p = 3 := by unfold rerr; rw [if_neg (by omega), if_neg (by omega), if_neg (by omega), if_pos (.inr ⟨y2, y3⟩)]
                have e1 : rdN l p e = (0, p, 3) := by unfold rdN; rw [if_neg (by rw [he0]; simp), if_neg (by rw [he2]; decide), he2]
                rw [e1]
                exact ret1 rfl rfl ⟨rfl, h17⟩
              · have y4 := u8_ne y3
                refine WC.qreg (C := fun w_ => St W _ _ w_) mixed (by kernel_rfl) (hL.drew) ?_
                refine WQ.val (fun w_ hC_ => Runs.move rfl) rfl ?_
                refine WQ.val (fun w_ hC_ => Runs.boolT (c := false) (Runs.gtr rfl rfl) (by rw [decide_eq_false_iff_not]; omega)) rfl ?_
                refine WQ.val (fun w_ hC_ => Runs.move rfl) rfl ?_
                refine WQ.gon rfl rfl rfl ?_
                refine WQ.val (fun w_ hC_ => Runs.move rfl) rfl ?_
                refine WQ.gon rfl rfl rfl ?_
                refine WQ.val (fun w_ hC_ => Runs.boolT (c := true) (Runs.gtr rfl rfl) (by rw [decide_eq_true_eq]; omega)) rfl ?_
                refine WQ.gon rfl rfl rfl ?_
                refine WQ.val (fun w_ hC_ => Runs.move rfl) rfl ?_
                refine WQ.gon rfl rfl rfl ?_
                refine WQ.val (fun w_ hC_ => Runs.move rfl) rfl ?_
                refine WQ.gon rfl rfl rfl ?_
                refine WQ.val (fun w_ hC_ => Runs.nilCheckP rfl) rfl ?_
                refine WQ.gon rfl rfl rfl ?_
                refine WQ.val (fun w_ hC_ => Runs.fld fld82_0 rfl) rfl ?_
                refine WQ.gon rfl rfl rfl ?_
                refine WQ.val (fun w_ hC_ => Runs.load1 Try.underlying9 rfl rfl (hC_.ocell hi rfl)) rfl ?_
                refine WQ.gon rfl rfl rfl ?_
                refine WQ.val (fun w_ hC_ => Runs.move rfl) rfl ?_
                refine WQ.gon rfl rfl rfl ?_
                refine WQ.val (fun w_ hC_ => Runs.nilCheckP rfl) rfl ?_
                refine WQ.gon rfl rfl rfl ?_
                refine WQ.val (fun w_ hC_ => Runs.fld fld82_1 rfl) rfl ?_
                refine WQ.gon rfl rfl rfl ?_
                refine WQ.val (fun w_ hC_ => Runs.load1 Try.underlying3 rfl rfl (hC_.ocell hi rfl)) rfl ?_
                refine WQ.gon rfl rfl rfl ?_
                refine WQ.val (fun w_ hC_ => Runs.addn rfl rfl (by omega)) rfl ?_
                refine WQ.gon rfl rfl rfl ?_
                refine WQ.val (fun w_ hC_ => Runs.valT (u := V8 ((dig l p).getD 0 0)) (Runs.lsidx Try.underlying9 rfl rfl (n := p + 1) (by omega) (by omega)) (by rw [dig_at (by omega)])) rfl ?_
                refine WQ.gon rfl rfl rfl ?_
                refine WQ.val (fun w_ hC_ => Runs.boolT (c := false) (Runs.eql rfl rfl) (decide_eq_false y4)) rfl ?_
                refine WQ.gon rfl rfl rfl ?_
                refine WQ.val (fun w_ hC_ => Runs.pick rfl rfl rfl) rfl ?_
                refine WQ.val (fun w_ hC_ => Runs.pick rfl rfl rfl) rfl ?_
                refine WQ.fin ?_
                intro w18 h18
                refine WN.thn ?_
                refine WC.condF rfl (rfl) ?_
                refine WC.skip (WN.thn (WC.seq (WC.reg ?_)))
                refine WL.v (Runs.move rfl) rfl ?_
                refine WL.v (Runs.move rfl) rfl ?_
                refine WL.v (Runs.nilCheckP rfl) rfl ?_
                refine WL.v (Runs.fld fld82_1 rfl) rfl ?_
                refine WL.v (Runs.load1 Try.underlying3 rfl rfl (h18.ocell hi rfl)) rfl ?_
                refine WL.v (Runs.addn rfl rfl (by omega)) rfl ?_
                refine WL.v (Runs.move rfl) rfl ?_
                refine WL.v (Runs.addn rfl rfl (by omega)) rfl ?_
                refine WL.v (Runs.nilCheckP rfl) rfl ?_
                refine WL.v (Runs.fld fld82_1 rfl) rfl ?_
                refine WL.store' h18 i hi rfl rfl inf3 rfl rfl (Free.zero _) (Nat.le_of_ble_eq_true rfl) ?_
                intro  w19 h19
                try simp only [lz, ls, ez, es'] at h19
                refine WL.nil (WN.thn (WC.seq (WC.reg ?_)))
                refine WL.v (Runs.move rfl) rfl ?_
                refine WL.v (Runs.assign rfl) rfl ?_
                refine WL.nil (WN.thn (WC.ret ?_))
                have he2 : rerr l p = 0 := by
                  unfold rerr
                  rw [if_neg (by omega), if_neg (by omega), if_neg (by omega), if_neg]
                  rintro (h4 | ⟨h4, h5⟩)
                  · omega
                  · first | omega | exact absurd h5 y3
                have e1 : rdN l p e = (rval l p, rnx l p, 0) := by unfold rdN; rw [if_neg (by rw [he0]; simp), if_pos he2]
                rw [e1]
                subst he0
                exact ret1 rfl rfl ⟨rfl, h19⟩
  · skip
    refine WC.reg ?_
    refine WL.v (Runs.move rfl) rfl ?_
    refine WL.v (Runs.nilCheckP rfl) rfl ?_
    refine WL.v (Runs.fld fld82_2 rfl) rfl ?_
    refine WL.v (Runs.load1 Try.underlying26 rfl rfl (h.ocell hi rfl)) rfl ?_
    refine WL.v (Runs.boolT (c := true) (Runs.neq rfl rfl) (by rw [decide_eq_false he0]; rfl)) rfl ?_
    refine WL.nil (WN.thn ?_)
    refine WC.condT rfl (rfl) ?_
    refine WC.seq (WC.reg ?_)
    refine WL.v (Runs.assign rfl) rfl ?_
    refine WL.nil (WN.thn (WC.ret ?_))
    have e1 : rdN l p e = (0, p, e) := by unfold rdN; rw [if_pos he0]
    rw [e1]
    refine ret1 rfl rfl ⟨rfl, ?_⟩
    rw [setS hi]; exact h
set_option maxRecDepth 100000 in
set_option maxHeartbeats 1000000 in
theorem fail_c {W : World} {F : Snap} {cs : List Res} (w : World) {i rb : Nat} {q e : Int} {l : List UInt8} (a b : Int) (h : St W F cs w) (hi : cs[i]? = some [(rb, .cells #[.string (bs l), Vi q, Vi e] 82 (0, 0))]) : Calls Try.prog 64 #[.pointer (some ⟨rb, 0, none⟩), Vi a, Vi b] w fun r w' => r = .returned (.tuple #[]) ∧ St W F (cs.set i [(rb, .cells #[.string (bs l), Vi a, Vi b] 82 (0, 0))]) w'  := by
  refine enter (P := Try.prog) (args := [.pointer (some ⟨rb, 0, none⟩), Vi a, Vi b]) Try.func64 rfl rfl rfl ?_
  refine WC.seq (WC.reg ?_)
  refine WL.v (Runs.move rfl) rfl ?_
  refine WL.v (Runs.move rfl) rfl ?_
  refine WL.v (Runs.nilCheckP rfl) rfl ?_
  refine WL.v (Runs.fld fld82_1 rfl) rfl ?_
  refine WL.store' h i hi rfl rfl inf3 rfl rfl (Free.zero _) (Nat.le_of_ble_eq_true rfl) ?_
  intro  w1 h1
  try simp only [lz, ls, ez, es'] at h1
  refine WL.nil (WN.thn (WC.reg ?_))
  refine WL.v (Runs.move rfl) rfl ?_
  refine WL.v (Runs.move rfl) rfl ?_
  refine WL.v (Runs.nilCheckP rfl) rfl ?_
  refine WL.v (Runs.fld fld82_2 rfl) rfl ?_
  refine WL.store' h1 i (show (cs.set i [(rb, .cells #[.string (bs l), Vi a, Vi e] 82 (0, 0))])[i]? = some [(rb, .cells #[.string (bs l), Vi a, Vi e] 82 (0, 0))] by rw [List.getElem?_set_self (List.getElem?_eq_some_iff.1 hi).1]) rfl rfl inf26 rfl rfl (Free.zero _) (Nat.le_of_ble_eq_true rfl) ?_
  intro  w2 h2
  try simp only [lz, ls, ez, es'] at h2
  rw [List.set_set] at h2
  refine WL.nil ?_
  exact end0 rfl ⟨rfl, h2⟩
set_option maxRecDepth 100000 in
set_option maxHeartbeats 1000000 in
theorem qend_c {W : World} {F : Snap} {cs : List Res} (w : World) {i rb : Nat} {p : Nat} {l : List UInt8} {e : Int} (h : St W F cs w) (hi : cs[i]? = some [(rb, .cells #[.string (bs l), Vi p, Vi e] 82 (0, 0))]) : Calls Try.prog 39 #[.pointer (some ⟨rb, 0, none⟩)] w fun r w' => r = .returned (.tuple #[Vi (rdEnd l p e).1, Vi ((rdEnd l p e).2 : Nat)]) ∧ St W F cs w'  := by
  refine enter (P := Try.prog) (args := [.pointer (some ⟨rb, 0, none⟩)]) Try.func39 rfl rfl rfl ?_
  refine WC.seq (WC.reg ?_)
  refine WL.v (Runs.assign rfl) rfl ?_
  refine WL.v (Runs.assign rfl) rfl ?_
  refine WL.nil (WN.thn (WC.seq (WC.seq ?_)))
  rcases cases5 e p l.length with hx1 | ⟨hx1, hx2⟩ | ⟨hx1, hx2⟩
  · skip
    refine WC.qreg (C := fun w_ => St W _ _ w_) mixed (by kernel_rfl) (h.drew) ?_
    refine WQ.val (fun w_ hC_ => Runs.move rfl) rfl ?_
    refine WQ.val (fun w_ hC_ => Runs.nilCheckP rfl) rfl ?_
    refine WQ.val (fun w_ hC_ => Runs.fld fld82_2 rfl) rfl ?_
    refine WQ.val (fun w_ hC_ => Runs.load1 Try.underlying26 rfl rfl (hC_.ocell hi rfl)) rfl ?_
    refine WQ.val (fun w_ hC_ => Runs.boolT (c := false) (Runs.eql rfl rfl) (decide_eq_false hx1)) rfl ?_
    refine WQ.val (fun w_ hC_ => Runs.move rfl) rfl ?_
    refine WQ.goff rfl rfl rfl rfl ?_
    refine WQ.goff rfl rfl rfl rfl ?_
    refine WQ.goff rfl rfl rfl rfl ?_
    refine WQ.goff rfl rfl rfl rfl ?_
    refine WQ.goff rfl rfl rfl rfl ?_
    refine WQ.goff rfl rfl rfl rfl ?_
    refine WQ.goff rfl rfl rfl rfl ?_
    refine WQ.goff rfl rfl rfl rfl ?_
    refine WQ.goff rfl rfl rfl rfl ?_
    refine WQ.goff rfl rfl rfl rfl ?_
    refine WQ.val (fun w_ hC_ => Runs.pick rfl rfl rfl) rfl ?_
    refine WQ.fin ?_
    intro w1 h1
    refine WN.thn ?_
    refine WC.condF rfl (rfl) ?_
    refine WC.skip (WN.thn (WC.seq ?_))
    refine WC.qreg (C := fun w_ => St W _ _ w_) mixed (by kernel_rfl) (h1.drew) ?_
    refine WQ.val (fun w_ hC_ => Runs.move rfl) rfl ?_
    refine WQ.val (fun w_ hC_ => Runs.nilCheckP rfl) rfl ?_
    refine WQ.val (fun w_ hC_ => Runs.fld fld82_2 rfl) rfl ?_
    refine WQ.val (fun w_ hC_ => Runs.load1 Try.underlying26 rfl rfl (hC_.ocell hi rfl)) rfl ?_
    refine WQ.val (fun w_ hC_ => Runs.move rfl) rfl ?_
    refine WQ.val (fun w_ hC_ => Runs.nilCheckP rfl) rfl ?_
    refine WQ.val (fun w_ hC_ => Runs.fld fld82_1 rfl) rfl ?_
    refine WQ.val (fun w_ hC_ => Runs.load1 Try.underlying3 rfl rfl (hC_.ocell hi rfl)) rfl ?_
    refine WQ.val (fun w_ hC_ => Runs.assign rfl) rfl ?_
    refine WQ.val (fun w_ hC_ => Runs.assign rfl) rfl ?_
    refine WQ.fin ?_
    intro w2 h2
    refine WN.thn (WC.ret ?_)
    refine ret2 rfl rfl rfl ⟨?_, h2⟩
    unfold rdEnd
    rw [if_neg (fun h => hx1 h.1)]
    rfl
  · skip
    refine WC.qreg (C := fun w_ => St W _ _ w_) mixed (by kernel_rfl) (h.drew) ?_
    refine WQ.val (fun w_ hC_ => Runs.move rfl) rfl ?_
    refine WQ.val (fun w_ hC_ => Runs.nilCheckP rfl) rfl ?_
    refine WQ.val (fun w_ hC_ => Runs.fld fld82_2 rfl) rfl ?_
    refine WQ.val (fun w_ hC_ => Runs.load1 Try.underlying26 rfl rfl (hC_.ocell hi rfl)) rfl ?_
    refine WQ.val (fun w_ hC_ => Runs.boolT (c := true) (Runs.eql rfl rfl) (decide_eq_true hx1)) rfl ?_
    refine WQ.val (fun w_ hC_ => Runs.move rfl) rfl ?_
    refine WQ.gon rfl rfl rfl ?_
    refine WQ.val (fun w_ hC_ => Runs.move rfl) rfl ?_
    refine WQ.gon rfl rfl rfl ?_
    refine WQ.val (fun w_ hC_ => Runs.nilCheckP rfl) rfl ?_
    refine WQ.gon rfl rfl rfl ?_
    refine WQ.val (fun w_ hC_ => Runs.fld fld82_1 rfl) rfl ?_
    refine WQ.gon rfl rfl rfl ?_
    refine WQ.val (fun w_ hC_ => Runs.load1 Try.underlying3 rfl rfl (hC_.ocell hi rfl)) rfl ?_
    refine WQ.gon rfl rfl rfl ?_
    refine WQ.val (fun w_ hC_ => Runs.move rfl) rfl ?_
    refine WQ.gon rfl rfl rfl ?_
    refine WQ.val (fun w_ hC_ => Runs.nilCheckP rfl) rfl ?_
    refine WQ.gon rfl rfl rfl ?_
    refine WQ.val (fun w_ hC_ => Runs.fld fld82_0 rfl) rfl ?_
    refine WQ.gon rfl rfl rfl ?_
    refine WQ.val (fun w_ hC_ => Runs.load1 Try.underlying9 rfl rfl (hC_.ocell hi rfl)) rfl ?_
    refine WQ.gon rfl rfl rfl ?_
    refine WQ.val (fun w_ hC_ => Runs.intT (n := (l.length : Int)) (Runs.slen Try.underlying9 rfl rfl) rfl) rfl ?_
    refine WQ.gon rfl rfl rfl ?_
    refine WQ.val (fun w_ hC_ => Runs.boolT (c := true) (Runs.lss rfl rfl) (by rw [decide_eq_true_eq]; omega)) rfl ?_
    refine WQ.val (fun w_ hC_ => Runs.pick rfl rfl rfl) rfl ?_
    refine WQ.fin ?_
    intro w3 h3
    refine WN.thn ?_
    refine WC.condT rfl (rfl) ?_
    refine WC.seq ?_
    refine WC.qreg (C := fun w_ => St W _ _ w_) mixed (by kernel_rfl) (h3.drew) ?_
    refine WQ.val (fun w_ hC_ => Runs.move rfl) rfl ?_
    refine WQ.val (fun w_ hC_ => Runs.nilCheckP rfl) rfl ?_
    refine WQ.val (fun w_ hC_ => Runs.fld fld82_1 rfl) rfl ?_
    refine WQ.val (fun w_ hC_ => Runs.load1 Try.underlying3 rfl rfl (hC_.ocell hi rfl)) rfl ?_
    refine WQ.val (fun w_ hC_ => Runs.assign rfl) rfl ?_
    refine WQ.val (fun w_ hC_ => Runs.assign rfl) rfl ?_
    refine WQ.fin ?_
    intro w4 h4
    refine WN.thn (WC.ret ?_)
    refine ret2 rfl rfl rfl ⟨?_, h4⟩
    unfold rdEnd
    rw [if_pos ⟨hx1, hx2⟩]
    rfl
  · skip
    refine WC.qreg (C := fun w_ => St W _ _ w_) mixed (by kernel_rfl) (h.drew) ?_
    refine WQ.val (fun w_ hC_ => Runs.move rfl) rfl ?_
    refine WQ.val (fun w_ hC_ => Runs.nilCheckP rfl) rfl ?_
    refine WQ.val (fun w_ hC_ => Runs.fld fld82_2 rfl) rfl ?_
    refine WQ.val (fun w_ hC_ => Runs.load1 Try.underlying26 rfl rfl (hC_.ocell hi rfl)) rfl ?_
    refine WQ.val (fun w_ hC_ => Runs.boolT (c := true) (Runs.eql rfl rfl) (decide_eq_true hx1)) rfl ?_
    refine WQ.val (fun w_ hC_ => Runs.move rfl) rfl ?_
    refine WQ.gon rfl rfl rfl ?_
    refine WQ.val (fun w_ hC_ => Runs.move rfl) rfl ?_
    refine WQ.gon rfl rfl rfl ?_
    refine WQ.val (fun w_ hC_ => Runs.nilCheckP rfl) rfl ?_
    refine WQ.gon rfl rfl rfl ?_
    refine WQ.val (fun w_ hC_ => Runs.fld fld82_1 rfl) rfl ?_
    refine WQ.gon rfl rfl rfl ?_
    refine WQ.val (fun w_ hC_ => Runs.load1 Try.underlying3 rfl rfl (hC_.ocell hi rfl)) rfl ?_
    refine WQ.gon rfl rfl rfl ?_
    refine WQ.val (fun w_ hC_ => Runs.move rfl) rfl ?_
    refine WQ.gon rfl rfl rfl ?_
    refine WQ.val (fun w_ hC_ => Runs.nilCheckP rfl) rfl ?_
    refine WQ.gon rfl rfl rfl ?_
    refine WQ.val (fun w_ hC_ => Runs.fld fld82_0 rfl) rfl ?_
    refine WQ.gon rfl rfl rfl ?_
    refine WQ.val (fun w_ hC_ => Runs.load1 Try.underlying9 rfl rfl (hC_.ocell hi rfl)) rfl ?_
    refine WQ.gon rfl rfl rfl ?_
    refine WQ.val (fun w_ hC_ => Runs.intT (n := (l.length : Int)) (Runs.slen Try.underlying9 rfl rfl) rfl) rfl ?_
    refine WQ.gon rfl rfl rfl ?_
    refine WQ.val (fun w_ hC_ => Runs.boolT (c := false) (Runs.lss rfl rfl) (by rw [decide_eq_false_iff_not]; omega)) rfl ?_
    refine WQ.val (fun w_ hC_ => Runs.pick rfl rfl rfl) rfl ?_
    refine WQ.fin ?_
    intro w5 h5
    refine WN.thn ?_
    refine WC.condF rfl (rfl) ?_
    refine WC.skip (WN.thn (WC.seq ?_))
    refine WC.qreg (C := fun w_ => St W _ _ w_) mixed (by kernel_rfl) (h5.drew) ?_
    refine WQ.val (fun w_ hC_ => Runs.move rfl) rfl ?_
    refine WQ.val (fun w_ hC_ => Runs.nilCheckP rfl) rfl ?_
    refine WQ.val (fun w_ hC_ => Runs.fld fld82_2 rfl) rfl ?_
    refine WQ.val (fun w_ hC_ => Runs.load1 Try.underlying26 rfl rfl (hC_.ocell hi rfl)) rfl ?_
    refine WQ.val (fun w_ hC_ => Runs.move rfl) rfl ?_
    refine WQ.val (fun w_ hC_ => Runs.nilCheckP rfl) rfl ?_
    refine WQ.val (fun w_ hC_ => Runs.fld fld82_1 rfl) rfl ?_
    refine WQ.val (fun w_ hC_ => Runs.load1 Try.underlying3 rfl rfl (hC_.ocell hi rfl)) rfl ?_
    refine WQ.val (fun w_ hC_ => Runs.assign rfl) rfl ?_
    refine WQ.val (fun w_ hC_ => Runs.assign rfl) rfl ?_
    refine WQ.fin ?_
    intro w6 h6
    refine WN.thn (WC.ret ?_)
    refine ret2 rfl rfl rfl ⟨?_, h6⟩
    unfold rdEnd
    rw [if_neg (fun h => hx2 h.2)]
    rfl
end Wir
end Go.Proofs.Ythejglgnoingfaa
