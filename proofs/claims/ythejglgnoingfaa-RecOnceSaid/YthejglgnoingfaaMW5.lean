/- Walks of package wire: texts, and the end. -/
import Derived.Test.YthejglgnoingfaaMW4
namespace Go.Proofs.Ythejglgnoingfaa
open Go Go.RowKit B
set_option linter.unusedVariables false
set_option linter.unusedSimpArgs false
namespace Wir


def rdEnd (l : List UInt8) (p : Nat) (e : Int) : Int × Nat := if e = 0 ∧ p < l.length then (4, p) else (e, p)
theorem cases5 (e : Int) (p n : Nat) : e ≠ 0 ∨ (e = 0 ∧ p < n) ∨ (e = 0 ∧ ¬ p < n) := by omega
set_option maxRecDepth 100000 in
set_option maxHeartbeats 1000000 in
theorem rend_c {W : World} {F : Snap} {cs : List Res} (w : World) {i rb : Nat} {p : Nat} {l : List UInt8} {e : Int} (h : St W F cs w) (hi : cs[i]? = some [(rb, .cells #[.string (bs l), Vi p, Vi e] 103 (0, 0))]) : Calls Try.prog 35 #[.pointer (some ⟨rb, 0, none⟩)] w fun r w' => r = .returned (.tuple #[Vi (rdEnd l p e).1, Vi ((rdEnd l p e).2 : Nat)]) ∧ St W F cs w'  := by
  refine enter (P := Try.prog) (args := [.pointer (some ⟨rb, 0, none⟩)]) Try.func35 rfl rfl rfl ?_
  refine WC.seq (WC.reg ?_)
  refine WL.v (Runs.assign rfl) rfl ?_
  refine WL.v (Runs.assign rfl) rfl ?_
  refine WL.nil (WN.thn (WC.seq (WC.block (WC.seq (WC.reg ?_)))))
  refine WL.v (Runs.move rfl) rfl ?_
  refine WL.v (Runs.peql Try.underlying73 rfl rfl) rfl ?_
  refine WL.v (Runs.assign rfl) rfl ?_
  refine WL.nil (WN.thn ?_)
  refine WC.condF rfl (rfl) ?_
  refine WC.seq ?_
  rcases cases5 e p l.length with hx1 | ⟨hx1, hx2⟩ | ⟨hx1, hx2⟩
  · skip
    refine WC.qreg (C := fun w_ => St W _ _ w_) mixed (by kernel_rfl) (h.drew) ?_
    refine WQ.val (fun w_ hC_ => Runs.move rfl) rfl ?_
    refine WQ.val (fun w_ hC_ => Runs.nilCheckP rfl) rfl ?_
    refine WQ.val (fun w_ hC_ => Runs.fld fld103_2 rfl) rfl ?_
    refine WQ.val (fun w_ hC_ => Runs.load1 Try.underlying26 rfl rfl (hC_.ocell hi rfl)) rfl ?_
    refine WQ.val (fun w_ hC_ => Runs.boolT (c := false) (Runs.eql rfl rfl) (decide_eq_false hx1)) rfl ?_
    refine WQ.val (fun w_ hC_ => Runs.move rfl) rfl ?_
    refine WQ.goff rfl rfl rfl rfl ?_
    refine WQ.goff rfl rfl rfl rfl ?_
    refine WQ.goff rfl rfl rfl rfl ?_
    refine WQ.goff rfl rfl rfl rfl ?_
    refine WQ.goff rfl rfl rfl rfl ?_
    refine WQ.goff rfl rfl rfl rfl ?_
    refine WQ.goff rfl rfl rfl rfl ?_
    refine WQ.goff rfl rfl rfl rfl ?_
    refine WQ.goff rfl rfl rfl rfl ?_
    refine WQ.goff rfl rfl rfl rfl ?_
    refine WQ.val (fun w_ hC_ => Runs.pick rfl rfl rfl) rfl ?_
    refine WQ.val (fun w_ hC_ => Runs.assign rfl) rfl ?_
    refine WQ.fin ?_
    intro w1 h1
    refine WN.thn ?_
    refine WC.condF rfl (rfl) ?_
    refine WC.skip (WN.blk (WN.thn (WC.seq ?_)))
    refine WC.qreg (C := fun w_ => St W _ _ w_) mixed (by kernel_rfl) (h1.drew) ?_
    refine WQ.val (fun w_ hC_ => Runs.move rfl) rfl ?_
    refine WQ.val (fun w_ hC_ => Runs.nilCheckP rfl) rfl ?_
    refine WQ.val (fun w_ hC_ => Runs.fld fld103_2 rfl) rfl ?_
    refine WQ.val (fun w_ hC_ => Runs.load1 Try.underlying26 rfl rfl (hC_.ocell hi rfl)) rfl ?_
    refine WQ.val (fun w_ hC_ => Runs.move rfl) rfl ?_
    refine WQ.val (fun w_ hC_ => Runs.nilCheckP rfl) rfl ?_
    refine WQ.val (fun w_ hC_ => Runs.fld fld103_1 rfl) rfl ?_
    refine WQ.val (fun w_ hC_ => Runs.load1 Try.underlying3 rfl rfl (hC_.ocell hi rfl)) rfl ?_
    refine WQ.val (fun w_ hC_ => Runs.assign rfl) rfl ?_
    refine WQ.val (fun w_ hC_ => Runs.assign rfl) rfl ?_
    refine WQ.fin ?_
    intro w2 h2
    refine WN.thn (WC.ret ?_)
    refine ret2 rfl rfl rfl ⟨?_, h2⟩
    unfold rdEnd
    rw [if_neg (fun h => hx1 h.1)]
    rfl
  · skip
    refine WC.qreg (C := fun w_ => St W _ _ w_) mixed (by kernel_rfl) (h.drew) ?_
    refine WQ.val (fun w_ hC_ => Runs.move rfl) rfl ?_
    refine WQ.val (fun w_ hC_ => Runs.nilCheckP rfl) rfl ?_
    refine WQ.val (fun w_ hC_ => Runs.fld fld103_2 rfl) rfl ?_
    refine WQ.val (fun w_ hC_ => Runs.load1 Try.underlying26 rfl rfl (hC_.ocell hi rfl)) rfl ?_
    refine WQ.val (fun w_ hC_ => Runs.boolT (c := true) (Runs.eql rfl rfl) (decide_eq_true hx1)) rfl ?_
    refine WQ.val (fun w_ hC_ => Runs.move rfl) rfl ?_
    refine WQ.gon rfl rfl rfl ?_
    refine WQ.val (fun w_ hC_ => Runs.move rfl) rfl ?_
    refine WQ.gon rfl rfl rfl ?_
    refine WQ.val (fun w_ hC_ => Runs.nilCheckP rfl) rfl ?_
    refine WQ.gon rfl rfl rfl ?_
    refine WQ.val (fun w_ hC_ => Runs.fld fld103_1 rfl) rfl ?_
    refine WQ.gon rfl rfl rfl ?_
    refine WQ.val (fun w_ hC_ => Runs.load1 Try.underlying3 rfl rfl (hC_.ocell hi rfl)) rfl ?_
    refine WQ.gon rfl rfl rfl ?_
    refine WQ.val (fun w_ hC_ => Runs.move rfl) rfl ?_
    refine WQ.gon rfl rfl rfl ?_
    refine WQ.val (fun w_ hC_ => Runs.nilCheckP rfl) rfl ?_
    refine WQ.gon rfl rfl rfl ?_
    refine WQ.val (fun w_ hC_ => Runs.fld fld103_0 rfl) rfl ?_
    refine WQ.gon rfl rfl rfl ?_
    refine WQ.val (fun w_ hC_ => Runs.load1 Try.underlying9 rfl rfl (hC_.ocell hi rfl)) rfl ?_
    refine WQ.gon rfl rfl rfl ?_
    refine WQ.val (fun w_ hC_ => Runs.intT (n := (l.length : Int)) (Runs.slen Try.underlying9 rfl rfl) rfl) rfl ?_
    refine WQ.gon rfl rfl rfl ?_
    refine WQ.val (fun w_ hC_ => Runs.boolT (c := true) (Runs.lss rfl rfl) (by rw [decide_eq_true_eq]; omega)) rfl ?_
    refine WQ.val (fun w_ hC_ => Runs.pick rfl rfl rfl) rfl ?_
    refine WQ.val (fun w_ hC_ => Runs.assign rfl) rfl ?_
    refine WQ.fin ?_
    intro w3 h3
    refine WN.thn ?_
    refine WC.condT rfl (rfl) ?_
    refine WC.seq ?_
    refine WC.qreg (C := fun w_ => St W _ _ w_) mixed (by kernel_rfl) (h3.drew) ?_
    refine WQ.val (fun w_ hC_ => Runs.move rfl) rfl ?_
    refine WQ.val (fun w_ hC_ => Runs.nilCheckP rfl) rfl ?_
    refine WQ.val (fun w_ hC_ => Runs.fld fld103_1 rfl) rfl ?_
    refine WQ.val (fun w_ hC_ => Runs.load1 Try.underlying3 rfl rfl (hC_.ocell hi rfl)) rfl ?_
    refine WQ.val (fun w_ hC_ => Runs.assign rfl) rfl ?_
    refine WQ.val (fun w_ hC_ => Runs.assign rfl) rfl ?_
    refine WQ.fin ?_
    intro w4 h4
    refine WN.thn (WC.ret ?_)
    refine ret2 rfl rfl rfl ⟨?_, h4⟩
    unfold rdEnd
    rw [if_pos ⟨hx1, hx2⟩]
    rfl
  · skip
    refine WC.qreg (C := fun w_ => St W _ _ w_) mixed (by kernel_rfl) (h.drew) ?_
    refine WQ.val (fun w_ hC_ => Runs.move rfl) rfl ?_
    refine WQ.val (fun w_ hC_ => Runs.nilCheckP rfl) rfl ?_
    refine WQ.val (fun w_ hC_ => Runs.fld fld103_2 rfl) rfl ?_
    refine WQ.val (fun w_ hC_ => Runs.load1 Try.underlying26 rfl rfl (hC_.ocell hi rfl)) rfl ?_
    refine WQ.val (fun w_ hC_ => Runs.boolT (c := true) (Runs.eql rfl rfl) (decide_eq_true hx1)) rfl ?_
    refine WQ.val (fun w_ hC_ => Runs.move rfl) rfl ?_
    refine WQ.gon rfl rfl rfl ?_
    refine WQ.val (fun w_ hC_ => Runs.move rfl) rfl ?_
    refine WQ.gon rfl rfl rfl ?_
    refine WQ.val (fun w_ hC_ => Runs.nilCheckP rfl) rfl ?_
    refine WQ.gon rfl rfl rfl ?_
    refine WQ.val (fun w_ hC_ => Runs.fld fld103_1 rfl) rfl ?_
    refine WQ.gon rfl rfl rfl ?_
    refine WQ.val (fun w_ hC_ => Runs.load1 Try.underlying3 rfl rfl (hC_.ocell hi rfl)) rfl ?_
    refine WQ.gon rfl rfl rfl ?_
    refine WQ.val (fun w_ hC_ => Runs.move rfl) rfl ?_
    refine WQ.gon rfl rfl rfl ?_
    refine WQ.val (fun w_ hC_ => Runs.nilCheckP rfl) rfl ?_
    refine WQ.gon rfl rfl rfl ?_
    refine WQ.val (fun w_ hC_ => Runs.fld fld103_0 rfl) rfl ?_
    refine WQ.gon rfl rfl rfl ?_
    refine WQ.val (fun w_ hC_ => Runs.load1 Try.underlying9 rfl rfl (hC_.ocell hi rfl)) rfl ?_
    refine WQ.gon rfl rfl rfl ?_
    refine WQ.val (fun w_ hC_ => Runs.intT (n := (l.length : Int)) (Runs.slen Try.underlying9 rfl rfl) rfl) rfl ?_
    refine WQ.gon rfl rfl rfl ?_
    refine WQ.val (fun w_ hC_ => Runs.boolT (c := false) (Runs.lss rfl rfl) (by rw [decide_eq_false_iff_not]; omega)) rfl ?_
    refine WQ.val (fun w_ hC_ => Runs.pick rfl rfl rfl) rfl ?_
    refine WQ.val (fun w_ hC_ => Runs.assign rfl) rfl ?_
    refine WQ.fin ?_
    intro w5 h5
    refine WN.thn ?_
    refine WC.condF rfl (rfl) ?_
    refine WC.skip (WN.blk (WN.thn (WC.seq ?_)))
    refine WC.qreg (C := fun w_ => St W _ _ w_) mixed (by kernel_rfl) (h5.drew) ?_
    refine WQ.val (fun w_ hC_ => Runs.move rfl) rfl ?_
    refine WQ.val (fun w_ hC_ => Runs.nilCheckP rfl) rfl ?_
    refine WQ.val (fun w_ hC_ => Runs.fld fld103_2 rfl) rfl ?_
    refine WQ.val (fun w_ hC_ => Runs.load1 Try.underlying26 rfl rfl (hC_.ocell hi rfl)) rfl ?_
    refine WQ.val (fun w_ hC_ => Runs.move rfl) rfl ?_
    refine WQ.val (fun w_ hC_ => Runs.nilCheckP rfl) rfl ?_
    refine WQ.val (fun w_ hC_ => Runs.fld fld103_1 rfl) rfl ?_
    refine WQ.val (fun w_ hC_ => Runs.load1 Try.underlying3 rfl rfl (hC_.ocell hi rfl)) rfl ?_
    refine WQ.val (fun w_ hC_ => Runs.assign rfl) rfl ?_
    refine WQ.val (fun w_ hC_ => Runs.assign rfl) rfl ?_
    refine WQ.fin ?_
    intro w6 h6
    refine WN.thn (WC.ret ?_)
    refine ret2 rfl rfl rfl ⟨?_, h6⟩
    unfold rdEnd
    rw [if_neg (fun h => hx2 h.2)]
    rfl
set_option maxRecDepth 100000 in
set_option maxHeartbeats 1000000 in
theorem rend_nil {W : World} {F : Snap} {cs : List Res} (w : World) (h : St W F cs w) : Calls Try.prog 35 #[.pointer none] w fun r w' => r = .returned (.tuple #[Vi 1, Vi 0]) ∧ St W F cs w'  := by
  refine enter (P := Try.prog) (args := [.pointer none]) Try.func35 rfl rfl rfl ?_
  refine WC.seq (WC.reg ?_)
  refine WL.v (Runs.assign rfl) rfl ?_
  refine WL.v (Runs.assign rfl) rfl ?_
  refine WL.nil (WN.thn (WC.seq (WC.block (WC.seq (WC.reg ?_)))))
  refine WL.v (Runs.move rfl) rfl ?_
  refine WL.v (Runs.peql Try.underlying73 rfl rfl) rfl ?_
  refine WL.v (Runs.assign rfl) rfl ?_
  refine WL.nil (WN.thn ?_)
  refine WC.condT rfl (rfl) ?_
  refine WC.seq (WC.reg ?_)
  refine WL.v (Runs.assign rfl) rfl ?_
  refine WL.v (Runs.assign rfl) rfl ?_
  refine WL.nil (WN.thn (WC.ret ?_))
  exact ret2 rfl rfl rfl ⟨rfl, h⟩
set_option maxRecDepth 100000 in
set_option maxHeartbeats 1000000 in
theorem read_c {W : World} {F : Snap} {cs : List Res} (w : World) (l : List UInt8) (h : St W F cs w) : Calls Try.prog 32 #[.string (bs l)] w fun r w' => ∃ rb, r = .returned (.pointer (some ⟨rb, 0, none⟩)) ∧ St W F ([(rb, .cells #[.string (bs l), Vi (0 : Nat), Vi 0] 103 (0, 0))] :: cs) w'  := by
  refine enter (P := Try.prog) (args := [.string (bs l)]) Try.func32 rfl rfl rfl ?_
  refine WC.seq (WC.reg ?_)
  refine WL.v (Runs.assign rfl) rfl ?_
  refine WL.nil (WN.thn (WC.seq (WC.reg ?_)))
  refine WL.v (Runs.move rfl) rfl ?_
  refine WL.v (Runs.build (vs := [(0, .string (bs l))]) (cells := #[.string (bs l), Vi 0, Vi 0]) rfl (by kernel_rfl)) rfl ?_
  refine WL.box rfl h rfl ?_
  intro b5 w1 h1
  refine WL.v (Runs.assign rfl) rfl ?_
  refine WL.nil (WN.thn (WC.ret ?_))
  exact ret1 rfl rfl ⟨b5, rfl, h1⟩
end Wir
end Go.Proofs.Ythejglgnoingfaa
