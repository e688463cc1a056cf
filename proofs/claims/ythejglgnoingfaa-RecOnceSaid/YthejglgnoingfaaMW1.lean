/- Walks of package wire: what takes from the front, or goes up. -/
import Derived.Test.YthejglgnoingfaaProg
import Derived.KernelRfl
import Derived.Test.YthejglgnoingfaaMBaseAH
namespace Go.Proofs.Ythejglgnoingfaa
open Go Go.RowKit B
set_option linter.unusedVariables false
set_option linter.unusedSimpArgs false
namespace Wir

theorem mixed : Try.prog.follows .mixedOrders = true := by kernel_rfl
theorem inf3 : Inf Try.prog 3 (.int .i64 0) 1 8 := by unfold Inf; kernel_rfl
theorem fld103_0 : fldB Try.prog 103 0 0 = true := by kernel_rfl
theorem fld103_1 : fldB Try.prog 103 1 1 = true := by kernel_rfl
theorem can84 : B.Can Try.prog 84 := ⟨_, Try.func84, by kernel_rfl, rfl⟩   -- roundhouse/wire.must
abbrev Vi (n : Int) : Value := .int .i64 n
def wch (at_ e : Int) : List PanicEntry := chain1 129 (.agg #[Vi at_, Vi e])
set_option maxRecDepth 100000 in
set_option maxHeartbeats 1000000 in
theorem must_ok {W : World} {F : Snap} {cs : List Res} (w : World) (a e : Int) (h : St W F cs w) : Calls Try.prog 84 #[.bool true, Vi a, Vi e] w fun r w' => r = .returned (.tuple #[]) ∧ St W F cs w'  := by
  refine enter (P := Try.prog) (args := [.bool true, Vi a, Vi e]) Try.func84 rfl rfl rfl ?_
  refine WC.seq (WC.reg ?_)
  refine WL.v (Runs.move rfl) rfl ?_
  refine WL.v (Runs.not rfl) rfl ?_
  refine WL.nil (WN.thn ?_)
  refine WC.condF rfl (rfl) ?_
  refine WC.skip ?_
  exact end0 rfl ⟨rfl, h⟩
set_option maxRecDepth 100000 in
set_option maxHeartbeats 1000000 in
theorem must_no {W : World} {F : Snap} {cs : List Res} (w : World) (a e : Int) (h : St W F cs w) : Calls Try.prog 84 #[.bool false, Vi a, Vi e] w fun r w' => r = .panicked (wch a e) ∧ St W F cs w'  := by
  refine enter (P := Try.prog) (args := [.bool false, Vi a, Vi e]) Try.func84 rfl rfl rfl ?_
  refine WC.seq (WC.reg ?_)
  refine WL.v (Runs.move rfl) rfl ?_
  refine WL.v (Runs.not rfl) rfl ?_
  refine WL.nil (WN.thn ?_)
  refine WC.condT rfl (rfl) ?_
  refine WC.reg ?_
  refine WL.v (Runs.move rfl) rfl ?_
  refine WL.v (Runs.move rfl) rfl ?_
  refine WL.v (Runs.build (vs := [(0, Vi a), (1, Vi e)]) (cells := #[Vi a, Vi e]) rfl (by kernel_rfl)) rfl ?_
  refine WL.v (Runs.makeI Try.underlying129 rfl rfl) rfl ?_
  refine WL.panicI rfl ?_
  exact die0 ⟨rfl, h⟩
set_option maxRecDepth 100000 in
set_option maxHeartbeats 1000000 in
theorem bytes_ok {W : World} {F : Snap} {cs : List Res} (w : World) {i rb p : Nat} {e : Int} {l : List UInt8}  (n : Nat) (from_ : Int) (h : St W F cs w) (hi : cs[i]? = some [(rb, .cells #[.string (bs l), Vi (p), Vi (e)] 103 (0, 0))]) (hl : l.length ≤ 100000) (hp : p ≤ l.length) (hn : p + n ≤ l.length) : Calls Try.prog 83 #[.pointer (some ⟨rb, 0, none⟩), Vi (n : Int), Vi from_] w fun r w' => r = .returned (.string (bs ((l.drop p).take n))) ∧ St W F (cs.set i [(rb, .cells #[.string (bs l), Vi ((p + n : Nat)), Vi (e)] 103 (0, 0))]) w'  := by
  refine enter (P := Try.prog) (args := [.pointer (some ⟨rb, 0, none⟩), Vi (n : Int), Vi from_]) Try.func83 rfl rfl rfl ?_
  refine WC.seq (WC.reg ?_)
  refine WL.v (Runs.assign rfl) rfl ?_
  refine WL.nil (WN.thn (WC.seq ?_))
  refine WC.eregO h (fun s_ => ([13] : List Nat).any (Nat.beq s_)) mixed (by kernel_rfl) (fun hx => ?_)
  intro w1 h1
  refine WE.p0 hx 0 (by rfl) (fun w_ => Runs.move rfl) rfl ?_
  refine WE.p0 hx 1 (by rfl) (fun w_ => Runs.move rfl) rfl ?_
  refine WE.p0 hx 2 (by rfl) (fun w_ => Runs.nilCheckP rfl) rfl ?_
  refine WE.p0 hx 3 (by rfl) (fun w_ => Runs.fld fld103_0 rfl) rfl ?_
  refine WE.p0 hx 6 (by rfl) (fun w_ => Runs.move rfl) rfl ?_
  refine WE.p0 hx 7 (by rfl) (fun w_ => Runs.nilCheckP rfl) rfl ?_
  refine WE.p0 hx 8 (by rfl) (fun w_ => Runs.fld fld103_1 rfl) rfl ?_
  refine WE.p0 hx 12 (by rfl) (fun w_ => Runs.move rfl) rfl ?_
  refine WE.v0 12 hx 4 (by rfl) (fun w_ hE_ => Runs.load1 Try.underlying9 rfl rfl (hE_.ocell hi rfl)) rfl ?_
  refine WE.p0 hx 5 (by rfl) (fun w_ => Runs.intT (n := (l.length : Int)) (Runs.slen Try.underlying9 rfl rfl) rfl) rfl ?_
  refine WE.v0 12 hx 9 (by rfl) (fun w_ hE_ => Runs.load1 Try.underlying3 rfl rfl (hE_.ocell hi rfl)) rfl ?_
  refine WE.p0 hx 10 (by rfl) (fun w_ => Runs.subn rfl rfl (by omega)) rfl ?_
  refine WE.p0 hx 11 (by rfl) (fun w_ => Runs.boolT (c := true) (Runs.leq rfl rfl) (by rw [decide_eq_true_eq]; omega)) rfl ?_
  refine WE.op (.inr h1) (i := 13) (by rfl) (by kernel_rfl) ?_
  refine WL.call can84 rfl rfl (must_ok _ _ _ h1) ?_
  rintro _ w2 ⟨rfl, h2⟩
  refine ⟨_, rfl, ?_⟩
  refine WL.nil (WE.next ?_)
  refine WE.fin (.inl ⟨13, rfl, by kernel_rfl⟩) (by kernel_rfl) ?_
  refine WN.thn (WC.seq ?_)
  refine WC.qreg (C := fun w_ => St W _ _ w_) mixed (by kernel_rfl) (h2.drew) ?_
  refine WQ.val (fun w_ hC_ => Runs.move rfl) rfl ?_
  refine WQ.val (fun w_ hC_ => Runs.nilCheckP rfl) rfl ?_
  refine WQ.val (fun w_ hC_ => Runs.fld fld103_0 rfl) rfl ?_
  refine WQ.val (fun w_ hC_ => Runs.load1 Try.underlying9 rfl rfl (hC_.ocell hi rfl)) rfl ?_
  refine WQ.val (fun w_ hC_ => Runs.move rfl) rfl ?_
  refine WQ.val (fun w_ hC_ => Runs.nilCheckP rfl) rfl ?_
  refine WQ.val (fun w_ hC_ => Runs.fld fld103_1 rfl) rfl ?_
  refine WQ.val (fun w_ hC_ => Runs.load1 Try.underlying3 rfl rfl (hC_.ocell hi rfl)) rfl ?_
  refine WQ.val (fun w_ hC_ => Runs.move rfl) rfl ?_
  refine WQ.val (fun w_ hC_ => Runs.nilCheckP rfl) rfl ?_
  refine WQ.val (fun w_ hC_ => Runs.fld fld103_1 rfl) rfl ?_
  refine WQ.val (fun w_ hC_ => Runs.load1 Try.underlying3 rfl rfl (hC_.ocell hi rfl)) rfl ?_
  refine WQ.val (fun w_ hC_ => Runs.move rfl) rfl ?_
  refine WQ.val (fun w_ hC_ => Runs.addn rfl rfl (by omega)) rfl ?_
  refine WQ.val (fun w_ hC_ => Runs.valT (u := .string (bs ((l.drop p).take n))) (Runs.lssl Try.underlying9 rfl rfl rfl (n := p) (m := p + n) rfl (by omega) (by omega) hn) (by rw [show p + n - p = n by omega])) rfl ?_
  refine WQ.val (fun w_ hC_ => Runs.assign rfl) rfl ?_
  refine WQ.fin ?_
  intro w3 h3
  refine WN.thn (WC.seq (WC.reg ?_))
  refine WL.v (Runs.move rfl) rfl ?_
  refine WL.v (Runs.nilCheckP rfl) rfl ?_
  refine WL.v (Runs.fld fld103_1 rfl) rfl ?_
  refine WL.v (Runs.load1 Try.underlying3 rfl rfl (h3.ocell hi rfl)) rfl ?_
  refine WL.v (Runs.move rfl) rfl ?_
  refine WL.v (Runs.intT (n := ((p + n : Nat) : Int)) (Runs.addn rfl rfl (by omega)) (by omega)) rfl ?_
  refine WL.v (Runs.nilCheckP rfl) rfl ?_
  refine WL.v (Runs.fld fld103_1 rfl) rfl ?_
  refine WL.store' h3 i hi rfl rfl inf3 rfl rfl (Free.zero _) (Nat.le_of_ble_eq_true rfl) ?_
  intro  w4 h4
  try simp only [lz, ls, ez, es'] at h4
  refine WL.nil (WN.thn (WC.seq (WC.reg ?_)))
  refine WL.v (Runs.move rfl) rfl ?_
  refine WL.v (Runs.assign rfl) rfl ?_
  refine WL.nil (WN.thn (WC.ret ?_))
  exact ret1 rfl rfl ⟨rfl, h4⟩
set_option maxRecDepth 100000 in
set_option maxHeartbeats 1000000 in
theorem bytes_no {W : World} {F : Snap} {cs : List Res} (w : World) {i rb p : Nat} {e : Int} {l : List UInt8}  (n : Nat) (from_ : Int) (h : St W F cs w) (hi : cs[i]? = some [(rb, .cells #[.string (bs l), Vi (p), Vi (e)] 103 (0, 0))]) (hl : l.length ≤ 100000) (hp : p ≤ l.length) (hn : l.length < p + n) (hn2 : n ≤ 1000000) : Calls Try.prog 83 #[.pointer (some ⟨rb, 0, none⟩), Vi (n : Int), Vi from_] w fun r w' => r = .panicked (wch from_ 2) ∧ St W F cs w'  := by
  refine enter (P := Try.prog) (args := [.pointer (some ⟨rb, 0, none⟩), Vi (n : Int), Vi from_]) Try.func83 rfl rfl rfl ?_
  refine WC.seq (WC.reg ?_)
  refine WL.v (Runs.assign rfl) rfl ?_
  refine WL.nil (WN.thn (WC.seq ?_))
  refine WC.eregO h (fun s_ => ([13] : List Nat).any (Nat.beq s_)) mixed (by kernel_rfl) (fun hx => ?_)
  intro w1 h1
  refine WE.p0 hx 0 (by rfl) (fun w_ => Runs.move rfl) rfl ?_
  refine WE.p0 hx 1 (by rfl) (fun w_ => Runs.move rfl) rfl ?_
  refine WE.p0 hx 2 (by rfl) (fun w_ => Runs.nilCheckP rfl) rfl ?_
  refine WE.p0 hx 3 (by rfl) (fun w_ => Runs.fld fld103_0 rfl) rfl ?_
  refine WE.p0 hx 6 (by rfl) (fun w_ => Runs.move rfl) rfl ?_
  refine WE.p0 hx 7 (by rfl) (fun w_ => Runs.nilCheckP rfl) rfl ?_
  refine WE.p0 hx 8 (by rfl) (fun w_ => Runs.fld fld103_1 rfl) rfl ?_
  refine WE.p0 hx 12 (by rfl) (fun w_ => Runs.move rfl) rfl ?_
  refine WE.v0 12 hx 4 (by rfl) (fun w_ hE_ => Runs.load1 Try.underlying9 rfl rfl (hE_.ocell hi rfl)) rfl ?_
  refine WE.p0 hx 5 (by rfl) (fun w_ => Runs.intT (n := (l.length : Int)) (Runs.slen Try.underlying9 rfl rfl) rfl) rfl ?_
  refine WE.v0 12 hx 9 (by rfl) (fun w_ hE_ => Runs.load1 Try.underlying3 rfl rfl (hE_.ocell hi rfl)) rfl ?_
  refine WE.p0 hx 10 (by rfl) (fun w_ => Runs.subn rfl rfl (by omega)) rfl ?_
  refine WE.p0 hx 11 (by rfl) (fun w_ => Runs.boolT (c := false) (Runs.leq rfl rfl) (by rw [decide_eq_false_iff_not]; omega)) rfl ?_
  refine WE.op (.inr h1) (i := 13) (by rfl) (by kernel_rfl) ?_
  refine WL.callP can84 rfl rfl (must_no _ _ _ h1) ?_
  rintro _ w2 ⟨rfl, h2⟩
  refine .inr ⟨_, rfl, ?_⟩
  refine WP.region ?_
  exact die0 ⟨rfl, h2⟩
end Wir
end Go.Proofs.Ythejglgnoingfaa
