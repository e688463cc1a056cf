/- Walks of package wire: texts, and the end. -/
import Derived.Test.YthjcfhfbaeokeaaMW4
namespace Go.Proofs.Ythjcfhfbaeokeaa
open Go Go.RowKit B
set_option linter.unusedVariables false
set_option linter.unusedSimpArgs false
namespace Wir

theorem inf9 : Inf Try.prog 9 (.string ⟨#[]⟩) 1 16 := by unfold Inf; kernel_rfl
theorem can58 : B.Can Try.prog 58 := ⟨_, Try.func58, by kernel_rfl, rfl⟩   -- (*roundhouse/wire.Reader).take
theorem can59 : B.Can Try.prog 59 := ⟨_, Try.func59, by kernel_rfl, rfl⟩   -- (*roundhouse/wire.Reader).Text$1
theorem can60 : B.Can Try.prog 60 := ⟨_, Try.func60, by kernel_rfl, rfl⟩   -- (*roundhouse/wire.Reader).count
def rdEnd (l : List UInt8) (p : Nat) (e : Int) : Int × Nat := if e = 0 ∧ p < l.length then (4, p) else (e, p)
theorem cases5 (e : Int) (p n : Nat) : e ≠ 0 ∨ (e = 0 ∧ p < n) ∨ (e = 0 ∧ ¬ p < n) := by omega
set_option maxRecDepth 100000 in
set_option maxHeartbeats 1000000 in
theorem text1_c {W : World} {F : Snap} {cs : List Res} (w : World) {i rb : Nat} {p : Nat} {l : List UInt8} {j k bb nb : Nat} {v0 : Value} (h : St W F cs w) (hi : cs[i]? = some [(rb, .cells #[.string (bs l), Vi p, Vi 0] 93 (0, 0))]) (hk : cs[k]? = some [(bb, .cells #[.pointer (some ⟨rb, 0, none⟩)] 86 (0, 0))]) (hj : cs[j]? = some [(nb, .cells #[v0] 9 (0, 0))]) (hij : i ≠ j ∧ i ≠ k) (hl : l.length ≤ 100000) (hp : p ≤ l.length) : Calls Try.prog 59 #[.pointer (some ⟨bb, 0, none⟩), .pointer (some ⟨nb, 0, none⟩)] w fun r w' =>
  (r = .returned (.tuple #[]) ∧ (cerr l p 4096 = 0 ∧ rnx l p + rval l p ≤ l.length) ∧ St W F ((cs.set i [(rb, .cells #[.string (bs l), Vi (rnx l p + rval l p : Nat), Vi 0] 93 (0, 0))]).set j [(nb, .cells #[.string (bs ((l.drop (rnx l p)).take (rval l p)))] 9 (0, 0))]) w') ∨ (∃ (a : Nat) (e q : Int), r = .panicked (wch a e) ∧ (e ≠ 0 ∧ rdT l p 0 = ([], a, e)) ∧ St W F (cs.set i [(rb, .cells #[.string (bs l), Vi q, Vi 0] 93 (0, 0))]) w')  := by
  refine enter (P := Try.prog) (args := [.pointer (some ⟨bb, 0, none⟩), .pointer (some ⟨nb, 0, none⟩)]) Try.func59 rfl rfl rfl ?_
  refine WC.seq ?_
  refine WC.reg ?_
  refine WL.v (Runs.load1 Try.underlying86 rfl rfl (h.ocell (hk) rfl)) rfl ?_
  refine WL.callP can60 rfl rfl (count_c _ 4096 h hi hl hp) ?_
  rintro _ w1 (⟨he, rfl, h1⟩ | ⟨he, q, rfl, h1⟩)
  rotate_left
  · refine .inr ⟨_, rfl, ?_⟩
    exact die0 (.inr ⟨p, _, q, rfl, ⟨he, by unfold rdT; rw [if_neg (by simp), if_pos he]⟩, h1⟩)
  refine .inl ⟨_, rfl, ?_⟩
  have hi1 : (cs.set i [(rb, .cells #[.string (bs l), Vi (rnx l p : Nat), Vi 0] 93 (0, 0))])[i]? = some [(rb, .cells #[.string (bs l), Vi (rnx l p : Nat), Vi 0] 93 (0, 0))] := by rw [List.getElem?_set_self (List.getElem?_eq_some_iff.1 hi).1]
  have hk1 : (cs.set i [(rb, .cells #[.string (bs l), Vi (rnx l p : Nat), Vi 0] 93 (0, 0))])[k]? = some [(bb, .cells #[.pointer (some ⟨rb, 0, none⟩)] 86 (0, 0))] := by rw [List.getElem?_set_ne hij.2]; exact hk
  have hrn := rnx_le (cerr_0 he).1
  refine WL.v (Runs.assign rfl) rfl ?_
  refine WL.nil ?_
  refine WN.thn ?_
  have hcase : l.length < rnx l p + rval l p ∨ rnx l p + rval l p ≤ l.length := by omega
  rcases hcase with hn | hn
  · skip
    refine WC.eregO h1 (fun s_ => ([6, 7] : List Nat).any (Nat.beq s_)) mixed (by kernel_rfl) (fun hx => ?_)
    intro w2 h2
    refine WE.pure (g := none) hx 1 (by rfl) trivial (by kernel_rfl) (by kernel_rfl) (by kernel_rfl) (by kernel_rfl) (fun w_ => Runs.move rfl) rfl ?_
    refine WE.val (g := none) 12 hx 0 (by rfl) trivial (by kernel_rfl) (by kernel_rfl) (by kernel_rfl) (by kernel_rfl) (fun w_ hE_ => Runs.load1 Try.underlying86 rfl rfl (hE_.ocell (hk1) rfl)) rfl ?_
    refine WE.val (g := none) 12 hx 2 (by rfl) trivial (by kernel_rfl) (by kernel_rfl) (by kernel_rfl) (by kernel_rfl) (fun w_ hE_ => Runs.load1 Try.underlying86 rfl rfl (hE_.ocell (hk1) rfl)) rfl ?_
    refine WE.pure (g := none) hx 3 (by rfl) trivial (by kernel_rfl) (by kernel_rfl) (by kernel_rfl) (by kernel_rfl) (fun w_ => Runs.nilCheckP rfl) rfl ?_
    refine WE.pure (g := none) hx 4 (by rfl) trivial (by kernel_rfl) (by kernel_rfl) (by kernel_rfl) (by kernel_rfl) (fun w_ => Runs.fld fld93_1 rfl) rfl ?_
    refine WE.val (g := none) 12 hx 5 (by rfl) trivial (by kernel_rfl) (by kernel_rfl) (by kernel_rfl) (by kernel_rfl) (fun w_ hE_ => Runs.load1 Try.underlying3 rfl rfl (hE_.ocell hi1 rfl)) rfl ?_
    refine WE.op (.inr h2) (i := 6) (by rfl) (by kernel_rfl) ?_
    refine WL.callP can61 rfl rfl (bytes_no _ (rval l p) (rnx l p) h2 hi1 hl hrn hn (by have := (cerr_0 he).2; omega)) ?_
    rintro _ w3 ⟨rfl, h3⟩
    refine .inr ⟨_, rfl, ?_⟩
    refine WP.region ?_
    exact die0 (.inr ⟨rnx l p, 2, _, rfl, ⟨by decide, by unfold rdT; rw [if_neg (by simp), if_neg (by rw [he]; simp), if_pos hn]⟩, h3⟩)
  · skip
    refine WC.eregO h1 (fun s_ => ([6, 7] : List Nat).any (Nat.beq s_)) mixed (by kernel_rfl) (fun hx => ?_)
    intro w4 h4
    refine WE.pure (g := none) hx 1 (by rfl) trivial (by kernel_rfl) (by kernel_rfl) (by kernel_rfl) (by kernel_rfl) (fun w_ => Runs.move rfl) rfl ?_
    refine WE.val (g := none) 12 hx 0 (by rfl) trivial (by kernel_rfl) (by kernel_rfl) (by kernel_rfl) (by kernel_rfl) (fun w_ hE_ => Runs.load1 Try.underlying86 rfl rfl (hE_.ocell (hk1) rfl)) rfl ?_
    refine WE.val (g := none) 12 hx 2 (by rfl) trivial (by kernel_rfl) (by kernel_rfl) (by kernel_rfl) (by kernel_rfl) (fun w_ hE_ => Runs.load1 Try.underlying86 rfl rfl (hE_.ocell (hk1) rfl)) rfl ?_
    refine WE.pure (g := none) hx 3 (by rfl) trivial (by kernel_rfl) (by kernel_rfl) (by kernel_rfl) (by kernel_rfl) (fun w_ => Runs.nilCheckP rfl) rfl ?_
    refine WE.pure (g := none) hx 4 (by rfl) trivial (by kernel_rfl) (by kernel_rfl) (by kernel_rfl) (by kernel_rfl) (fun w_ => Runs.fld fld93_1 rfl) rfl ?_
    refine WE.val (g := none) 12 hx 5 (by rfl) trivial (by kernel_rfl) (by kernel_rfl) (by kernel_rfl) (by kernel_rfl) (fun w_ hE_ => Runs.load1 Try.underlying3 rfl rfl (hE_.ocell hi1 rfl)) rfl ?_
    refine WE.op (.inr h4) (i := 6) (by rfl) (by kernel_rfl) ?_
    refine WL.call can61 rfl rfl (bytes_ok _ (rval l p) (rnx l p) h4 hi1 hl hrn hn) ?_
    rintro _ w5 ⟨rfl, h5⟩
    refine ⟨_, rfl, ?_⟩
    refine WL.nil ?_
    refine WE.next ?_
    refine WE.op (.inl ⟨6, rfl, by kernel_rfl⟩) (i := 7) (by rfl) (by kernel_rfl) ?_
    refine WL.store' h5 j (by rw [List.set_set, List.getElem?_set_ne hij.1]; exact hj) rfl rfl inf9 rfl rfl (Free.zero _) (Nat.le_of_ble_eq_true rfl) ?_
    intro  w6 h6
    try simp only [List.set_cons_zero, List.set_cons_succ, List.eraseIdx_cons_zero, List.eraseIdx_cons_succ] at h6
    rw [List.set_set] at h6
    refine WL.nil ?_
    refine WE.next ?_
    refine WE.fin (.inl ⟨6, rfl, by kernel_rfl⟩) (by kernel_rfl) ?_
    exact end0 rfl (.inl ⟨rfl, ⟨he, hn⟩, h6⟩)
set_option maxRecDepth 100000 in
set_option maxHeartbeats 1000000 in
theorem readT_off {W : World} {F : Snap} {cs : List Res} (w : World) {i rb : Nat} {p : Nat} {l : List UInt8} {e : Int} (h : St W F cs w) (hi : cs[i]? = some [(rb, .cells #[.string (bs l), Vi p, Vi e] 93 (0, 0))]) (he : e ≠ 0) : Calls Try.prog 54 #[.pointer (some ⟨rb, 0, none⟩)] w fun r w' => r = .returned (.string (bs [])) ∧ St W F cs w'  := by
  refine enter (P := Try.prog) (args := [.pointer (some ⟨rb, 0, none⟩)]) Try.func54 rfl rfl rfl ?_
  refine WC.seq ?_
  refine WC.reg ?_
  refine WL.box rfl h rfl ?_
  intro b1 w1 h1
  refine WL.v (Runs.assign rfl) rfl ?_
  refine WL.nil ?_
  refine WN.thn ?_
  refine WC.seq ?_
  refine WC.reg ?_
  refine WL.alloc' rfl h1 inf9 ?_
  intro b3 w2 h2
  refine WL.store' h2 0 rfl rfl rfl inf9 rfl rfl (Free.zero _) (Nat.le_of_ble_eq_true rfl) ?_
  intro  w3 h3
  try simp only [List.set_cons_zero, List.set_cons_succ, List.eraseIdx_cons_zero, List.eraseIdx_cons_succ] at h3
  refine WL.nil ?_
  refine WN.thn ?_
  refine WC.seq ?_
  refine WC.reg ?_
  refine WL.v (Runs.load1 Try.underlying86 rfl rfl (h3.ocell (i := 1) rfl rfl)) rfl ?_
  refine WL.v (Runs.makeFunc (us := []) (vs := [.pointer (some ⟨b1, 0, none⟩), .pointer (some ⟨b3, 0, none⟩)]) rfl rfl) rfl ?_
  refine WL.call can58 rfl rfl (take_off _ _ h3 (i := i + 2) hi he) ?_
  rintro _ w4 ⟨rfl, h4⟩
  refine ⟨_, rfl, ?_⟩
  refine WL.nil ?_
  refine WN.thn ?_
  refine WC.seq ?_
  refine WC.reg ?_
  refine WL.v (Runs.load1 Try.underlying9 rfl rfl (h4.ocell (i := 0) rfl rfl)) rfl ?_
  refine WL.v (Runs.assign rfl) rfl ?_
  refine WL.nil ?_
  refine WN.thn ?_
  refine WC.ret ?_
  exact ret1 rfl rfl ⟨rfl, (h4.drop 0).drop 0⟩
set_option maxRecDepth 100000 in
set_option maxHeartbeats 1000000 in
theorem readT_on {W : World} {F : Snap} {cs : List Res} (w : World) {i rb : Nat} {p : Nat} {l : List UInt8} (h : St W F cs w) (hi : cs[i]? = some [(rb, .cells #[.string (bs l), Vi p, Vi 0] 93 (0, 0))]) (hl : l.length ≤ 100000) (hp : p ≤ l.length) : Calls Try.prog 54 #[.pointer (some ⟨rb, 0, none⟩)] w fun r w' => r = .returned (.string (bs (rdT l p 0).1)) ∧ St W F (cs.set i [(rb, .cells #[.string (bs l), Vi ((rdT l p 0).2.1 : Nat), Vi (rdT l p 0).2.2] 93 (0, 0))]) w'  := by
  refine enter (P := Try.prog) (args := [.pointer (some ⟨rb, 0, none⟩)]) Try.func54 rfl rfl rfl ?_
  refine WC.seq ?_
  refine WC.reg ?_
  refine WL.box rfl h rfl ?_
  intro b1 w1 h1
  refine WL.v (Runs.assign rfl) rfl ?_
  refine WL.nil ?_
  refine WN.thn ?_
  refine WC.seq ?_
  refine WC.reg ?_
  refine WL.alloc' rfl h1 inf9 ?_
  intro b3 w2 h2
  refine WL.store' h2 0 rfl rfl rfl inf9 rfl rfl (Free.zero _) (Nat.le_of_ble_eq_true rfl) ?_
  intro  w3 h3
  try simp only [List.set_cons_zero, List.set_cons_succ, List.eraseIdx_cons_zero, List.eraseIdx_cons_succ] at h3
  refine WL.nil ?_
  refine WN.thn ?_
  refine WC.seq ?_
  refine WC.reg ?_
  refine WL.v (Runs.load1 Try.underlying86 rfl rfl (h3.ocell (i := 1) rfl rfl)) rfl ?_
  refine WL.v (Runs.makeFunc (us := []) (vs := [.pointer (some ⟨b1, 0, none⟩), .pointer (some ⟨b3, 0, none⟩)]) rfl rfl) rfl ?_
  refine WL.call can58 rfl rfl (take_on (f := 59) (caps := [.pointer (some ⟨b1, 0, none⟩), .pointer (some ⟨b3, 0, none⟩)]) (i := i + 2)
    (K1 := fun cs1 => (cerr l p 4096 = 0 ∧ rnx l p + rval l p ≤ l.length) ∧ cs1 = ([(b3, .cells #[.string (bs ((l.drop (rnx l p)).take (rval l p)))] 9 (0, 0))] :: [(b1, .cells #[.pointer (some ⟨rb, 0, none⟩)] 86 (0, 0))] :: cs.set i [(rb, .cells #[.string (bs l), Vi (rnx l p + rval l p : Nat), Vi 0] 93 (0, 0))])) (K2 := fun a e cs2 => (∃ a', a = ((a' : Nat) : Int) ∧ e ≠ 0 ∧ rdT l p 0 = ([], a', e)) ∧ ∃ q, cs2 = ([(b3, .cells #[.string (bs [])] 9 (0, 0))] :: [(b1, .cells #[.pointer (some ⟨rb, 0, none⟩)] 86 (0, 0))] :: cs.set i [(rb, .cells #[.string (bs l), Vi q, Vi 0] 93 (0, 0))]))
    _ can59 h3 hi (fun G w2 hle hS => (text1_c w2 (i := i + 2) (j := 0) (k := 1) hS hi rfl rfl (by omega) hl hp).mono fun r w3 hh => ?_)) ?_
  · rcases hh with ⟨h1, h2, h3⟩ | ⟨a, e, q, h1, h2, h3⟩
    · exact .inl ⟨_, h1, ⟨h2, rfl⟩, h3⟩
    · exact .inr ⟨a, e, q, _, h1, ⟨⟨a, rfl, h2⟩, q, rfl⟩, by show (cs.set i _)[i]? = _; rw [List.getElem?_set_self (List.getElem?_eq_some_iff.1 hi).1], h3⟩
  rintro _ wt ⟨rfl, hh⟩
  refine ⟨_, rfl, ?_⟩
  obtain ⟨vv, hvv, hS⟩ : ∃ vv, vv = (rdT l p 0).1 ∧ St W F ([(b3, .cells #[.string (bs vv)] 9 (0, 0))] :: [(b1, .cells #[.pointer (some ⟨rb, 0, none⟩)] 86 (0, 0))] :: cs.set i [(rb, .cells #[.string (bs l), Vi ((rdT l p 0).2.1 : Nat), Vi (rdT l p 0).2.2] 93 (0, 0))]) wt := by
    rcases hh with ⟨cs1, ⟨⟨he, hle⟩, rfl⟩, h3⟩ | ⟨_, e, cs2, ⟨⟨a, rfl, _, e1⟩, q, rfl⟩, h3⟩
    · have e1 : rdT l p 0 = ((l.drop (rnx l p)).take (rval l p), rnx l p + rval l p, 0) := by unfold rdT; rw [if_neg (by simp), if_neg (by rw [he]; simp), if_neg (by omega)]
      rw [e1]; exact ⟨_, rfl, h3⟩
    · rw [e1]; refine ⟨_, rfl, ?_⟩
      simp only [List.set_cons_succ, List.set_set] at h3
      exact h3
  refine WL.nil ?_
  refine WN.thn ?_
  refine WC.seq ?_
  refine WC.reg ?_
  refine WL.v (Runs.load1 Try.underlying9 rfl rfl (hS.ocell (i := 0) rfl rfl)) rfl ?_
  refine WL.v (Runs.assign rfl) rfl ?_
  refine WL.nil ?_
  refine WN.thn ?_
  refine WC.ret ?_
  obtain ⟨rfl⟩ := hvv
  exact ret1 rfl rfl ⟨rfl, (hS.drop 0).drop 0⟩
set_option maxRecDepth 100000 in
set_option maxHeartbeats 1000000 in
theorem rend_c {W : World} {F : Snap} {cs : List Res} (w : World) {i rb : Nat} {p : Nat} {l : List UInt8} {e : Int} (h : St W F cs w) (hi : cs[i]? = some [(rb, .cells #[.string (bs l), Vi p, Vi e] 93 (0, 0))]) : Calls Try.prog 55 #[.pointer (some ⟨rb, 0, none⟩)] w fun r w' => r = .returned (.tuple #[Vi (rdEnd l p e).1, Vi ((rdEnd l p e).2 : Nat)]) ∧ St W F cs w'  := by
  refine enter (P := Try.prog) (args := [.pointer (some ⟨rb, 0, none⟩)]) Try.func55 rfl rfl rfl ?_
  refine WC.seq ?_
  refine WC.reg ?_
  refine WL.v (Runs.assign rfl) rfl ?_
  refine WL.v (Runs.assign rfl) rfl ?_
  refine WL.nil ?_
  refine WN.thn ?_
  refine WC.seq ?_
  refine WC.block ?_
  refine WC.seq ?_
  refine WC.reg ?_
  refine WL.v (Runs.move rfl) rfl ?_
  refine WL.v (Runs.peql Try.underlying86 rfl rfl) rfl ?_
  refine WL.v (Runs.assign rfl) rfl ?_
  refine WL.nil ?_
  refine WN.thn ?_
  refine WC.condF rfl (rfl) ?_
  refine WC.seq ?_
  rcases cases5 e p l.length with hx1 | ⟨hx1, hx2⟩ | ⟨hx1, hx2⟩
  · skip
    refine WC.qreg (C := fun w_ => St W _ _ w_) mixed (by kernel_rfl) (h.drew) ?_
    refine WQ.val (fun w_ hC_ => Runs.move rfl) rfl ?_
    refine WQ.val (fun w_ hC_ => Runs.nilCheckP rfl) rfl ?_
    refine WQ.val (fun w_ hC_ => Runs.fld fld93_2 rfl) rfl ?_
    refine WQ.val (fun w_ hC_ => Runs.load1 Try.underlying25 rfl rfl (hC_.ocell hi rfl)) rfl ?_
    refine WQ.val (fun w_ hC_ => Runs.boolT (c := false) (Runs.eql rfl rfl) (decide_eq_false hx1)) rfl ?_
    refine WQ.val (fun w_ hC_ => Runs.move rfl) rfl ?_
    refine WQ.goff rfl rfl rfl rfl ?_
    refine WQ.goff rfl rfl rfl rfl ?_
    refine WQ.goff rfl rfl rfl rfl ?_
    refine WQ.goff rfl rfl rfl rfl ?_
    refine WQ.goff rfl rfl rfl rfl ?_
    refine WQ.goff rfl rfl rfl rfl ?_
    refine WQ.goff rfl rfl rfl rfl ?_
    refine WQ.goff rfl rfl rfl rfl ?_
    refine WQ.goff rfl rfl rfl rfl ?_
    refine WQ.goff rfl rfl rfl rfl ?_
    refine WQ.val (fun w_ hC_ => Runs.pick rfl rfl rfl) rfl ?_
    refine WQ.val (fun w_ hC_ => Runs.assign rfl) rfl ?_
    refine WQ.fin ?_
    intro w1 h1
    refine WN.thn ?_
    refine WC.condF rfl (rfl) ?_
    refine WC.skip ?_
    refine WN.blk ?_
    refine WN.thn ?_
    refine WC.seq ?_
    refine WC.qreg (C := fun w_ => St W _ _ w_) mixed (by kernel_rfl) (h1.drew) ?_
    refine WQ.val (fun w_ hC_ => Runs.move rfl) rfl ?_
    refine WQ.val (fun w_ hC_ => Runs.nilCheckP rfl) rfl ?_
    refine WQ.val (fun w_ hC_ => Runs.fld fld93_2 rfl) rfl ?_
    refine WQ.val (fun w_ hC_ => Runs.load1 Try.underlying25 rfl rfl (hC_.ocell hi rfl)) rfl ?_
    refine WQ.val (fun w_ hC_ => Runs.move rfl) rfl ?_
    refine WQ.val (fun w_ hC_ => Runs.nilCheckP rfl) rfl ?_
    refine WQ.val (fun w_ hC_ => Runs.fld fld93_1 rfl) rfl ?_
    refine WQ.val (fun w_ hC_ => Runs.load1 Try.underlying3 rfl rfl (hC_.ocell hi rfl)) rfl ?_
    refine WQ.val (fun w_ hC_ => Runs.assign rfl) rfl ?_
    refine WQ.val (fun w_ hC_ => Runs.assign rfl) rfl ?_
    refine WQ.fin ?_
    intro w2 h2
    refine WN.thn ?_
    refine WC.ret ?_
    refine ret2 rfl rfl rfl ⟨?_, h2⟩
    unfold rdEnd
    rw [if_neg (fun h => hx1 h.1)]
    rfl
  · skip
    refine WC.qreg (C := fun w_ => St W _ _ w_) mixed (by kernel_rfl) (h.drew) ?_
    refine WQ.val (fun w_ hC_ => Runs.move rfl) rfl ?_
    refine WQ.val (fun w_ hC_ => Runs.nilCheckP rfl) rfl ?_
    refine WQ.val (fun w_ hC_ => Runs.fld fld93_2 rfl) rfl ?_
    refine WQ.val (fun w_ hC_ => Runs.load1 Try.underlying25 rfl rfl (hC_.ocell hi rfl)) rfl ?_
    refine WQ.val (fun w_ hC_ => Runs.boolT (c := true) (Runs.eql rfl rfl) (decide_eq_true hx1)) rfl ?_
    refine WQ.val (fun w_ hC_ => Runs.move rfl) rfl ?_
    refine WQ.gon rfl rfl rfl ?_
    refine WQ.val (fun w_ hC_ => Runs.move rfl) rfl ?_
    refine WQ.gon rfl rfl rfl ?_
    refine WQ.val (fun w_ hC_ => Runs.nilCheckP rfl) rfl ?_
    refine WQ.gon rfl rfl rfl ?_
    refine WQ.val (fun w_ hC_ => Runs.fld fld93_1 rfl) rfl ?_
    refine WQ.gon rfl rfl rfl ?_
    refine WQ.val (fun w_ hC_ => Runs.load1 Try.underlying3 rfl rfl (hC_.ocell hi rfl)) rfl ?_
    refine WQ.gon rfl rfl rfl ?_
    refine WQ.val (fun w_ hC_ => Runs.move rfl) rfl ?_
    refine WQ.gon rfl rfl rfl ?_
    refine WQ.val (fun w_ hC_ => Runs.nilCheckP rfl) rfl ?_
    refine WQ.gon rfl rfl rfl ?_
    refine WQ.val (fun w_ hC_ => Runs.fld fld93_0 rfl) rfl ?_
    refine WQ.gon rfl rfl rfl ?_
    refine WQ.val (fun w_ hC_ => Runs.load1 Try.underlying9 rfl rfl (hC_.ocell hi rfl)) rfl ?_
    refine WQ.gon rfl rfl rfl ?_
    refine WQ.val (fun w_ hC_ => Runs.intT (n := (l.length : Int)) (Runs.slen Try.underlying9 rfl rfl) rfl) rfl ?_
    refine WQ.gon rfl rfl rfl ?_
    refine WQ.val (fun w_ hC_ => Runs.boolT (c := true) (Runs.lss rfl rfl) (by rw [decide_eq_true_eq]; omega)) rfl ?_
    refine WQ.val (fun w_ hC_ => Runs.pick rfl rfl rfl) rfl ?_
    refine WQ.val (fun w_ hC_ => Runs.assign rfl) rfl ?_
    refine WQ.fin ?_
    intro w3 h3
    refine WN.thn ?_
    refine WC.condT rfl (rfl) ?_
    refine WC.seq ?_
    refine WC.qreg (C := fun w_ => St W _ _ w_) mixed (by kernel_rfl) (h3.drew) ?_
    refine WQ.val (fun w_ hC_ => Runs.move rfl) rfl ?_
    refine WQ.val (fun w_ hC_ => Runs.nilCheckP rfl) rfl ?_
    refine WQ.val (fun w_ hC_ => Runs.fld fld93_1 rfl) rfl ?_
    refine WQ.val (fun w_ hC_ => Runs.load1 Try.underlying3 rfl rfl (hC_.ocell hi rfl)) rfl ?_
    refine WQ.val (fun w_ hC_ => Runs.assign rfl) rfl ?_
    refine WQ.val (fun w_ hC_ => Runs.assign rfl) rfl ?_
    refine WQ.fin ?_
    intro w4 h4
    refine WN.thn ?_
    refine WC.ret ?_
    refine ret2 rfl rfl rfl ⟨?_, h4⟩
    unfold rdEnd
    rw [if_pos ⟨hx1, hx2⟩]
    rfl
  · skip
    refine WC.qreg (C := fun w_ => St W _ _ w_) mixed (by kernel_rfl) (h.drew) ?_
    refine WQ.val (fun w_ hC_ => Runs.move rfl) rfl ?_
    refine WQ.val (fun w_ hC_ => Runs.nilCheckP rfl) rfl ?_
    refine WQ.val (fun w_ hC_ => Runs.fld fld93_2 rfl) rfl ?_
    refine WQ.val (fun w_ hC_ => Runs.load1 Try.underlying25 rfl rfl (hC_.ocell hi rfl)) rfl ?_
    refine WQ.val (fun w_ hC_ => Runs.boolT (c := true) (Runs.eql rfl rfl) (decide_eq_true hx1)) rfl ?_
    refine WQ.val (fun w_ hC_ => Runs.move rfl) rfl ?_
    refine WQ.gon rfl rfl rfl ?_
    refine WQ.val (fun w_ hC_ => Runs.move rfl) rfl ?_
    refine WQ.gon rfl rfl rfl ?_
    refine WQ.val (fun w_ hC_ => Runs.nilCheckP rfl) rfl ?_
    refine WQ.gon rfl rfl rfl ?_
    refine WQ.val (fun w_ hC_ => Runs.fld fld93_1 rfl) rfl ?_
    refine WQ.gon rfl rfl rfl ?_
    refine WQ.val (fun w_ hC_ => Runs.load1 Try.underlying3 rfl rfl (hC_.ocell hi rfl)) rfl ?_
    refine WQ.gon rfl rfl rfl ?_
    refine WQ.val (fun w_ hC_ => Runs.move rfl) rfl ?_
    refine WQ.gon rfl rfl rfl ?_
    refine WQ.val (fun w_ hC_ => Runs.nilCheckP rfl) rfl ?_
    refine WQ.gon rfl rfl rfl ?_
    refine WQ.val (fun w_ hC_ => Runs.fld fld93_0 rfl) rfl ?_
    refine WQ.gon rfl rfl rfl ?_
    refine WQ.val (fun w_ hC_ => Runs.load1 Try.underlying9 rfl rfl (hC_.ocell hi rfl)) rfl ?_
    refine WQ.gon rfl rfl rfl ?_
    refine WQ.val (fun w_ hC_ => Runs.intT (n := (l.length : Int)) (Runs.slen Try.underlying9 rfl rfl) rfl) rfl ?_
    refine WQ.gon rfl rfl rfl ?_
    refine WQ.val (fun w_ hC_ => Runs.boolT (c := false) (Runs.lss rfl rfl) (by rw [decide_eq_false_iff_not]; omega)) rfl ?_
    refine WQ.val (fun w_ hC_ => Runs.pick rfl rfl rfl) rfl ?_
    refine WQ.val (fun w_ hC_ => Runs.assign rfl) rfl ?_
    refine WQ.fin ?_
    intro w5 h5
    refine WN.thn ?_
    refine WC.condF rfl (rfl) ?_
    refine WC.skip ?_
    refine WN.blk ?_
    refine WN.thn ?_
    refine WC.seq ?_
    refine WC.qreg (C := fun w_ => St W _ _ w_) mixed (by kernel_rfl) (h5.drew) ?_
    refine WQ.val (fun w_ hC_ => Runs.move rfl) rfl ?_
    refine WQ.val (fun w_ hC_ => Runs.nilCheckP rfl) rfl ?_
    refine WQ.val (fun w_ hC_ => Runs.fld fld93_2 rfl) rfl ?_
    refine WQ.val (fun w_ hC_ => Runs.load1 Try.underlying25 rfl rfl (hC_.ocell hi rfl)) rfl ?_
    refine WQ.val (fun w_ hC_ => Runs.move rfl) rfl ?_
    refine WQ.val (fun w_ hC_ => Runs.nilCheckP rfl) rfl ?_
    refine WQ.val (fun w_ hC_ => Runs.fld fld93_1 rfl) rfl ?_
    refine WQ.val (fun w_ hC_ => Runs.load1 Try.underlying3 rfl rfl (hC_.ocell hi rfl)) rfl ?_
    refine WQ.val (fun w_ hC_ => Runs.assign rfl) rfl ?_
    refine WQ.val (fun w_ hC_ => Runs.assign rfl) rfl ?_
    refine WQ.fin ?_
    intro w6 h6
    refine WN.thn ?_
    refine WC.ret ?_
    refine ret2 rfl rfl rfl ⟨?_, h6⟩
    unfold rdEnd
    rw [if_neg (fun h => hx2 h.2)]
    rfl
set_option maxRecDepth 100000 in
set_option maxHeartbeats 1000000 in
theorem rend_nil {W : World} {F : Snap} {cs : List Res} (w : World) (h : St W F cs w) : Calls Try.prog 55 #[.pointer none] w fun r w' => r = .returned (.tuple #[Vi 1, Vi 0]) ∧ St W F cs w'  := by
  refine enter (P := Try.prog) (args := [.pointer none]) Try.func55 rfl rfl rfl ?_
  refine WC.seq ?_
  refine WC.reg ?_
  refine WL.v (Runs.assign rfl) rfl ?_
  refine WL.v (Runs.assign rfl) rfl ?_
  refine WL.nil ?_
  refine WN.thn ?_
  refine WC.seq ?_
  refine WC.block ?_
  refine WC.seq ?_
  refine WC.reg ?_
  refine WL.v (Runs.move rfl) rfl ?_
  refine WL.v (Runs.peql Try.underlying86 rfl rfl) rfl ?_
  refine WL.v (Runs.assign rfl) rfl ?_
  refine WL.nil ?_
  refine WN.thn ?_
  refine WC.condT rfl (rfl) ?_
  refine WC.seq ?_
  refine WC.reg ?_
  refine WL.v (Runs.assign rfl) rfl ?_
  refine WL.v (Runs.assign rfl) rfl ?_
  refine WL.nil ?_
  refine WN.thn ?_
  refine WC.ret ?_
  exact ret2 rfl rfl rfl ⟨rfl, h⟩
set_option maxRecDepth 100000 in
set_option maxHeartbeats 1000000 in
theorem read_c {W : World} {F : Snap} {cs : List Res} (w : World) (l : List UInt8) (h : St W F cs w) : Calls Try.prog 53 #[.string (bs l)] w fun r w' => ∃ rb, r = .returned (.pointer (some ⟨rb, 0, none⟩)) ∧ St W F ([(rb, .cells #[.string (bs l), Vi (0 : Nat), Vi 0] 93 (0, 0))] :: cs) w'  := by
  refine enter (P := Try.prog) (args := [.string (bs l)]) Try.func53 rfl rfl rfl ?_
  refine WC.seq ?_
  refine WC.reg ?_
  refine WL.v (Runs.assign rfl) rfl ?_
  refine WL.nil ?_
  refine WN.thn ?_
  refine WC.seq ?_
  refine WC.reg ?_
  refine WL.v (Runs.move rfl) rfl ?_
  refine WL.v (Runs.build (vs := [(0, .string (bs l))]) (cells := #[.string (bs l), Vi 0, Vi 0]) rfl (by kernel_rfl)) rfl ?_
  refine WL.box rfl h rfl ?_
  intro b5 w1 h1
  refine WL.v (Runs.assign rfl) rfl ?_
  refine WL.nil ?_
  refine WN.thn ?_
  refine WC.ret ?_
  exact ret1 rfl rfl ⟨b5, rfl, h1⟩
end Wir
end Go.Proofs.Ythjcfhfbaeokeaa
