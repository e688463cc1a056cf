/- Walks of the reference of chapter 14: a new tally. -/
import Derived.Test.YtkgmlngmojnpmaaProg
import Derived.Test.YtkgmlngmojnpmaaBaseQ
import Derived.Test.YtkgmlngmojnpmaaTal5
namespace Go.Proofs.Ytkgmlngmojnpmaa
open Go Go.RowKit B
set_option linter.unusedVariables false
set_option linter.unusedSimpArgs false
namespace Tal

theorem inf22 : Inf Try.prog 22 (.slice none 0 0) 1 24 := by unfold Inf; kernel_rfl
theorem fld51_0 : fldB Try.prog 51 0 0 = true := by kernel_rfl
theorem fld51_1 : fldB Try.prog 51 1 1 = true := by kernel_rfl
theorem fld51_2 : fldB Try.prog 51 2 2 = true := by kernel_rfl
def okp (ns : List Int) (m : Nat) : Prop := (∀ k, k < m → 0 ≤ ns.getD k 0 ∧ ns.getD k 0 < 16) ∧ ∀ k, k + 1 < m → ns.getD k 0 < ns.getD (k + 1) 0
theorem okp_succ {ns : List Int} {k : Nat} (h : okp ns k) (h1 : 0 ≤ ns.getD k 0 ∧ ns.getD k 0 ≤ 15) (h2 : 0 < k → ns.getD (k - 1) 0 < ns.getD k 0) : okp ns (k + 1) := by
  refine ⟨fun j hj => ?_, fun j hj => ?_⟩
  · by_cases e : j = k
    · subst e; omega
    · exact h.1 j (by omega)
  · by_cases e : j + 1 = k
    · have := h2 (by omega)
      rw [show k - 1 = j by omega] at this
      rw [e]; exact this
    · exact h.2 j (by omega)
set_option maxRecDepth 100000 in
set_option maxHeartbeats 4000000 in
theorem rnew_c {W : World} {F : Snap} {cs : List Res} (w : World) {A : Option Addr} {cap : Nat} {ns : List Int} (h : St W F cs w) (hR : RdS (Kd.one Vi) F A ns) (h0 : 0 < ns.length) (hn : ns.length ≤ 16) : Calls Try.prog 11 #[.slice A ns.length cap] w fun e w' => (¬ oks ns ∧ e = .returned (.pointer none) ∧ St W F cs w') ∨ (oks ns ∧ ∃ b rN vN rV vV rC vC, e = .returned (.pointer (some ⟨b, 0, none⟩)) ∧ Row 3 Vi rN vN ns ∧ Row 3 Vi rV vV (ns.map fun _ => 0) ∧ Row 3 Vi rC vC (ns.map fun _ => -1) ∧ St W F ([(b, .cells #[vN, vV, vC] 51 (0, 0))] :: rN :: rV :: rC :: cs) w')  := by
  refine enter (P := Try.prog) (args := [.slice A ns.length cap]) Try.func11 rfl rfl rfl ?_
  obtain ⟨ad, rfl, hrd⟩ := rd1 hR h0
  refine WC.seq ?_
  refine WC.reg ?_
  refine WL.v (Runs.assign rfl) rfl ?_
  refine WL.nil ?_
  refine WN.thn ?_
  refine WC.seq ?_
  refine WC.seq ?_
  refine WC.reg ?_
  refine WL.v (Runs.move rfl) rfl ?_
  refine WL.v (Runs.llen Try.underlying22 rfl rfl) rfl ?_
  refine WL.v (Runs.boolT (c := false) (Runs.lss rfl rfl) (by rw [decide_eq_false_iff_not]; omega)) rfl ?_
  refine WL.v (Runs.move rfl) rfl ?_
  refine WL.gon rfl rfl rfl ?_
  refine WL.v (Runs.move rfl) rfl ?_
  refine WL.gon rfl rfl rfl ?_
  refine WL.v (Runs.llen Try.underlying22 rfl rfl) rfl ?_
  refine WL.gon rfl rfl rfl ?_
  refine WL.v (Runs.boolT (c := false) (Runs.gtr rfl rfl) (by rw [decide_eq_false_iff_not]; omega)) rfl ?_
  refine WL.v (Runs.pick rfl rfl rfl) rfl ?_
  refine WL.nil ?_
  refine WN.thn ?_
  refine WC.condF rfl (rfl) ?_
  refine WC.skip ?_
  refine WN.thn ?_
  refine WC.seq ?_
  refine WC.reg ?_
  refine WL.v (Runs.build (vs := []) (cells := #[.slice none 0 0, .slice none 0 0, .slice none 0 0]) rfl (by kernel_rfl)) rfl ?_
  refine WL.box rfl h rfl ?_
  intro b14 w1 h1
  refine WL.v (Runs.assign rfl) rfl ?_
  refine WL.nil ?_
  refine WN.thn ?_
  refine WC.seq ?_
  refine WC.seq ?_
  have hS := (((h1.nilRes).nilRes).nilRes)
  replace hS : St W F ([(b14, .cells #[.slice none 0 0, .slice none 0 0, .slice none 0 0] 51 (0, 0))] :: [] :: [] :: [] :: cs) w1 := by
    refine hS.perm ?_
    exact (List.perm_append_comm (l₁ := [_]) (l₂ := [[], [], []])).append_right cs
  refine WC.reg ?_
  refine WL.v (Runs.assign rfl) rfl ?_
  refine WL.nil ?_
  refine WN.thn ?_
  refine WC.block ?_
  refine WC.loop (σ := Nat × Res × Value × Res × Value × Res × Value) (fun q_ => [(0, .slice (some ad) ns.length cap), (3, .pointer (some ⟨b14, 0, none⟩)), (4, .int .i64 (q_.1 : Int))]) (fun q_ w => q_.1 ≤ ns.length ∧ okp ns q_.1 ∧ Row 3 Vi q_.2.1 q_.2.2.1 (ns.take q_.1) ∧ Row 3 Vi q_.2.2.2.1 q_.2.2.2.2.1 ((ns.take q_.1).map fun _ => 0) ∧ Row 3 Vi q_.2.2.2.2.2.1 q_.2.2.2.2.2.2 ((ns.take q_.1).map fun _ => -1) ∧ St W F ([(b14, .cells #[q_.2.2.1, q_.2.2.2.2.1, q_.2.2.2.2.2.2] 51 (0, 0))] :: q_.2.1 :: q_.2.2.2.1 :: q_.2.2.2.2.2.1 :: cs) w) (fun q_ => ns.length - q_.1) (⟨0, [], .slice none 0 0, [], .slice none 0 0, [], .slice none 0 0⟩) (by repeat (first | exact trivial | refine ⟨rfl, ?_⟩)) (⟨by omega, ⟨fun j hj => absurd hj (Nat.not_lt_zero _), fun j hj => absurd hj (Nat.not_lt_zero _)⟩, Row.nil _ _, Row.nil _ _, Row.nil _ _, hS⟩) ?_
  rintro ⟨k, rN, vN, rV, vV, rC, vC⟩ w2 ⟨hk, hok, hrN, hrV, hrC, hL⟩
  try dsimp only at hk hok hrN hrV hrC hL
  refine WC.sub (s := [(0, .slice (some ad) ns.length cap), (3, .pointer (some ⟨b14, 0, none⟩)), (4, .int .i64 (k : Int))]) (by repeat (first | exact trivial | refine ⟨rfl, ?_⟩)) ?_
  obtain ⟨AN, cN, rfl, hcN⟩ := hrN.val
  obtain ⟨AV, cV, rfl, hcV⟩ := hrV.val
  obtain ⟨AC, cC, rfl, hcC⟩ := hrC.val
  have hlk : (ns.take k).length = k := by rw [List.length_take]; omega
  refine WC.seq ?_
  refine WC.seq ?_
  refine WC.reg ?_
  refine WL.v (Runs.move rfl) rfl ?_
  refine WL.v (Runs.move rfl) rfl ?_
  refine WL.v (Runs.llen Try.underlying22 rfl rfl) rfl ?_
  refine WL.v (Runs.lss rfl rfl) rfl ?_
  refine WL.nil ?_
  refine WN.thn ?_
  refine WC.cond rfl (fun c3 => ?_) (fun c3 => ?_)
  · try simp only [decide_eq_true_eq, decide_eq_false_iff_not, Bool.not_eq_true', Bool.not_eq_false', Bool.and_eq_true, Int.not_lt, Int.not_le] at c3
    first
    | (exfalso; omega)
    | skip
      refine WC.skip ?_
      refine WN.thn ?_
      refine WC.seq ?_
      refine WC.block ?_
      refine WC.seq ?_
      refine WC.seq ?_
      have hcase : ns.getD k 0 < 0 ∨ (0 ≤ ns.getD k 0 ∧ 15 < ns.getD k 0) ∨ (0 ≤ ns.getD k 0 ∧ ns.getD k 0 ≤ 15 ∧ k = 0) ∨ (0 ≤ ns.getD k 0 ∧ ns.getD k 0 ≤ 15 ∧ 0 < k ∧ ns.getD k 0 ≤ ns.getD (k - 1) 0) ∨ (0 ≤ ns.getD k 0 ∧ ns.getD k 0 ≤ 15 ∧ 0 < k ∧ ns.getD (k - 1) 0 < ns.getD k 0) := by omega
      rcases hcase with hA | hB | hC | hD | hE
      · skip
        refine WC.qreg (C := fun w_ => St W _ _ w_) mixed (by kernel_rfl) (hL.drew) ?_
        refine WQ.val (fun w_ hC_ => Runs.move rfl) rfl ?_
        refine WQ.val (fun w_ hC_ => Runs.move rfl) rfl ?_
        refine WQ.val (fun w_ hC_ => Runs.lidxN Try.underlying22 inf3 rfl rfl (n := k) rfl (by omega)) rfl ?_
        refine WQ.val (fun w_ hC_ => Runs.loadR (f := Vi) (0 : Int) hC_ hrd (n := k) (by omega) Try.underlying3 rfl rfl) rfl ?_
        refine WQ.val (fun w_ hC_ => Runs.boolT (c := true) (Runs.lss rfl rfl) (by rw [decide_eq_true_eq]; omega)) rfl ?_
        refine WQ.val (fun w_ hC_ => Runs.move rfl) rfl ?_
        refine WQ.goff rfl rfl rfl rfl ?_
        refine WQ.goff rfl rfl rfl rfl ?_
        refine WQ.goff rfl rfl rfl rfl ?_
        refine WQ.goff rfl rfl rfl rfl ?_
        refine WQ.goff rfl rfl rfl rfl ?_
        refine WQ.val (fun w_ hC_ => Runs.pick rfl rfl rfl) rfl ?_
        refine WQ.val (fun w_ hC_ => Runs.move rfl) rfl ?_
        refine WQ.goff rfl rfl rfl rfl ?_
        refine WQ.goff rfl rfl rfl rfl ?_
        refine WQ.goff rfl rfl rfl rfl ?_
        refine WQ.goffU rfl rfl rfl ?_
        refine WQ.goffU rfl rfl rfl ?_
        refine WQ.goffU rfl rfl rfl ?_
        refine WQ.goffU rfl rfl rfl ?_
        refine WQ.goffU rfl rfl rfl ?_
        refine WQ.goffU rfl rfl rfl ?_
        refine WQ.goffU rfl rfl rfl ?_
        refine WQ.goffU rfl rfl rfl ?_
        refine WQ.goffU rfl rfl rfl ?_
        refine WQ.goffU rfl rfl rfl ?_
        refine WQ.goff rfl rfl rfl rfl ?_
        refine WQ.val (fun w_ hC_ => Runs.pick rfl rfl rfl) rfl ?_
        refine WQ.fin ?_
        intro w4 h4
        refine WN.thn ?_
        refine WC.condT rfl (rfl) ?_
        refine WC.seq ?_
        refine WC.reg ?_
        refine WL.v (Runs.assign rfl) rfl ?_
        refine WL.nil ?_
        refine WN.thn ?_
        refine WC.ret ?_
        exact ret1 rfl rfl (.inl ⟨fun hh => by have := (hh.1 k (by omega)).1; omega, rfl, ((((h4.drop 0).drop 0).drop 0).drop 0)⟩)
      · skip
        refine WC.qreg (C := fun w_ => St W _ _ w_) mixed (by kernel_rfl) (hL.drew) ?_
        refine WQ.val (fun w_ hC_ => Runs.move rfl) rfl ?_
        refine WQ.val (fun w_ hC_ => Runs.move rfl) rfl ?_
        refine WQ.val (fun w_ hC_ => Runs.lidxN Try.underlying22 inf3 rfl rfl (n := k) rfl (by omega)) rfl ?_
        refine WQ.val (fun w_ hC_ => Runs.loadR (f := Vi) (0 : Int) hC_ hrd (n := k) (by omega) Try.underlying3 rfl rfl) rfl ?_
        refine WQ.val (fun w_ hC_ => Runs.boolT (c := false) (Runs.lss rfl rfl) (by rw [decide_eq_false_iff_not]; omega)) rfl ?_
        refine WQ.val (fun w_ hC_ => Runs.move rfl) rfl ?_
        refine WQ.gon rfl rfl rfl ?_
        refine WQ.val (fun w_ hC_ => Runs.move rfl) rfl ?_
        refine WQ.gon rfl rfl rfl ?_
        refine WQ.val (fun w_ hC_ => Runs.move rfl) rfl ?_
        refine WQ.gon rfl rfl rfl ?_
        refine WQ.val (fun w_ hC_ => Runs.lidxN Try.underlying22 inf3 rfl rfl (n := k) rfl (by omega)) rfl ?_
        refine WQ.gon rfl rfl rfl ?_
        refine WQ.val (fun w_ hC_ => Runs.loadR (f := Vi) (0 : Int) hC_ hrd (n := k) (by omega) Try.underlying3 rfl rfl) rfl ?_
        refine WQ.gon rfl rfl rfl ?_
        refine WQ.val (fun w_ hC_ => Runs.boolT (c := true) (Runs.gtr rfl rfl) (by rw [decide_eq_true_eq]; omega)) rfl ?_
        refine WQ.val (fun w_ hC_ => Runs.pick rfl rfl rfl) rfl ?_
        refine WQ.val (fun w_ hC_ => Runs.move rfl) rfl ?_
        refine WQ.goff rfl rfl rfl rfl ?_
        refine WQ.goff rfl rfl rfl rfl ?_
        refine WQ.goff rfl rfl rfl rfl ?_
        refine WQ.goffU rfl rfl rfl ?_
        refine WQ.goffU rfl rfl rfl ?_
        refine WQ.goffU rfl rfl rfl ?_
        refine WQ.goffU rfl rfl rfl ?_
        refine WQ.goffU rfl rfl rfl ?_
        refine WQ.goffU rfl rfl rfl ?_
        refine WQ.goffU rfl rfl rfl ?_
        refine WQ.goffU rfl rfl rfl ?_
        refine WQ.goffU rfl rfl rfl ?_
        refine WQ.goffU rfl rfl rfl ?_
        refine WQ.goff rfl rfl rfl rfl ?_
        refine WQ.val (fun w_ hC_ => Runs.pick rfl rfl rfl) rfl ?_
        refine WQ.fin ?_
        intro w5 h5
        refine WN.thn ?_
        refine WC.condT rfl (rfl) ?_
        refine WC.seq ?_
        refine WC.reg ?_
        refine WL.v (Runs.assign rfl) rfl ?_
        refine WL.nil ?_
        refine WN.thn ?_
        refine WC.ret ?_
        exact ret1 rfl rfl (.inl ⟨fun hh => by have := (hh.1 k (by omega)).2; omega, rfl, ((((h5.drop 0).drop 0).drop 0).drop 0)⟩)
      · skip
        refine WC.qreg (C := fun w_ => St W _ _ w_) mixed (by kernel_rfl) (hL.drew) ?_
        refine WQ.val (fun w_ hC_ => Runs.move rfl) rfl ?_
        refine WQ.val (fun w_ hC_ => Runs.move rfl) rfl ?_
        refine WQ.val (fun w_ hC_ => Runs.lidxN Try.underlying22 inf3 rfl rfl (n := k) rfl (by omega)) rfl ?_
        refine WQ.val (fun w_ hC_ => Runs.loadR (f := Vi) (0 : Int) hC_ hrd (n := k) (by omega) Try.underlying3 rfl rfl) rfl ?_
        refine WQ.val (fun w_ hC_ => Runs.boolT (c := false) (Runs.lss rfl rfl) (by rw [decide_eq_false_iff_not]; omega)) rfl ?_
        refine WQ.val (fun w_ hC_ => Runs.move rfl) rfl ?_
        refine WQ.gon rfl rfl rfl ?_
        refine WQ.val (fun w_ hC_ => Runs.move rfl) rfl ?_
        refine WQ.gon rfl rfl rfl ?_
        refine WQ.val (fun w_ hC_ => Runs.move rfl) rfl ?_
        refine WQ.gon rfl rfl rfl ?_
        refine WQ.val (fun w_ hC_ => Runs.lidxN Try.underlying22 inf3 rfl rfl (n := k) rfl (by omega)) rfl ?_
        refine WQ.gon rfl rfl rfl ?_
        refine WQ.val (fun w_ hC_ => Runs.loadR (f := Vi) (0 : Int) hC_ hrd (n := k) (by omega) Try.underlying3 rfl rfl) rfl ?_
        refine WQ.gon rfl rfl rfl ?_
        refine WQ.val (fun w_ hC_ => Runs.boolT (c := false) (Runs.gtr rfl rfl) (by rw [decide_eq_false_iff_not]; omega)) rfl ?_
        refine WQ.val (fun w_ hC_ => Runs.pick rfl rfl rfl) rfl ?_
        refine WQ.val (fun w_ hC_ => Runs.move rfl) rfl ?_
        refine WQ.gon rfl rfl rfl ?_
        refine WQ.val (fun w_ hC_ => Runs.move rfl) rfl ?_
        refine WQ.gon rfl rfl rfl ?_
        refine WQ.val (fun w_ hC_ => Runs.boolT (c := false) (Runs.gtr rfl rfl) (by rw [decide_eq_false_iff_not]; omega)) rfl ?_
        refine WQ.gon rfl rfl rfl ?_
        refine WQ.val (fun w_ hC_ => Runs.move rfl) rfl ?_
        refine WQ.goff rfl rfl rfl rfl ?_
        refine WQ.goff rfl rfl rfl rfl ?_
        refine WQ.goff rfl rfl rfl rfl ?_
        refine WQ.goff rfl rfl rfl rfl ?_
        refine WQ.goff rfl rfl rfl rfl ?_
        refine WQ.goff rfl rfl rfl rfl ?_
        refine WQ.goff rfl rfl rfl rfl ?_
        refine WQ.goff rfl rfl rfl rfl ?_
        refine WQ.goff rfl rfl rfl rfl ?_
        refine WQ.goff rfl rfl rfl rfl ?_
        refine WQ.gon rfl rfl rfl ?_
        refine WQ.val (fun w_ hC_ => Runs.pick rfl rfl rfl) rfl ?_
        refine WQ.val (fun w_ hC_ => Runs.pick rfl rfl rfl) rfl ?_
        refine WQ.fin ?_
        intro w6 h6
        refine WN.thn ?_
        refine WC.condF rfl (rfl) ?_
        refine WC.skip ?_
        refine WN.thn ?_
        refine WC.seq ?_
        refine WC.eregO h6 (fun s_ => ([10, 13] : List Nat).any (Nat.beq s_)) mixed (by kernel_rfl) (fun hx => ?_)
        intro w7 h7
        refine WE.pure (g := none) hx 0 (by rfl) trivial (by kernel_rfl) (by kernel_rfl) (by kernel_rfl) (by kernel_rfl) (fun w_ => Runs.move rfl) rfl ?_
        refine WE.pure (g := none) hx 1 (by rfl) trivial (by kernel_rfl) (by kernel_rfl) (by kernel_rfl) (by kernel_rfl) (fun w_ => Runs.move rfl) rfl ?_
        refine WE.pure (g := none) hx 2 (by rfl) trivial (by kernel_rfl) (by kernel_rfl) (by kernel_rfl) (by kernel_rfl) (fun w_ => Runs.nilCheckP rfl) rfl ?_
        refine WE.pure (g := none) hx 3 (by rfl) trivial (by kernel_rfl) (by kernel_rfl) (by kernel_rfl) (by kernel_rfl) (fun w_ => Runs.fld fld51_0 rfl) rfl ?_
        refine WE.pure (g := none) hx 5 (by rfl) trivial (by kernel_rfl) (by kernel_rfl) (by kernel_rfl) (by kernel_rfl) (fun w_ => Runs.move rfl) rfl ?_
        refine WE.pure (g := none) hx 6 (by rfl) trivial (by kernel_rfl) (by kernel_rfl) (by kernel_rfl) (by kernel_rfl) (fun w_ => Runs.move rfl) rfl ?_
        refine WE.pure (g := none) hx 7 (by rfl) trivial (by kernel_rfl) (by kernel_rfl) (by kernel_rfl) (by kernel_rfl) (fun w_ => Runs.lidxN Try.underlying22 inf3 rfl rfl (n := k) rfl (by omega)) rfl ?_
        refine WE.val (g := none) 12 hx 4 (by rfl) trivial (by kernel_rfl) (by kernel_rfl) (by kernel_rfl) (by kernel_rfl) (fun w_ hE_ => Runs.load1 Try.underlying22 rfl rfl (hE_.ocell (i := 0) rfl rfl)) rfl ?_
        refine WE.val (g := none) 12 hx 8 (by rfl) trivial (by kernel_rfl) (by kernel_rfl) (by kernel_rfl) (by kernel_rfl) (fun w_ hE_ => Runs.loadR (f := Vi) (0 : Int) hE_ hrd (n := k) (by omega) Try.underlying3 rfl rfl) rfl ?_
        refine WE.op (.inr h7) (i := 9) (by rfl) (by kernel_rfl) ?_
        refine WL.lit (vs := (([ns.getD k 0] : List Int)).map Vi) h7 rfl Try.underlying22 inf3 rfl rfl rfl rfl rfl ?_
        intro lit58 w8 h8
        refine WL.nil ?_
        refine WE.next ?_
        refine WE.op (.inr (h8.drop 0)) (i := 10) (by rfl) (by kernel_rfl) ?_
        refine WL.app (ys := ([ns.getD k 0] : List Int)) 2 h8 rfl rfl rfl rfl Try.underlying22 Try.underlying22 (.inr ⟨_, rfl⟩) inf3 rfl hrN (Src.lit h8 0 rfl rfl rfl) rfl rfl (by first | omega | (simp []; done) | (simp []; omega)) (by first | omega | (simp []; done) | (simp []; omega)) ?_
        intro r9 v9 w10 hr9 h10
        simp only [List.set_cons_zero, List.set_cons_succ] at h10
        replace h10 := h10.drop 0
        simp only [List.eraseIdx_cons_zero, List.eraseIdx_cons_succ] at h10
        refine WL.nil ?_
        refine WE.next ?_
        obtain ⟨A11, c11, rfl, hc11⟩ := (hr9).val
        refine WE.pure (g := none) hx 11 (by rfl) trivial (by kernel_rfl) (by kernel_rfl) (by kernel_rfl) (by kernel_rfl) (fun w_ => Runs.nilCheckP rfl) rfl ?_
        refine WE.pure (g := none) hx 12 (by rfl) trivial (by kernel_rfl) (by kernel_rfl) (by kernel_rfl) (by kernel_rfl) (fun w_ => Runs.fld fld51_0 rfl) rfl ?_
        refine WE.op (.inl ⟨10, rfl, by kernel_rfl⟩) (i := 13) (by rfl) (by kernel_rfl) ?_
        refine WL.store' h10 0 rfl rfl rfl inf22 rfl rfl (Free.zero _) (Nat.le_of_ble_eq_true rfl) ?_
        intro  w12 h12
        try simp only [List.set_cons_zero, List.set_cons_succ, List.eraseIdx_cons_zero, List.eraseIdx_cons_succ] at h12
        refine WL.nil ?_
        refine WE.next ?_
        refine WE.fin (.inl ⟨10, rfl, by kernel_rfl⟩) (by kernel_rfl) ?_
        refine WN.thn ?_
        refine WC.seq ?_
        refine WC.reg ?_
        refine WL.v (Runs.move rfl) rfl ?_
        refine WL.v (Runs.move rfl) rfl ?_
        refine WL.v (Runs.nilCheckP rfl) rfl ?_
        refine WL.v (Runs.fld fld51_1 rfl) rfl ?_
        refine WL.v (Runs.load1 Try.underlying22 rfl rfl (h12.ocell (i := 0) rfl rfl)) rfl ?_
        refine WL.lit (vs := (([0] : List Int)).map Vi) h12 rfl Try.underlying22 inf3 rfl rfl rfl rfl rfl ?_
        intro lit67 w13 h13
        refine WL.app (ys := ([0] : List Int)) 3 h13 rfl rfl rfl rfl Try.underlying22 Try.underlying22 (.inr ⟨_, rfl⟩) inf3 rfl hrV (Src.lit h13 0 rfl rfl rfl) rfl rfl (by first | omega | (simp []; done) | (simp []; omega)) (by first | omega | (simp []; done) | (simp []; omega)) ?_
        intro r14 v14 w15 hr14 h15
        simp only [List.set_cons_zero, List.set_cons_succ] at h15
        replace h15 := h15.drop 0
        simp only [List.eraseIdx_cons_zero, List.eraseIdx_cons_succ] at h15
        obtain ⟨A16, c16, rfl, hc16⟩ := (hr14).val
        refine WL.v (Runs.nilCheckP rfl) rfl ?_
        refine WL.v (Runs.fld fld51_1 rfl) rfl ?_
        refine WL.store' h15 0 rfl rfl rfl inf22 rfl rfl (Free.zero _) (Nat.le_of_ble_eq_true rfl) ?_
        intro  w17 h17
        try simp only [List.set_cons_zero, List.set_cons_succ, List.eraseIdx_cons_zero, List.eraseIdx_cons_succ] at h17
        refine WL.nil ?_
        refine WN.thn ?_
        refine WC.reg ?_
        refine WL.v (Runs.move rfl) rfl ?_
        refine WL.v (Runs.move rfl) rfl ?_
        refine WL.v (Runs.nilCheckP rfl) rfl ?_
        refine WL.v (Runs.fld fld51_2 rfl) rfl ?_
        refine WL.v (Runs.load1 Try.underlying22 rfl rfl (h17.ocell (i := 0) rfl rfl)) rfl ?_
        refine WL.lit (vs := (([-1] : List Int)).map Vi) h17 rfl Try.underlying22 inf3 rfl rfl rfl rfl rfl ?_
        intro lit76 w18 h18
        refine WL.app (ys := ([-1] : List Int)) 4 h18 rfl rfl rfl rfl Try.underlying22 Try.underlying22 (.inr ⟨_, rfl⟩) inf3 rfl hrC (Src.lit h18 0 rfl rfl rfl) rfl rfl (by first | omega | (simp []; done) | (simp []; omega)) (by first | omega | (simp []; done) | (simp []; omega)) ?_
        intro r19 v19 w20 hr19 h20
        simp only [List.set_cons_zero, List.set_cons_succ] at h20
        replace h20 := h20.drop 0
        simp only [List.eraseIdx_cons_zero, List.eraseIdx_cons_succ] at h20
        obtain ⟨A21, c21, rfl, hc21⟩ := (hr19).val
        refine WL.v (Runs.nilCheckP rfl) rfl ?_
        refine WL.v (Runs.fld fld51_2 rfl) rfl ?_
        refine WL.store' h20 0 rfl rfl rfl inf22 rfl rfl (Free.zero _) (Nat.le_of_ble_eq_true rfl) ?_
        intro  w22 h22
        try simp only [List.set_cons_zero, List.set_cons_succ, List.eraseIdx_cons_zero, List.eraseIdx_cons_succ] at h22
        refine WL.nil ?_
        refine WN.blk ?_
        refine WN.thn ?_
        refine WC.reg ?_
        refine WL.v (Runs.move rfl) rfl ?_
        refine WL.v (Runs.addn rfl rfl (by omega)) rfl ?_
        refine WL.v (Runs.assign rfl) rfl ?_
        refine WL.nil ?_
        refine WN.again (⟨k + 1, r9, _, r14, _, r19, _⟩ : Nat × Res × Value × Res × Value × Res × Value) (by show ns.length - (k + 1) < ns.length - k; omega) ⟨rfl, rfl, rfl, trivial⟩ ⟨by show k + 1 ≤ _; omega, okp_succ hok (by omega) (by omega), ?_, ?_, ?_, h22⟩
        · have := hr9
          show Row _ _ _ _ (ns.take (k + 1))
          rw [take_nx (by omega)]
          exact this
        · have := hr14
          show Row _ _ _ _ ((ns.take (k + 1)).map fun _ => 0)
          rw [take_nx (by omega), List.map_append]
          exact this
        · have := hr19
          show Row _ _ _ _ ((ns.take (k + 1)).map fun _ => -1)
          rw [take_nx (by omega), List.map_append]
          exact this
      · skip
        refine WC.qreg (C := fun w_ => St W _ _ w_) mixed (by kernel_rfl) (hL.drew) ?_
        refine WQ.val (fun w_ hC_ => Runs.move rfl) rfl ?_
        refine WQ.val (fun w_ hC_ => Runs.move rfl) rfl ?_
        refine WQ.val (fun w_ hC_ => Runs.lidxN Try.underlying22 inf3 rfl rfl (n := k) rfl (by omega)) rfl ?_
        refine WQ.val (fun w_ hC_ => Runs.loadR (f := Vi) (0 : Int) hC_ hrd (n := k) (by omega) Try.underlying3 rfl rfl) rfl ?_
        refine WQ.val (fun w_ hC_ => Runs.boolT (c := false) (Runs.lss rfl rfl) (by rw [decide_eq_false_iff_not]; omega)) rfl ?_
        refine WQ.val (fun w_ hC_ => Runs.move rfl) rfl ?_
        refine WQ.gon rfl rfl rfl ?_
        refine WQ.val (fun w_ hC_ => Runs.move rfl) rfl ?_
        refine WQ.gon rfl rfl rfl ?_
        refine WQ.val (fun w_ hC_ => Runs.move rfl) rfl ?_
        refine WQ.gon rfl rfl rfl ?_
        refine WQ.val (fun w_ hC_ => Runs.lidxN Try.underlying22 inf3 rfl rfl (n := k) rfl (by omega)) rfl ?_
        refine WQ.gon rfl rfl rfl ?_
        refine WQ.val (fun w_ hC_ => Runs.loadR (f := Vi) (0 : Int) hC_ hrd (n := k) (by omega) Try.underlying3 rfl rfl) rfl ?_
        refine WQ.gon rfl rfl rfl ?_
        refine WQ.val (fun w_ hC_ => Runs.boolT (c := false) (Runs.gtr rfl rfl) (by rw [decide_eq_false_iff_not]; omega)) rfl ?_
        refine WQ.val (fun w_ hC_ => Runs.pick rfl rfl rfl) rfl ?_
        refine WQ.val (fun w_ hC_ => Runs.move rfl) rfl ?_
        refine WQ.gon rfl rfl rfl ?_
        refine WQ.val (fun w_ hC_ => Runs.move rfl) rfl ?_
        refine WQ.gon rfl rfl rfl ?_
        refine WQ.val (fun w_ hC_ => Runs.boolT (c := true) (Runs.gtr rfl rfl) (by rw [decide_eq_true_eq]; omega)) rfl ?_
        refine WQ.gon rfl rfl rfl ?_
        refine WQ.val (fun w_ hC_ => Runs.move rfl) rfl ?_
        refine WQ.gon rfl rfl rfl ?_
        refine WQ.val (fun w_ hC_ => Runs.move rfl) rfl ?_
        refine WQ.gon rfl rfl rfl ?_
        refine WQ.val (fun w_ hC_ => Runs.move rfl) rfl ?_
        refine WQ.gon rfl rfl rfl ?_
        refine WQ.val (fun w_ hC_ => Runs.lidxN Try.underlying22 inf3 rfl rfl (n := k) rfl (by omega)) rfl ?_
        refine WQ.gon rfl rfl rfl ?_
        refine WQ.val (fun w_ hC_ => Runs.loadR (f := Vi) (0 : Int) hC_ hrd (n := k) (by omega) Try.underlying3 rfl rfl) rfl ?_
        refine WQ.gon rfl rfl rfl ?_
        refine WQ.val (fun w_ hC_ => Runs.move rfl) rfl ?_
        refine WQ.gon rfl rfl rfl ?_
        refine WQ.val (fun w_ hC_ => Runs.move rfl) rfl ?_
        refine WQ.gon rfl rfl rfl ?_
        refine WQ.val (fun w_ hC_ => Runs.subn rfl rfl (by omega)) rfl ?_
        refine WQ.gon rfl rfl rfl ?_
        refine WQ.val (fun w_ hC_ => Runs.lidxN Try.underlying22 inf3 rfl rfl (n := k - 1) (by omega) (by omega)) rfl ?_
        refine WQ.gon rfl rfl rfl ?_
        refine WQ.val (fun w_ hC_ => Runs.loadR (f := Vi) (0 : Int) hC_ hrd (n := k - 1) (by omega) Try.underlying3 rfl rfl) rfl ?_
        refine WQ.gon rfl rfl rfl ?_
        refine WQ.val (fun w_ hC_ => Runs.boolT (c := true) (Runs.leq rfl rfl) (by rw [decide_eq_true_eq]; omega)) rfl ?_
        refine WQ.gon rfl rfl rfl ?_
        refine WQ.val (fun w_ hC_ => Runs.pick rfl rfl rfl) rfl ?_
        refine WQ.val (fun w_ hC_ => Runs.pick rfl rfl rfl) rfl ?_
        refine WQ.fin ?_
        intro w23 h23
        refine WN.thn ?_
        refine WC.condT rfl (rfl) ?_
        refine WC.seq ?_
        refine WC.reg ?_
        refine WL.v (Runs.assign rfl) rfl ?_
        refine WL.nil ?_
        refine WN.thn ?_
        refine WC.ret ?_
        exact ret1 rfl rfl (.inl ⟨fun hh => by have := hh.2 (k - 1) (by omega); rw [show k - 1 + 1 = k by omega] at this; omega, rfl, ((((h23.drop 0).drop 0).drop 0).drop 0)⟩)
      · skip
        refine WC.qreg (C := fun w_ => St W _ _ w_) mixed (by kernel_rfl) (hL.drew) ?_
        refine WQ.val (fun w_ hC_ => Runs.move rfl) rfl ?_
        refine WQ.val (fun w_ hC_ => Runs.move rfl) rfl ?_
        refine WQ.val (fun w_ hC_ => Runs.lidxN Try.underlying22 inf3 rfl rfl (n := k) rfl (by omega)) rfl ?_
        refine WQ.val (fun w_ hC_ => Runs.loadR (f := Vi) (0 : Int) hC_ hrd (n := k) (by omega) Try.underlying3 rfl rfl) rfl ?_
        refine WQ.val (fun w_ hC_ => Runs.boolT (c := false) (Runs.lss rfl rfl) (by rw [decide_eq_false_iff_not]; omega)) rfl ?_
        refine WQ.val (fun w_ hC_ => Runs.move rfl) rfl ?_
        refine WQ.gon rfl rfl rfl ?_
        refine WQ.val (fun w_ hC_ => Runs.move rfl) rfl ?_
        refine WQ.gon rfl rfl rfl ?_
        refine WQ.val (fun w_ hC_ => Runs.move rfl) rfl ?_
        refine WQ.gon rfl rfl rfl ?_
        refine WQ.val (fun w_ hC_ => Runs.lidxN Try.underlying22 inf3 rfl rfl (n := k) rfl (by omega)) rfl ?_
        refine WQ.gon rfl rfl rfl ?_
        refine WQ.val (fun w_ hC_ => Runs.loadR (f := Vi) (0 : Int) hC_ hrd (n := k) (by omega) Try.underlying3 rfl rfl) rfl ?_
        refine WQ.gon rfl rfl rfl ?_
        refine WQ.val (fun w_ hC_ => Runs.boolT (c := false) (Runs.gtr rfl rfl) (by rw [decide_eq_false_iff_not]; omega)) rfl ?_
        refine WQ.val (fun w_ hC_ => Runs.pick rfl rfl rfl) rfl ?_
        refine WQ.val (fun w_ hC_ => Runs.move rfl) rfl ?_
        refine WQ.gon rfl rfl rfl ?_
        refine WQ.val (fun w_ hC_ => Runs.move rfl) rfl ?_
        refine WQ.gon rfl rfl rfl ?_
        refine WQ.val (fun w_ hC_ => Runs.boolT (c := true) (Runs.gtr rfl rfl) (by rw [decide_eq_true_eq]; omega)) rfl ?_
        refine WQ.gon rfl rfl rfl ?_
        refine WQ.val (fun w_ hC_ => Runs.move rfl) rfl ?_
        refine WQ.gon rfl rfl rfl ?_
        refine WQ.val (fun w_ hC_ => Runs.move rfl) rfl ?_
        refine WQ.gon rfl rfl rfl ?_
        refine WQ.val (fun w_ hC_ => Runs.move rfl) rfl ?_
        refine WQ.gon rfl rfl rfl ?_
        refine WQ.val (fun w_ hC_ => Runs.lidxN Try.underlying22 inf3 rfl rfl (n := k) rfl (by omega)) rfl ?_
        refine WQ.gon rfl rfl rfl ?_
        refine WQ.val (fun w_ hC_ => Runs.loadR (f := Vi) (0 : Int) hC_ hrd (n := k) (by omega) Try.underlying3 rfl rfl) rfl ?_
        refine WQ.gon rfl rfl rfl ?_
        refine WQ.val (fun w_ hC_ => Runs.move rfl) rfl ?_
        refine WQ.gon rfl rfl rfl ?_
        refine WQ.val (fun w_ hC_ => Runs.move rfl) rfl ?_
        refine WQ.gon rfl rfl rfl ?_
        refine WQ.val (fun w_ hC_ => Runs.subn rfl rfl (by omega)) rfl ?_
        refine WQ.gon rfl rfl rfl ?_
        refine WQ.val (fun w_ hC_ => Runs.lidxN Try.underlying22 inf3 rfl rfl (n := k - 1) (by omega) (by omega)) rfl ?_
        refine WQ.gon rfl rfl rfl ?_
        refine WQ.val (fun w_ hC_ => Runs.loadR (f := Vi) (0 : Int) hC_ hrd (n := k - 1) (by omega) Try.underlying3 rfl rfl) rfl ?_
        refine WQ.gon rfl rfl rfl ?_
        refine WQ.val (fun w_ hC_ => Runs.boolT (c := false) (Runs.leq rfl rfl) (by rw [decide_eq_false_iff_not]; omega)) rfl ?_
        refine WQ.gon rfl rfl rfl ?_
        refine WQ.val (fun w_ hC_ => Runs.pick rfl rfl rfl) rfl ?_
        refine WQ.val (fun w_ hC_ => Runs.pick rfl rfl rfl) rfl ?_
        refine WQ.fin ?_
        intro w24 h24
        refine WN.thn ?_
        refine WC.condF rfl (rfl) ?_
        refine WC.skip ?_
        refine WN.thn ?_
        refine WC.seq ?_
        refine WC.eregO h24 (fun s_ => ([10, 13] : List Nat).any (Nat.beq s_)) mixed (by kernel_rfl) (fun hx => ?_)
        intro w25 h25
        refine WE.pure (g := none) hx 0 (by rfl) trivial (by kernel_rfl) (by kernel_rfl) (by kernel_rfl) (by kernel_rfl) (fun w_ => Runs.move rfl) rfl ?_
        refine WE.pure (g := none) hx 1 (by rfl) trivial (by kernel_rfl) (by kernel_rfl) (by kernel_rfl) (by kernel_rfl) (fun w_ => Runs.move rfl) rfl ?_
        refine WE.pure (g := none) hx 2 (by rfl) trivial (by kernel_rfl) (by kernel_rfl) (by kernel_rfl) (by kernel_rfl) (fun w_ => Runs.nilCheckP rfl) rfl ?_
        refine WE.pure (g := none) hx 3 (by rfl) trivial (by kernel_rfl) (by kernel_rfl) (by kernel_rfl) (by kernel_rfl) (fun w_ => Runs.fld fld51_0 rfl) rfl ?_
        refine WE.pure (g := none) hx 5 (by rfl) trivial (by kernel_rfl) (by kernel_rfl) (by kernel_rfl) (by kernel_rfl) (fun w_ => Runs.move rfl) rfl ?_
        refine WE.pure (g := none) hx 6 (by rfl) trivial (by kernel_rfl) (by kernel_rfl) (by kernel_rfl) (by kernel_rfl) (fun w_ => Runs.move rfl) rfl ?_
        refine WE.pure (g := none) hx 7 (by rfl) trivial (by kernel_rfl) (by kernel_rfl) (by kernel_rfl) (by kernel_rfl) (fun w_ => Runs.lidxN Try.underlying22 inf3 rfl rfl (n := k) rfl (by omega)) rfl ?_
        refine WE.val (g := none) 12 hx 4 (by rfl) trivial (by kernel_rfl) (by kernel_rfl) (by kernel_rfl) (by kernel_rfl) (fun w_ hE_ => Runs.load1 Try.underlying22 rfl rfl (hE_.ocell (i := 0) rfl rfl)) rfl ?_
        refine WE.val (g := none) 12 hx 8 (by rfl) trivial (by kernel_rfl) (by kernel_rfl) (by kernel_rfl) (by kernel_rfl) (fun w_ hE_ => Runs.loadR (f := Vi) (0 : Int) hE_ hrd (n := k) (by omega) Try.underlying3 rfl rfl) rfl ?_
        refine WE.op (.inr h25) (i := 9) (by rfl) (by kernel_rfl) ?_
        refine WL.lit (vs := (([ns.getD k 0] : List Int)).map Vi) h25 rfl Try.underlying22 inf3 rfl rfl rfl rfl rfl ?_
        intro lit58 w26 h26
        refine WL.nil ?_
        refine WE.next ?_
        refine WE.op (.inr (h26.drop 0)) (i := 10) (by rfl) (by kernel_rfl) ?_
        refine WL.app (ys := ([ns.getD k 0] : List Int)) 2 h26 rfl rfl rfl rfl Try.underlying22 Try.underlying22 (.inr ⟨_, rfl⟩) inf3 rfl hrN (Src.lit h26 0 rfl rfl rfl) rfl rfl (by first | omega | (simp []; done) | (simp []; omega)) (by first | omega | (simp []; done) | (simp []; omega)) ?_
        intro r27 v27 w28 hr27 h28
        simp only [List.set_cons_zero, List.set_cons_succ] at h28
        replace h28 := h28.drop 0
        simp only [List.eraseIdx_cons_zero, List.eraseIdx_cons_succ] at h28
        refine WL.nil ?_
        refine WE.next ?_
        obtain ⟨A29, c29, rfl, hc29⟩ := (hr27).val
        refine WE.pure (g := none) hx 11 (by rfl) trivial (by kernel_rfl) (by kernel_rfl) (by kernel_rfl) (by kernel_rfl) (fun w_ => Runs.nilCheckP rfl) rfl ?_
        refine WE.pure (g := none) hx 12 (by rfl) trivial (by kernel_rfl) (by kernel_rfl) (by kernel_rfl) (by kernel_rfl) (fun w_ => Runs.fld fld51_0 rfl) rfl ?_
        refine WE.op (.inl ⟨10, rfl, by kernel_rfl⟩) (i := 13) (by rfl) (by kernel_rfl) ?_
        refine WL.store' h28 0 rfl rfl rfl inf22 rfl rfl (Free.zero _) (Nat.le_of_ble_eq_true rfl) ?_
        intro  w30 h30
        try simp only [List.set_cons_zero, List.set_cons_succ, List.eraseIdx_cons_zero, List.eraseIdx_cons_succ] at h30
        refine WL.nil ?_
        refine WE.next ?_
        refine WE.fin (.inl ⟨10, rfl, by kernel_rfl⟩) (by kernel_rfl) ?_
        refine WN.thn ?_
        refine WC.seq ?_
        refine WC.reg ?_
        refine WL.v (Runs.move rfl) rfl ?_
        refine WL.v (Runs.move rfl) rfl ?_
        refine WL.v (Runs.nilCheckP rfl) rfl ?_
        refine WL.v (Runs.fld fld51_1 rfl) rfl ?_
        refine WL.v (Runs.load1 Try.underlying22 rfl rfl (h30.ocell (i := 0) rfl rfl)) rfl ?_
        refine WL.lit (vs := (([0] : List Int)).map Vi) h30 rfl Try.underlying22 inf3 rfl rfl rfl rfl rfl ?_
        intro lit67 w31 h31
        refine WL.app (ys := ([0] : List Int)) 3 h31 rfl rfl rfl rfl Try.underlying22 Try.underlying22 (.inr ⟨_, rfl⟩) inf3 rfl hrV (Src.lit h31 0 rfl rfl rfl) rfl rfl (by first | omega | (simp []; done) | (simp []; omega)) (by first | omega | (simp []; done) | (simp []; omega)) ?_
        intro r32 v32 w33 hr32 h33
        simp only [List.set_cons_zero, List.set_cons_succ] at h33
        replace h33 := h33.drop 0
        simp only [List.eraseIdx_cons_zero, List.eraseIdx_cons_succ] at h33
        obtain ⟨A34, c34, rfl, hc34⟩ := (hr32).val
        refine WL.v (Runs.nilCheckP rfl) rfl ?_
        refine WL.v (Runs.fld fld51_1 rfl) rfl ?_
        refine WL.store' h33 0 rfl rfl rfl inf22 rfl rfl (Free.zero _) (Nat.le_of_ble_eq_true rfl) ?_
        intro  w35 h35
        try simp only [List.set_cons_zero, List.set_cons_succ, List.eraseIdx_cons_zero, List.eraseIdx_cons_succ] at h35
        refine WL.nil ?_
        refine WN.thn ?_
        refine WC.reg ?_
        refine WL.v (Runs.move rfl) rfl ?_
        refine WL.v (Runs.move rfl) rfl ?_
        refine WL.v (Runs.nilCheckP rfl) rfl ?_
        refine WL.v (Runs.fld fld51_2 rfl) rfl ?_
        refine WL.v (Runs.load1 Try.underlying22 rfl rfl (h35.ocell (i := 0) rfl rfl)) rfl ?_
        refine WL.lit (vs := (([-1] : List Int)).map Vi) h35 rfl Try.underlying22 inf3 rfl rfl rfl rfl rfl ?_
        intro lit76 w36 h36
        refine WL.app (ys := ([-1] : List Int)) 4 h36 rfl rfl rfl rfl Try.underlying22 Try.underlying22 (.inr ⟨_, rfl⟩) inf3 rfl hrC (Src.lit h36 0 rfl rfl rfl) rfl rfl (by first | omega | (simp []; done) | (simp []; omega)) (by first | omega | (simp []; done) | (simp []; omega)) ?_
        intro r37 v37 w38 hr37 h38
        simp only [List.set_cons_zero, List.set_cons_succ] at h38
        replace h38 := h38.drop 0
        simp only [List.eraseIdx_cons_zero, List.eraseIdx_cons_succ] at h38
        obtain ⟨A39, c39, rfl, hc39⟩ := (hr37).val
        refine WL.v (Runs.nilCheckP rfl) rfl ?_
        refine WL.v (Runs.fld fld51_2 rfl) rfl ?_
        refine WL.store' h38 0 rfl rfl rfl inf22 rfl rfl (Free.zero _) (Nat.le_of_ble_eq_true rfl) ?_
        intro  w40 h40
        try simp only [List.set_cons_zero, List.set_cons_succ, List.eraseIdx_cons_zero, List.eraseIdx_cons_succ] at h40
        refine WL.nil ?_
        refine WN.blk ?_
        refine WN.thn ?_
        refine WC.reg ?_
        refine WL.v (Runs.move rfl) rfl ?_
        refine WL.v (Runs.addn rfl rfl (by omega)) rfl ?_
        refine WL.v (Runs.assign rfl) rfl ?_
        refine WL.nil ?_
        refine WN.again (⟨k + 1, r27, _, r32, _, r37, _⟩ : Nat × Res × Value × Res × Value × Res × Value) (by show ns.length - (k + 1) < ns.length - k; omega) ⟨rfl, rfl, rfl, trivial⟩ ⟨by show k + 1 ≤ _; omega, okp_succ hok (by omega) (by omega), ?_, ?_, ?_, h40⟩
        · have := hr27
          show Row _ _ _ _ (ns.take (k + 1))
          rw [take_nx (by omega)]
          exact this
        · have := hr32
          show Row _ _ _ _ ((ns.take (k + 1)).map fun _ => 0)
          rw [take_nx (by omega), List.map_append]
          exact this
        · have := hr37
          show Row _ _ _ _ ((ns.take (k + 1)).map fun _ => -1)
          rw [take_nx (by omega), List.map_append]
          exact this
  · try simp only [decide_eq_true_eq, decide_eq_false_iff_not, Bool.not_eq_true', Bool.not_eq_false', Bool.and_eq_true, Int.not_lt, Int.not_le] at c3
    first
    | (exfalso; omega)
    | skip
      refine WC.exit ?_
      refine WX.thn ?_
      refine WX.cut ?_
      refine WX.hit ?_
      refine WN.thn ?_
      refine WC.seq ?_
      refine WC.reg ?_
      refine WL.v (Runs.move rfl) rfl ?_
      refine WL.v (Runs.assign rfl) rfl ?_
      refine WL.nil ?_
      refine WN.thn ?_
      refine WC.ret ?_
      obtain rfl : k = ns.length := by omega
      rw [List.take_of_length_le (Nat.le_refl _)] at hrN hrV hrC hL
      exact ret1 rfl rfl (.inr ⟨hok, _, _, _, _, _, _, _, rfl, hrN, hrV, hrC, hL⟩)
end Tal
end Go.Proofs.Ytkgmlngmojnpmaa
