/- The law TallyScripts: whatever is voted, and whoever exits, a tally tells what the document says. -/
import Derived.Test.YtkgmlngmojnpmaaProg
import Derived.Test.YtkgmlngmojnpmaaTal13
namespace Go.Proofs.Ytkgmlngmojnpmaa
open Go Go.RowKit B
set_option linter.unusedVariables false
set_option linter.unusedSimpArgs false
namespace Tal

theorem inf31 : Inf Try.prog 31 (.agg #[.bool false, .int .i64 0, .bool false, .int .i64 0]) 4 32 := by unfold Inf; kernel_rfl
theorem can9 : B.Can Try.prog 9 := ⟨_, Try.func9, by kernel_rfl, rfl⟩   -- roundhouse/roundhouselaw14.live
theorem can11 : B.Can Try.prog 11 := ⟨_, Try.func11, by kernel_rfl, rfl⟩   -- roundhouse/roundhouseref14.New
theorem can12 : B.Can Try.prog 12 := ⟨_, Try.func12, by kernel_rfl, rfl⟩   -- roundhouse/roundhouselaw14.does
theorem can16 : B.Can Try.prog 16 := ⟨_, Try.func16, by kernel_rfl, rfl⟩   -- (*roundhouse/roundhouseref14.Tally).Code
theorem can19 : B.Can Try.prog 19 := ⟨_, Try.func19, by kernel_rfl, rfl⟩   -- (*roundhouse/roundhouseref14.Tally).Missing
theorem tstate_p {W : World} {F : Snap} {p cs : List Res} (w : World) {a b : Nat} {t : T} (h : St W F (p ++ cs) w) (hp : Pr F p a b t) : Calls Try.prog 13 #[.pointer (some ⟨a, 0, none⟩)] w fun e w' => e = .returned (Vi t.state) ∧ St W F (p ++ cs) w' := by
  obtain ⟨mv, mc, lv, lc, bv, bc, zv, zc, fv, fc, rfl, h1, h2⟩ := hp
  exact state_c w h (h1.app cs)
theorem rstate_p {W : World} {F : Snap} {p cs : List Res} (w : World) {a b : Nat} {t : T} (h : St W F (p ++ cs) w) (hp : Pr F p a b t) : Calls Try.prog 14 #[.pointer (some ⟨b, 0, none⟩)] w fun e w' => e = .returned (Vi t.state) ∧ St W F (p ++ cs) w' := by
  obtain ⟨mv, mc, lv, lc, bv, bc, zv, zc, fv, fc, rfl, h1, h2⟩ := hp
  exact rstate_r w h (h2.app cs)
theorem tcode_p {W : World} {F : Snap} {p cs : List Res} (w : World) {a b : Nat} {t : T} (h : St W F (p ++ cs) w) (hp : Pr F p a b t) : Calls Try.prog 15 #[.pointer (some ⟨a, 0, none⟩)] w fun e w' => e = .returned (Vi t.code) ∧ St W F (p ++ cs) w' := by
  obtain ⟨mv, mc, lv, lc, bv, bc, zv, zc, fv, fc, rfl, h1, h2⟩ := hp
  exact code_c w h (h1.app cs)
theorem rcode_p {W : World} {F : Snap} {p cs : List Res} (w : World) {a b : Nat} {t : T} (h : St W F (p ++ cs) w) (hp : Pr F p a b t) : Calls Try.prog 16 #[.pointer (some ⟨b, 0, none⟩)] w fun e w' => e = .returned (Vi t.code) ∧ St W F (p ++ cs) w' := by
  obtain ⟨mv, mc, lv, lc, bv, bc, zv, zc, fv, fc, rfl, h1, h2⟩ := hp
  exact rcode_r w h (h2.app cs)
theorem tmiss_p {W : World} {F : Snap} {p cs : List Res} (w : World) {a b : Nat} {t : T} (h : St W F (p ++ cs) w) (hp : Pr F p a b t) : Calls Try.prog 18 #[.pointer (some ⟨a, 0, none⟩)] w (Gives W F (p ++ cs) Vi t.missing) := by
  obtain ⟨mv, mc, lv, lc, bv, bc, zv, zc, fv, fc, rfl, h1, h2⟩ := hp
  exact missing_c w h (h1.app cs)
theorem rmiss_p {W : World} {F : Snap} {p cs : List Res} (w : World) {a b : Nat} {t : T} (h : St W F (p ++ cs) w) (hp : Pr F p a b t) : Calls Try.prog 19 #[.pointer (some ⟨b, 0, none⟩)] w (Gives W F (p ++ cs) Vi t.missing) := by
  obtain ⟨mv, mc, lv, lc, bv, bc, zv, zc, fv, fc, rfl, h1, h2⟩ := hp
  exact rmiss_r w h (h2.app cs)
theorem miss_len {α : Type} (ns : List Int) (os : List (Option α)) : (miss ns os).length ≤ ns.length := by
  induction ns generalizing os with
  | nil => simp [miss]
  | cons n ns ih =>
    cases os with
    | nil => simp [miss]
    | cons o os => unfold miss; have := ih os; split <;> simp <;> omega
theorem missing_len (t : T) : t.missing.length ≤ t.ns.length := by
  have h1 := miss_len t.ns t.vs
  have h2 := miss_len t.ns t.cs
  unfold T.missing
  split
  · exact h1
  · split
    · exact h2
    · simp
theorem Pr.small {F : Snap} {p : List Res} {a b : Nat} {t : T} (hp : Pr F p a b t) : t.missing.length ≤ 16 := by
  obtain ⟨mv, mc, lv, lc, bv, bc, zv, zc, fv, fc, rfl, h1, h2⟩ := hp
  exact Nat.le_trans (missing_len t) h1.small
theorem St_tail {W w : World} {F : Snap} {p cs : List Res} (h : St W F (p ++ cs) w) : St W F cs w := h.subl (by rw [List.flatten_append]; exact List.sublist_append_right _ _)
def Op'.cells (o : Op') : List Value := [.bool o.v, Vi o.n, .bool o.y, Vi o.c]
abbrev KOp : Kd Op' := Kd.rows 4 Op'.cells (fun _ => rfl)
def o0 : Op' := ⟨false, 0, false, 0⟩
set_option maxRecDepth 100000 in
set_option maxHeartbeats 4000000 in
theorem scripts_law {W : World} {F : Snap} {cs : List Res} (w : World) {A B : Option Addr} {cap cap2 : Nat} {ns : List Int} {os : List Op'} (h : St W F cs w) (hA : RdS (Kd.one Vi) F A ns) (hB : RdS KOp F B os) : Calls Try.prog 3 #[.slice A ns.length cap, .slice B os.length cap2] w fun e w' => e = .returned (.bool true) ∧ St W F cs w'  := by
  refine enter (P := Try.prog) (args := [.slice A ns.length cap, .slice B os.length cap2]) Try.func3 rfl rfl rfl ?_
  refine WC.seq ?_
  refine WC.reg ?_
  refine WL.v (Runs.assign rfl) rfl ?_
  refine WL.nil ?_
  refine WN.thn ?_
  refine WC.seq ?_
  refine WC.seq ?_
  have hcase : 100 < os.length ∨ (¬ 100 < os.length ∧ 100 < ns.length) ∨ (os.length ≤ 100 ∧ ns.length ≤ 100) := by omega
  rcases hcase with hA1 | hB1 | hC1
  · skip
    refine WC.reg ?_
    refine WL.v (Runs.move rfl) rfl ?_
    refine WL.v (Runs.llen Try.underlying23 rfl rfl) rfl ?_
    refine WL.v (Runs.boolT (c := true) (Runs.gtr rfl rfl) (by rw [decide_eq_true_eq]; omega)) rfl ?_
    refine WL.v (Runs.move rfl) rfl ?_
    refine WL.goff rfl rfl rfl rfl ?_
    refine WL.goff rfl rfl rfl rfl ?_
    refine WL.goff rfl rfl rfl rfl ?_
    refine WL.v (Runs.pick rfl rfl rfl) rfl ?_
    refine WL.nil ?_
    refine WN.thn ?_
    refine WC.condT rfl (rfl) ?_
    refine WC.seq ?_
    refine WC.reg ?_
    refine WL.call can9 rfl rfl (live_c _ h) ?_
    rintro _ w1 ⟨rfl, h1⟩
    refine ⟨_, rfl, ?_⟩
    refine WL.v (Runs.assign rfl) rfl ?_
    refine WL.nil ?_
    refine WN.thn ?_
    refine WC.ret ?_
    exact ret1 rfl rfl ⟨rfl, h1⟩
  · skip
    refine WC.reg ?_
    refine WL.v (Runs.move rfl) rfl ?_
    refine WL.v (Runs.llen Try.underlying23 rfl rfl) rfl ?_
    refine WL.v (Runs.boolT (c := false) (Runs.gtr rfl rfl) (by rw [decide_eq_false_iff_not]; omega)) rfl ?_
    refine WL.v (Runs.move rfl) rfl ?_
    refine WL.gon rfl rfl rfl ?_
    refine WL.v (Runs.move rfl) rfl ?_
    refine WL.gon rfl rfl rfl ?_
    refine WL.v (Runs.llen Try.underlying22 rfl rfl) rfl ?_
    refine WL.gon rfl rfl rfl ?_
    refine WL.v (Runs.boolT (c := true) (Runs.gtr rfl rfl) (by rw [decide_eq_true_eq]; omega)) rfl ?_
    refine WL.v (Runs.pick rfl rfl rfl) rfl ?_
    refine WL.nil ?_
    refine WN.thn ?_
    refine WC.condT rfl (rfl) ?_
    refine WC.seq ?_
    refine WC.reg ?_
    refine WL.call can9 rfl rfl (live_c _ h) ?_
    rintro _ w2 ⟨rfl, h2⟩
    refine ⟨_, rfl, ?_⟩
    refine WL.v (Runs.assign rfl) rfl ?_
    refine WL.nil ?_
    refine WN.thn ?_
    refine WC.ret ?_
    exact ret1 rfl rfl ⟨rfl, h2⟩
  · skip
    refine WC.reg ?_
    refine WL.v (Runs.move rfl) rfl ?_
    refine WL.v (Runs.llen Try.underlying23 rfl rfl) rfl ?_
    refine WL.v (Runs.boolT (c := false) (Runs.gtr rfl rfl) (by rw [decide_eq_false_iff_not]; omega)) rfl ?_
    refine WL.v (Runs.move rfl) rfl ?_
    refine WL.gon rfl rfl rfl ?_
    refine WL.v (Runs.move rfl) rfl ?_
    refine WL.gon rfl rfl rfl ?_
    refine WL.v (Runs.llen Try.underlying22 rfl rfl) rfl ?_
    refine WL.gon rfl rfl rfl ?_
    refine WL.v (Runs.boolT (c := false) (Runs.gtr rfl rfl) (by rw [decide_eq_false_iff_not]; omega)) rfl ?_
    refine WL.v (Runs.pick rfl rfl rfl) rfl ?_
    refine WL.nil ?_
    refine WN.thn ?_
    refine WC.condF rfl (rfl) ?_
    refine WC.skip ?_
    refine WN.thn ?_
    refine WC.seq ?_
    by_cases hok : okN ns
    · skip
      refine WC.reg ?_
      refine WL.v (Runs.move rfl) rfl ?_
      refine WL.call can10 rfl rfl (new_c _ h hA (by omega) hok.2 hok.1) ?_
      rintro _ w3 ⟨G1, a, mv, mc, lv, lc, rfl, hle1, h3, ht⟩
      refine ⟨_, rfl, ?_⟩
      refine WL.v (Runs.assign rfl) rfl ?_
      refine WL.nil ?_
      refine WN.thn ?_
      refine WC.seq ?_
      refine WC.reg ?_
      refine WL.v (Runs.move rfl) rfl ?_
      refine WL.call can11 rfl rfl (rnew_y _ h3 (hA.mono hle1) hok) ?_
      rintro _ w4 ⟨G2, b, bv, bc, zv, zc, fv, fc, hle2, rfl, h4, hr⟩
      refine ⟨_, rfl, ?_⟩
      obtain ⟨p, hp, hS⟩ := mkPr hle2 ht hr h4
      replace h4 := hS
      refine WL.v (Runs.assign rfl) rfl ?_
      refine WL.nil ?_
      refine WN.thn ?_
      refine WC.seq ?_
      refine WC.seq ?_
      refine WC.reg ?_
      refine WL.v (Runs.move rfl) rfl ?_
      refine WL.v (Runs.peql Try.underlying27 rfl rfl) rfl ?_
      refine WL.nil ?_
      refine WN.thn ?_
      refine WC.condF rfl (rfl) ?_
      refine WC.skip ?_
      refine WN.thn ?_
      refine WC.seq ?_
      refine WC.seq ?_
      refine WC.reg ?_
      refine WL.v (Runs.move rfl) rfl ?_
      refine WL.v (Runs.peql Try.underlying25 rfl rfl) rfl ?_
      refine WL.nil ?_
      refine WN.thn ?_
      refine WC.condF rfl (rfl) ?_
      refine WC.skip ?_
      refine WN.thn ?_
      refine WC.seq ?_
      refine WC.seq ?_
      refine WC.reg ?_
      refine WL.v (Runs.assign rfl) rfl ?_
      refine WL.nil ?_
      refine WN.thn ?_
      refine WC.block ?_
      refine WC.loop (σ := Nat × Snap × List Res × T) (fun q_ => [(0, .slice A ns.length cap), (1, .slice B os.length cap2), (5, .pointer (some ⟨a, 0, none⟩)), (6, .pointer (some ⟨b, 0, none⟩)), (7, .int .i64 (q_.1 : Int))]) (fun q_ w => q_.1 ≤ os.length ∧ Le F q_.2.1 ∧ Pr q_.2.1 q_.2.2.1 a b q_.2.2.2 ∧ St W q_.2.1 (q_.2.2.1 ++ cs) w) (fun q_ => os.length - q_.1) (⟨0, _, p, T.new ns⟩) (by repeat (first | exact trivial | refine ⟨rfl, ?_⟩)) (⟨by omega, Le.trans hle1 hle2, hp, h4⟩) ?_
      rintro ⟨k, G, p, t⟩ w5 ⟨hk, hG, hp, hL⟩
      try dsimp only at hk hG hp hL
      refine WC.sub (s := [(0, .slice A ns.length cap), (1, .slice B os.length cap2), (5, .pointer (some ⟨a, 0, none⟩)), (6, .pointer (some ⟨b, 0, none⟩)), (7, .int .i64 (k : Int))]) (by repeat (first | exact trivial | refine ⟨rfl, ?_⟩)) ?_
      refine WC.seq ?_
      refine WC.seq ?_
      refine WC.reg ?_
      refine WL.v (Runs.move rfl) rfl ?_
      refine WL.v (Runs.move rfl) rfl ?_
      refine WL.v (Runs.llen Try.underlying23 rfl rfl) rfl ?_
      refine WL.v (Runs.lss rfl rfl) rfl ?_
      refine WL.nil ?_
      refine WN.thn ?_
      refine WC.cond rfl (fun c6 => ?_) (fun c6 => ?_)
      · try simp only [decide_eq_true_eq, decide_eq_false_iff_not, Bool.not_eq_true', Bool.not_eq_false', Bool.and_eq_true, Int.not_lt, Int.not_le] at c6
        first
        | (exfalso; omega)
        | skip
          refine WC.skip ?_
          refine WN.thn ?_
          refine WC.seq ?_
          refine WC.block ?_
          refine WC.seq ?_
          obtain ⟨bd, rfl⟩ := rdA hB (by omega)
          refine WC.reg ?_
          refine WL.v (Runs.move rfl) rfl ?_
          refine WL.v (Runs.move rfl) rfl ?_
          refine WL.v (Runs.move rfl) rfl ?_
          refine WL.v (Runs.move rfl) rfl ?_
          refine WL.v (Runs.lidxK Try.underlying23 inf31 rfl rfl (n := k) rfl (by omega)) rfl ?_
          refine WL.v (Runs.loadRows o0 hL (hB.mono hG) rfl (by omega) Try.underlying31 rfl inf31 rfl) rfl ?_
          refine WL.call can12 rfl rfl (does_c _ (os.getD k o0) hL hp) ?_
          rintro _ w7 ⟨G3, p3, hle3, rfl, hp3, h7⟩
          refine ⟨_, rfl, ?_⟩
          refine WL.v (Runs.not rfl) rfl ?_
          refine WL.v (Runs.move rfl) rfl ?_
          refine WL.gon rfl rfl rfl ?_
          refine WL.v (Runs.move rfl) rfl ?_
          refine WL.gon rfl rfl rfl ?_
          refine WL.call can13 rfl rfl (tstate_p _ h7 hp3) ?_
          rintro _ w8 ⟨rfl, h8⟩
          refine ⟨_, rfl, ?_⟩
          refine WL.gon rfl rfl rfl ?_
          refine WL.v (Runs.move rfl) rfl ?_
          refine WL.gon rfl rfl rfl ?_
          refine WL.call can14 rfl rfl (rstate_p _ h8 hp3) ?_
          rintro _ w9 ⟨rfl, h9⟩
          refine ⟨_, rfl, ?_⟩
          refine WL.gon rfl rfl rfl ?_
          refine WL.v (Runs.boolT (c := false) (Runs.neq rfl rfl) (by rw [decide_eq_true rfl]; rfl)) rfl ?_
          refine WL.v (Runs.pick rfl rfl rfl) rfl ?_
          refine WL.v (Runs.move rfl) rfl ?_
          refine WL.gon rfl rfl rfl ?_
          refine WL.v (Runs.move rfl) rfl ?_
          refine WL.gon rfl rfl rfl ?_
          refine WL.call can15 rfl rfl (tcode_p _ h9 hp3) ?_
          rintro _ w10 ⟨rfl, h10⟩
          refine ⟨_, rfl, ?_⟩
          refine WL.gon rfl rfl rfl ?_
          refine WL.v (Runs.move rfl) rfl ?_
          refine WL.gon rfl rfl rfl ?_
          refine WL.call can16 rfl rfl (rcode_p _ h10 hp3) ?_
          rintro _ w11 ⟨rfl, h11⟩
          refine ⟨_, rfl, ?_⟩
          refine WL.gon rfl rfl rfl ?_
          refine WL.v (Runs.boolT (c := false) (Runs.neq rfl rfl) (by rw [decide_eq_true rfl]; rfl)) rfl ?_
          refine WL.v (Runs.pick rfl rfl rfl) rfl ?_
          refine WL.v (Runs.move rfl) rfl ?_
          refine WL.gon rfl rfl rfl ?_
          refine WL.v (Runs.move rfl) rfl ?_
          refine WL.gon rfl rfl rfl ?_
          refine WL.call can18 rfl rfl (tmiss_p _ h11 hp3) ?_
          rintro _ w12 ⟨G13, A13, cap13, hle13, rfl, hc13, hrd13, h12⟩
          refine ⟨_, rfl, ?_⟩
          refine WL.gon rfl rfl rfl ?_
          refine WL.v (Runs.move rfl) rfl ?_
          refine WL.gon rfl rfl rfl ?_
          refine WL.call can19 rfl rfl (rmiss_p _ h12 (hp3.mono hle13)) ?_
          rintro _ w14 ⟨G15, A15, cap15, hle15, rfl, hc15, hrd15, h14⟩
          refine ⟨_, rfl, ?_⟩
          refine WL.gon rfl rfl rfl ?_
          refine WL.call can17 rfl rfl (same_eq _ h14 (hrd13.mono hle15) hrd15 (by have := hp3.small; omega) rfl) ?_
          rintro _ w16 ⟨rfl, h16⟩
          refine ⟨_, rfl, ?_⟩
          refine WL.gon rfl rfl rfl ?_
          refine WL.v (Runs.not rfl) rfl ?_
          refine WL.v (Runs.pick rfl rfl rfl) rfl ?_
          refine WL.nil ?_
          refine WN.thn ?_
          refine WC.condF rfl (rfl) ?_
          refine WC.skip ?_
          refine WN.blk ?_
          refine WN.thn ?_
          refine WC.reg ?_
          refine WL.v (Runs.move rfl) rfl ?_
          refine WL.v (Runs.addn rfl rfl (by omega)) rfl ?_
          refine WL.v (Runs.assign rfl) rfl ?_
          refine WL.nil ?_
          exact WN.again (⟨k + 1, _, p3, t.does (os.getD k o0)⟩ : Nat × Snap × List Res × T) (by show os.length - (k + 1) < os.length - k; omega) ⟨rfl, rfl, rfl, rfl, rfl, trivial⟩ ⟨by show k + 1 ≤ _; omega, Le.trans hG (Le.trans hle3 (Le.trans hle13 hle15)), hp3.mono (Le.trans hle13 hle15), h16⟩
      · try simp only [decide_eq_true_eq, decide_eq_false_iff_not, Bool.not_eq_true', Bool.not_eq_false', Bool.and_eq_true, Int.not_lt, Int.not_le] at c6
        first
        | (exfalso; omega)
        | skip
          refine WC.exit ?_
          refine WX.thn ?_
          refine WX.cut ?_
          refine WX.hit ?_
          refine WN.thn ?_
          refine WC.seq ?_
          refine WC.reg ?_
          refine WL.v (Runs.move rfl) rfl ?_
          refine WL.call can20 rfl rfl (worst_c _ ns hL (hA.mono hG) (by omega)) ?_
          rintro _ w17 ⟨rfl, h17⟩
          refine ⟨_, rfl, ?_⟩
          refine WL.v (Runs.move rfl) rfl ?_
          refine WL.call can21 rfl rfl (rworst_c _ h17 (hA.mono hG) (by omega)) ?_
          rintro _ w18 ⟨rfl, h18⟩
          refine ⟨_, rfl, ?_⟩
          refine WL.v (Runs.boolT (c := true) (Runs.eql rfl rfl) (decide_eq_true rfl)) rfl ?_
          refine WL.v (Runs.move rfl) rfl ?_
          refine WL.gon rfl rfl rfl ?_
          refine WL.call can9 rfl rfl (live_c _ h18) ?_
          rintro _ w19 ⟨rfl, h19⟩
          refine ⟨_, rfl, ?_⟩
          refine WL.v (Runs.pick rfl rfl rfl) rfl ?_
          refine WL.v (Runs.assign rfl) rfl ?_
          refine WL.nil ?_
          refine WN.thn ?_
          refine WC.ret ?_
          exact ret1 rfl rfl ⟨rfl, (St_tail h19).weak hG⟩
    · skip
      refine WC.reg ?_
      refine WL.v (Runs.move rfl) rfl ?_
      refine WL.call can10 rfl rfl (new_no _ h hA (by omega) hok) ?_
      rintro _ w20 ⟨rfl, h20⟩
      refine ⟨_, rfl, ?_⟩
      refine WL.v (Runs.assign rfl) rfl ?_
      refine WL.nil ?_
      refine WN.thn ?_
      refine WC.seq ?_
      refine WC.reg ?_
      refine WL.v (Runs.move rfl) rfl ?_
      refine WL.call can11 rfl rfl (rnew_no _ h20 hA hok) ?_
      rintro _ w21 ⟨rfl, h21⟩
      refine ⟨_, rfl, ?_⟩
      refine WL.v (Runs.assign rfl) rfl ?_
      refine WL.nil ?_
      refine WN.thn ?_
      refine WC.seq ?_
      refine WC.seq ?_
      refine WC.reg ?_
      refine WL.v (Runs.move rfl) rfl ?_
      refine WL.v (Runs.peql Try.underlying27 rfl rfl) rfl ?_
      refine WL.nil ?_
      refine WN.thn ?_
      refine WC.condT rfl (rfl) ?_
      refine WC.seq ?_
      refine WC.reg ?_
      refine WL.v (Runs.move rfl) rfl ?_
      refine WL.v (Runs.peql Try.underlying25 rfl rfl) rfl ?_
      refine WL.v (Runs.move rfl) rfl ?_
      refine WL.gon rfl rfl rfl ?_
      refine WL.call can9 rfl rfl (live_c _ h21) ?_
      rintro _ w22 ⟨rfl, h22⟩
      refine ⟨_, rfl, ?_⟩
      refine WL.v (Runs.pick rfl rfl rfl) rfl ?_
      refine WL.v (Runs.assign rfl) rfl ?_
      refine WL.nil ?_
      refine WN.thn ?_
      refine WC.ret ?_
      exact ret1 rfl rfl ⟨rfl, h22⟩
end Tal
end Go.Proofs.Ytkgmlngmojnpmaa
