/- Walks of the reference of chapter 15: jobs and steps of a state. -/
import Derived.Test.YthejglgnoingfaaProg
import Derived.KernelRfl
import Derived.Test.YthejglgnoingfaaMBaseAH
import Derived.Test.YthejglgnoingfaaMR9
namespace Go.Proofs.Ythejglgnoingfaa
open Go Go.RowKit B
set_option linter.unusedVariables false
set_option linter.unusedSimpArgs false
namespace Rc

theorem inf50 : Inf Try.prog 50 (.agg #[.int .i64 0, .int .i64 0, .int .i64 0]) 3 24 := by unfold Inf; kernel_rfl
theorem inf57 : Inf Try.prog 57 (.agg #[.int .i64 0, .int .i64 0, .int .i64 0, .int .i64 0, .int .i64 0, .slice none 0 0]) 6 64 := by unfold Inf; kernel_rfl
theorem fld35_0 : fldB Try.prog 35 0 0 = true := by kernel_rfl
theorem fld35_1 : fldB Try.prog 35 1 1 = true := by kernel_rfl
theorem fld50_0 : fldB Try.prog 50 0 0 = true := by kernel_rfl
theorem fld50_1 : fldB Try.prog 50 1 1 = true := by kernel_rfl
theorem fld57_0 : fldB Try.prog 57 0 0 = true := by kernel_rfl
theorem fld57_1 : fldB Try.prog 57 1 1 = true := by kernel_rfl
theorem fld57_2 : fldB Try.prog 57 2 2 = true := by kernel_rfl
theorem fld57_3 : fldB Try.prog 57 3 3 = true := by kernel_rfl
set_option maxRecDepth 100000 in
set_option maxHeartbeats 4000000 in
theorem qjob_c {W : World} {F : Snap} {cs : List Res} (w : World) {AJ AS : Option Addr} {cj cS : Nat} {z : Z} (jb ep : Int) (h : St W F cs w) (hR : RdS KJ F AJ z.js) (hn : z.js.length ≤ 100000) : Calls Try.prog 53 #[.agg #[.slice AJ z.js.length cj, .slice AS z.ss.length cS, .bool z.dr], Vi jb, Vi ep] w fun e w' => e = .returned (Vi (jIx z jb ep)) ∧ St W F cs w'  := by
  refine enter (P := Try.prog) (args := [.agg #[.slice AJ z.js.length cj, .slice AS z.ss.length cS, .bool z.dr], Vi jb, Vi ep]) Try.func53 rfl rfl rfl ?_
  refine WC.seq (WC.reg ?_)
  refine WL.box rfl h rfl ?_
  intro b3 w1 h1
  refine WL.v (Runs.assign rfl) rfl ?_
  refine WL.nil (WN.thn (WC.seq (WC.seq (WC.reg ?_))))
  refine WL.v (Runs.assign rfl) rfl ?_
  refine WL.nil (WN.thn (WC.block ?_))
  refine WC.loop (σ := Nat) (fun q_ => [(1, Vi jb), (2, Vi ep), (3, .pointer (some ⟨b3, 0, none⟩)), (7, .int .i64 (q_ : Int))]) (fun q_ w => q_ ≤ z.js.length ∧ (∀ j, j < q_ → jAt jb ep (z.js.getD j J0) = false) ∧ St W F ([(b3, .cells #[.slice AJ z.js.length cj, .slice AS z.ss.length cS, .bool z.dr] 35 (0, 0))] :: cs) w) (fun q_ => z.js.length - q_) (0) (by repeat (first | exact trivial | refine ⟨rfl, ?_⟩)) (⟨Nat.zero_le _, fun j hj => absurd hj (Nat.not_lt_zero _), h1⟩) ?_
  rintro i w2 ⟨hi, hno, hL⟩
  try dsimp only at hi hno hL
  refine WC.sub (s := [(1, Vi jb), (2, Vi ep), (3, .pointer (some ⟨b3, 0, none⟩)), (7, .int .i64 (i : Int))]) (by repeat (first | exact trivial | refine ⟨rfl, ?_⟩)) ?_
  refine WC.seq (WC.seq (WC.reg ?_))
  refine WL.v (Runs.move rfl) rfl ?_
  refine WL.v (Runs.fld fld35_0 rfl) rfl ?_
  refine WL.v (Runs.load1 Try.underlying32 rfl rfl (hL.ocell (i := 0) rfl rfl)) rfl ?_
  refine WL.v (Runs.llen Try.underlying32 rfl rfl) rfl ?_
  refine WL.v (Runs.lss rfl rfl) rfl ?_
  refine WL.nil (WN.thn ?_)
  refine WC.cond rfl (fun c3 => ?_) (fun c3 => ?_)
  · try simp only [dt, df, nt, nf, ba, il, ie] at c3
    first
    | (exfalso; omega)
    | skip
      refine WC.skip (WN.thn (WC.seq (WC.block (WC.seq ?_))))
      have hi2 : i < z.js.length := by omega
      obtain ⟨ad, c, rfl, hc, hcell⟩ := hR.atD J0 hi2
      obtain rfl : c = jc (z.js.getD i J0) := hc
      
      rcases two ((z.js.getD i J0).jb = jb) ((z.js.getD i J0).ep = ep) with q0 | ⟨q0, q1⟩ | ⟨q0, q1⟩
      · skip
        refine WC.reg ?_
        refine WL.v (Runs.fld fld35_0 rfl) rfl ?_
        refine WL.v (Runs.load1 Try.underlying32 rfl rfl (hL.ocell (i := 0) rfl rfl)) rfl ?_
        refine WL.v (Runs.move rfl) rfl ?_
        refine WL.v (Runs.lidxK Try.underlying32 inf50 rfl rfl (n := i) rfl hi2) rfl ?_
        refine WL.v (Runs.fld fld50_0 rfl) rfl ?_
        refine WL.v (Runs.fldKF (n := i) hL hcell Try.underlying3 rfl rfl rfl) rfl ?_
        refine WL.v (Runs.move rfl) rfl ?_
        refine WL.v (Runs.boolT (c := false) (Runs.eql rfl rfl) (decide_eq_false q0)) rfl ?_
        refine WL.v (Runs.move rfl) rfl ?_
        refine WL.goff rfl rfl rfl rfl ?_
        refine WL.goff rfl rfl rfl rfl ?_
        refine WL.goff rfl rfl rfl rfl ?_
        refine WL.goff rfl rfl rfl rfl ?_
        refine WL.goff rfl rfl rfl rfl ?_
        refine WL.goff rfl rfl rfl rfl ?_
        refine WL.goff rfl rfl rfl rfl ?_
        refine WL.goff rfl rfl rfl rfl ?_
        refine WL.v (Runs.pick rfl rfl rfl) rfl ?_
        refine WL.nil (WN.thn ?_)
        refine WC.condF rfl (rfl) ?_
        refine WC.skip (WN.blk (WN.thn (WC.reg ?_)))
        refine WL.v (Runs.move rfl) rfl ?_
        refine WL.v (Runs.addn rfl rfl (by omega)) rfl ?_
        refine WL.v (Runs.assign rfl) rfl ?_
        refine WL.nil ?_
        exact WN.again (i + 1) (by omega) ⟨rfl, rfl, rfl, rfl,  trivial⟩ ⟨by omega, fun j hj => (by
          by_cases e : j = i
          · subst e; show jAt jb ep (z.js.getD j J0) = false; unfold jAt; rw [decide_eq_false q0] <;> rfl
          · exact hno j (by omega)), hL⟩
      · skip
        refine WC.reg ?_
        refine WL.v (Runs.fld fld35_0 rfl) rfl ?_
        refine WL.v (Runs.load1 Try.underlying32 rfl rfl (hL.ocell (i := 0) rfl rfl)) rfl ?_
        refine WL.v (Runs.move rfl) rfl ?_
        refine WL.v (Runs.lidxK Try.underlying32 inf50 rfl rfl (n := i) rfl hi2) rfl ?_
        refine WL.v (Runs.fld fld50_0 rfl) rfl ?_
        refine WL.v (Runs.fldKF (n := i) hL hcell Try.underlying3 rfl rfl rfl) rfl ?_
        refine WL.v (Runs.move rfl) rfl ?_
        refine WL.v (Runs.boolT (c := true) (Runs.eql rfl rfl) (decide_eq_true q0)) rfl ?_
        refine WL.v (Runs.move rfl) rfl ?_
        refine WL.gon rfl rfl rfl ?_
        refine WL.v (Runs.fld fld35_0 rfl) rfl ?_
        refine WL.gon rfl rfl rfl ?_
        refine WL.v (Runs.load1 Try.underlying32 rfl rfl (hL.ocell (i := 0) rfl rfl)) rfl ?_
        refine WL.gon rfl rfl rfl ?_
        refine WL.v (Runs.move rfl) rfl ?_
        refine WL.gon rfl rfl rfl ?_
        refine WL.v (Runs.lidxK Try.underlying32 inf50 rfl rfl (n := i) rfl hi2) rfl ?_
        refine WL.gon rfl rfl rfl ?_
        refine WL.v (Runs.fld fld50_1 rfl) rfl ?_
        refine WL.gon rfl rfl rfl ?_
        refine WL.v (Runs.fldKF (n := i) hL hcell Try.underlying3 rfl rfl rfl) rfl ?_
        refine WL.gon rfl rfl rfl ?_
        refine WL.v (Runs.move rfl) rfl ?_
        refine WL.gon rfl rfl rfl ?_
        refine WL.v (Runs.boolT (c := false) (Runs.eql rfl rfl) (decide_eq_false q1)) rfl ?_
        refine WL.v (Runs.pick rfl rfl rfl) rfl ?_
        refine WL.nil (WN.thn ?_)
        refine WC.condF rfl (rfl) ?_
        refine WC.skip (WN.blk (WN.thn (WC.reg ?_)))
        refine WL.v (Runs.move rfl) rfl ?_
        refine WL.v (Runs.addn rfl rfl (by omega)) rfl ?_
        refine WL.v (Runs.assign rfl) rfl ?_
        refine WL.nil ?_
        exact WN.again (i + 1) (by omega) ⟨rfl, rfl, rfl, rfl,  trivial⟩ ⟨by omega, fun j hj => (by
          by_cases e : j = i
          · subst e; show jAt jb ep (z.js.getD j J0) = false; unfold jAt; rw [decide_eq_true q0, decide_eq_false q1] <;> rfl
          · exact hno j (by omega)), hL⟩
      · skip
        refine WC.reg ?_
        refine WL.v (Runs.fld fld35_0 rfl) rfl ?_
        refine WL.v (Runs.load1 Try.underlying32 rfl rfl (hL.ocell (i := 0) rfl rfl)) rfl ?_
        refine WL.v (Runs.move rfl) rfl ?_
        refine WL.v (Runs.lidxK Try.underlying32 inf50 rfl rfl (n := i) rfl hi2) rfl ?_
        refine WL.v (Runs.fld fld50_0 rfl) rfl ?_
        refine WL.v (Runs.fldKF (n := i) hL hcell Try.underlying3 rfl rfl rfl) rfl ?_
        refine WL.v (Runs.move rfl) rfl ?_
        refine WL.v (Runs.boolT (c := true) (Runs.eql rfl rfl) (decide_eq_true q0)) rfl ?_
        refine WL.v (Runs.move rfl) rfl ?_
        refine WL.gon rfl rfl rfl ?_
        refine WL.v (Runs.fld fld35_0 rfl) rfl ?_
        refine WL.gon rfl rfl rfl ?_
        refine WL.v (Runs.load1 Try.underlying32 rfl rfl (hL.ocell (i := 0) rfl rfl)) rfl ?_
        refine WL.gon rfl rfl rfl ?_
        refine WL.v (Runs.move rfl) rfl ?_
        refine WL.gon rfl rfl rfl ?_
        refine WL.v (Runs.lidxK Try.underlying32 inf50 rfl rfl (n := i) rfl hi2) rfl ?_
        refine WL.gon rfl rfl rfl ?_
        refine WL.v (Runs.fld fld50_1 rfl) rfl ?_
        refine WL.gon rfl rfl rfl ?_
        refine WL.v (Runs.fldKF (n := i) hL hcell Try.underlying3 rfl rfl rfl) rfl ?_
        refine WL.gon rfl rfl rfl ?_
        refine WL.v (Runs.move rfl) rfl ?_
        refine WL.gon rfl rfl rfl ?_
        refine WL.v (Runs.boolT (c := true) (Runs.eql rfl rfl) (decide_eq_true q1)) rfl ?_
        refine WL.v (Runs.pick rfl rfl rfl) rfl ?_
        refine WL.nil (WN.thn ?_)
        refine WC.condT rfl (rfl) ?_
        refine WC.seq (WC.reg ?_)
        refine WL.v (Runs.move rfl) rfl ?_
        refine WL.v (Runs.assign rfl) rfl ?_
        refine WL.nil (WN.thn (WC.ret ?_))
        exact ret1 rfl rfl ⟨by rw [show jIx z jb ep = ((i : Nat) : Int) from ix_some (p := jAt jb ep) (d := J0) hi2 (show jAt jb ep (z.js.getD i J0) = true by unfold jAt; rw [decide_eq_true q0, decide_eq_true q1] <;> rfl) hno] <;> rfl, (hL.drop 0)⟩
  · try simp only [dt, df, nt, nf, ba, il, ie] at c3
    first
    | (exfalso; omega)
    | skip
      refine WC.exit (WX.thn (WX.cut (WX.hit (WN.thn (WC.seq ?_)))))
      refine WC.reg ?_
      refine WL.v (Runs.assign rfl) rfl ?_
      refine WL.nil (WN.thn (WC.ret ?_))
      exact ret1 rfl rfl ⟨by rw [show jIx z jb ep = -1 from ix_none (p := jAt jb ep) (d := J0) (fun j hj => hno j (by omega))] <;> rfl, (hL.drop 0)⟩
set_option maxRecDepth 100000 in
set_option maxHeartbeats 4000000 in
theorem qstep_c {W : World} {F : Snap} {cs : List Res} (w : World) {AJ AS : Option Addr} {cj cS : Nat} {z : Z} (jb ep st : Int) (h : St W F cs w) (hR : RdS KS F AS z.ss) (hn : z.ss.length ≤ 100000) : Calls Try.prog 50 #[.agg #[.slice AJ z.js.length cj, .slice AS z.ss.length cS, .bool z.dr], Vi jb, Vi ep, Vi st] w fun e w' => e = .returned (Vi (sIx z jb ep st)) ∧ St W F cs w'  := by
  refine enter (P := Try.prog) (args := [.agg #[.slice AJ z.js.length cj, .slice AS z.ss.length cS, .bool z.dr], Vi jb, Vi ep, Vi st]) Try.func50 rfl rfl rfl ?_
  refine WC.seq (WC.reg ?_)
  refine WL.box rfl h rfl ?_
  intro b4 w1 h1
  refine WL.v (Runs.assign rfl) rfl ?_
  refine WL.nil (WN.thn (WC.seq (WC.seq (WC.reg ?_))))
  refine WL.v (Runs.assign rfl) rfl ?_
  refine WL.nil (WN.thn (WC.block ?_))
  refine WC.loop (σ := Nat) (fun q_ => [(1, Vi jb), (2, Vi ep), (3, Vi st), (4, .pointer (some ⟨b4, 0, none⟩)), (9, .int .i64 (q_ : Int))]) (fun q_ w => q_ ≤ z.ss.length ∧ (∀ j, j < q_ → sAt jb ep st (z.ss.getD j S0) = false) ∧ St W F ([(b4, .cells #[.slice AJ z.js.length cj, .slice AS z.ss.length cS, .bool z.dr] 35 (0, 0))] :: cs) w) (fun q_ => z.ss.length - q_) (0) (by repeat (first | exact trivial | refine ⟨rfl, ?_⟩)) (⟨Nat.zero_le _, fun j hj => absurd hj (Nat.not_lt_zero _), h1⟩) ?_
  rintro i w2 ⟨hi, hno, hL⟩
  try dsimp only at hi hno hL
  refine WC.sub (s := [(1, Vi jb), (2, Vi ep), (3, Vi st), (4, .pointer (some ⟨b4, 0, none⟩)), (9, .int .i64 (i : Int))]) (by repeat (first | exact trivial | refine ⟨rfl, ?_⟩)) ?_
  refine WC.seq (WC.seq (WC.reg ?_))
  refine WL.v (Runs.move rfl) rfl ?_
  refine WL.v (Runs.fld fld35_1 rfl) rfl ?_
  refine WL.v (Runs.load1 Try.underlying33 rfl rfl (hL.ocell (i := 0) rfl rfl)) rfl ?_
  refine WL.v (Runs.llen Try.underlying33 rfl rfl) rfl ?_
  refine WL.v (Runs.lss rfl rfl) rfl ?_
  refine WL.nil (WN.thn ?_)
  refine WC.cond rfl (fun c3 => ?_) (fun c3 => ?_)
  · try simp only [dt, df, nt, nf, ba, il, ie] at c3
    first
    | (exfalso; omega)
    | skip
      refine WC.skip (WN.thn (WC.seq (WC.block (WC.seq ?_))))
      have hi2 : i < z.ss.length := by omega
      obtain ⟨ad, c, rfl, hc, hcell⟩ := hR.atD S0 hi2
      obtain ⟨A1, cap1, rfl, hps⟩ := hc
      
      rcases three ((z.ss.getD i S0).jb = jb) ((z.ss.getD i S0).ep = ep) ((z.ss.getD i S0).st = st) with q0 | ⟨q0, q1⟩ | ⟨q0, q1, q2⟩ | ⟨q0, q1, q2⟩
      · skip
        refine WC.reg ?_
        refine WL.v (Runs.fld fld35_1 rfl) rfl ?_
        refine WL.v (Runs.load1 Try.underlying33 rfl rfl (hL.ocell (i := 0) rfl rfl)) rfl ?_
        refine WL.v (Runs.move rfl) rfl ?_
        refine WL.v (Runs.lidxK Try.underlying33 inf57 rfl rfl (n := i) rfl hi2) rfl ?_
        refine WL.v (Runs.fld fld57_0 rfl) rfl ?_
        refine WL.v (Runs.fldKF (n := i) hL hcell Try.underlying3 rfl rfl rfl) rfl ?_
        refine WL.v (Runs.move rfl) rfl ?_
        refine WL.v (Runs.boolT (c := false) (Runs.eql rfl rfl) (decide_eq_false q0)) rfl ?_
        refine WL.v (Runs.move rfl) rfl ?_
        refine WL.goff rfl rfl rfl rfl ?_
        refine WL.goff rfl rfl rfl rfl ?_
        refine WL.goff rfl rfl rfl rfl ?_
        refine WL.goff rfl rfl rfl rfl ?_
        refine WL.goff rfl rfl rfl rfl ?_
        refine WL.goff rfl rfl rfl rfl ?_
        refine WL.goff rfl rfl rfl rfl ?_
        refine WL.goff rfl rfl rfl rfl ?_
        refine WL.v (Runs.pick rfl rfl rfl) rfl ?_
        refine WL.v (Runs.move rfl) rfl ?_
        refine WL.goff rfl rfl rfl rfl ?_
        refine WL.goff rfl rfl rfl rfl ?_
        refine WL.goff rfl rfl rfl rfl ?_
        refine WL.goff rfl rfl rfl rfl ?_
        refine WL.goff rfl rfl rfl rfl ?_
        refine WL.goff rfl rfl rfl rfl ?_
        refine WL.goff rfl rfl rfl rfl ?_
        refine WL.goff rfl rfl rfl rfl ?_
        refine WL.v (Runs.pick rfl rfl rfl) rfl ?_
        refine WL.nil (WN.thn ?_)
        refine WC.condF rfl (rfl) ?_
        refine WC.skip (WN.blk (WN.thn (WC.reg ?_)))
        refine WL.v (Runs.move rfl) rfl ?_
        refine WL.v (Runs.addn rfl rfl (by omega)) rfl ?_
        refine WL.v (Runs.assign rfl) rfl ?_
        refine WL.nil ?_
        exact WN.again (i + 1) (by omega) ⟨rfl, rfl, rfl, rfl, rfl,  trivial⟩ ⟨by omega, fun j hj => (by
          by_cases e : j = i
          · subst e; show sAt jb ep st (z.ss.getD j S0) = false; unfold sAt; rw [decide_eq_false q0] <;> rfl
          · exact hno j (by omega)), hL⟩
      · skip
        refine WC.reg ?_
        refine WL.v (Runs.fld fld35_1 rfl) rfl ?_
        refine WL.v (Runs.load1 Try.underlying33 rfl rfl (hL.ocell (i := 0) rfl rfl)) rfl ?_
        refine WL.v (Runs.move rfl) rfl ?_
        refine WL.v (Runs.lidxK Try.underlying33 inf57 rfl rfl (n := i) rfl hi2) rfl ?_
        refine WL.v (Runs.fld fld57_0 rfl) rfl ?_
        refine WL.v (Runs.fldKF (n := i) hL hcell Try.underlying3 rfl rfl rfl) rfl ?_
        refine WL.v (Runs.move rfl) rfl ?_
        refine WL.v (Runs.boolT (c := true) (Runs.eql rfl rfl) (decide_eq_true q0)) rfl ?_
        refine WL.v (Runs.move rfl) rfl ?_
        refine WL.gon rfl rfl rfl ?_
        refine WL.v (Runs.fld fld35_1 rfl) rfl ?_
        refine WL.gon rfl rfl rfl ?_
        refine WL.v (Runs.load1 Try.underlying33 rfl rfl (hL.ocell (i := 0) rfl rfl)) rfl ?_
        refine WL.gon rfl rfl rfl ?_
        refine WL.v (Runs.move rfl) rfl ?_
        refine WL.gon rfl rfl rfl ?_
        refine WL.v (Runs.lidxK Try.underlying33 inf57 rfl rfl (n := i) rfl hi2) rfl ?_
        refine WL.gon rfl rfl rfl ?_
        refine WL.v (Runs.fld fld57_1 rfl) rfl ?_
        refine WL.gon rfl rfl rfl ?_
        refine WL.v (Runs.fldKF (n := i) hL hcell Try.underlying3 rfl rfl rfl) rfl ?_
        refine WL.gon rfl rfl rfl ?_
        refine WL.v (Runs.move rfl) rfl ?_
        refine WL.gon rfl rfl rfl ?_
        refine WL.v (Runs.boolT (c := false) (Runs.eql rfl rfl) (decide_eq_false q1)) rfl ?_
        refine WL.v (Runs.pick rfl rfl rfl) rfl ?_
        refine WL.v (Runs.move rfl) rfl ?_
        refine WL.goff rfl rfl rfl rfl ?_
        refine WL.goff rfl rfl rfl rfl ?_
        refine WL.goff rfl rfl rfl rfl ?_
        refine WL.goff rfl rfl rfl rfl ?_
        refine WL.goff rfl rfl rfl rfl ?_
        refine WL.goff rfl rfl rfl rfl ?_
        refine WL.goff rfl rfl rfl rfl ?_
        refine WL.goff rfl rfl rfl rfl ?_
        refine WL.v (Runs.pick rfl rfl rfl) rfl ?_
        refine WL.nil (WN.thn ?_)
        refine WC.condF rfl (rfl) ?_
        refine WC.skip (WN.blk (WN.thn (WC.reg ?_)))
        refine WL.v (Runs.move rfl) rfl ?_
        refine WL.v (Runs.addn rfl rfl (by omega)) rfl ?_
        refine WL.v (Runs.assign rfl) rfl ?_
        refine WL.nil ?_
        exact WN.again (i + 1) (by omega) ⟨rfl, rfl, rfl, rfl, rfl,  trivial⟩ ⟨by omega, fun j hj => (by
          by_cases e : j = i
          · subst e; show sAt jb ep st (z.ss.getD j S0) = false; unfold sAt; rw [decide_eq_true q0, decide_eq_false q1] <;> rfl
          · exact hno j (by omega)), hL⟩
      · skip
        refine WC.reg ?_
        refine WL.v (Runs.fld fld35_1 rfl) rfl ?_
        refine WL.v (Runs.load1 Try.underlying33 rfl rfl (hL.ocell (i := 0) rfl rfl)) rfl ?_
        refine WL.v (Runs.move rfl) rfl ?_
        refine WL.v (Runs.lidxK Try.underlying33 inf57 rfl rfl (n := i) rfl hi2) rfl ?_
        refine WL.v (Runs.fld fld57_0 rfl) rfl ?_
        refine WL.v (Runs.fldKF (n := i) hL hcell Try.underlying3 rfl rfl rfl) rfl ?_
        refine WL.v (Runs.move rfl) rfl ?_
        refine WL.v (Runs.boolT (c := true) (Runs.eql rfl rfl) (decide_eq_true q0)) rfl ?_
        refine WL.v (Runs.move rfl) rfl ?_
        refine WL.gon rfl rfl rfl ?_
        refine WL.v (Runs.fld fld35_1 rfl) rfl ?_
        refine WL.gon rfl rfl rfl ?_
        refine WL.v (Runs.load1 Try.underlying33 rfl rfl (hL.ocell (i := 0) rfl rfl)) rfl ?_
        refine WL.gon rfl rfl rfl ?_
        refine WL.v (Runs.move rfl) rfl ?_
        refine WL.gon rfl rfl rfl ?_
        refine WL.v (Runs.lidxK Try.underlying33 inf57 rfl rfl (n := i) rfl hi2) rfl ?_
        refine WL.gon rfl rfl rfl ?_
        refine WL.v (Runs.fld fld57_1 rfl) rfl ?_
        refine WL.gon rfl rfl rfl ?_
        refine WL.v (Runs.fldKF (n := i) hL hcell Try.underlying3 rfl rfl rfl) rfl ?_
        refine WL.gon rfl rfl rfl ?_
        refine WL.v (Runs.move rfl) rfl ?_
        refine WL.gon rfl rfl rfl ?_
        refine WL.v (Runs.boolT (c := true) (Runs.eql rfl rfl) (decide_eq_true q1)) rfl ?_
        refine WL.v (Runs.pick rfl rfl rfl) rfl ?_
        refine WL.v (Runs.move rfl) rfl ?_
        refine WL.gon rfl rfl rfl ?_
        refine WL.v (Runs.fld fld35_1 rfl) rfl ?_
        refine WL.gon rfl rfl rfl ?_
        refine WL.v (Runs.load1 Try.underlying33 rfl rfl (hL.ocell (i := 0) rfl rfl)) rfl ?_
        refine WL.gon rfl rfl rfl ?_
        refine WL.v (Runs.move rfl) rfl ?_
        refine WL.gon rfl rfl rfl ?_
        refine WL.v (Runs.lidxK Try.underlying33 inf57 rfl rfl (n := i) rfl hi2) rfl ?_
        refine WL.gon rfl rfl rfl ?_
        refine WL.v (Runs.fld fld57_2 rfl) rfl ?_
        refine WL.gon rfl rfl rfl ?_
        refine WL.v (Runs.fldKF (n := i) hL hcell Try.underlying3 rfl rfl rfl) rfl ?_
        refine WL.gon rfl rfl rfl ?_
        refine WL.v (Runs.move rfl) rfl ?_
        refine WL.gon rfl rfl rfl ?_
        refine WL.v (Runs.boolT (c := false) (Runs.eql rfl rfl) (decide_eq_false q2)) rfl ?_
        refine WL.v (Runs.pick rfl rfl rfl) rfl ?_
        refine WL.nil (WN.thn ?_)
        refine WC.condF rfl (rfl) ?_
        refine WC.skip (WN.blk (WN.thn (WC.reg ?_)))
        refine WL.v (Runs.move rfl) rfl ?_
        refine WL.v (Runs.addn rfl rfl (by omega)) rfl ?_
        refine WL.v (Runs.assign rfl) rfl ?_
        refine WL.nil ?_
        exact WN.again (i + 1) (by omega) ⟨rfl, rfl, rfl, rfl, rfl,  trivial⟩ ⟨by omega, fun j hj => (by
          by_cases e : j = i
          · subst e; show sAt jb ep st (z.ss.getD j S0) = false; unfold sAt; rw [decide_eq_true q0, decide_eq_true q1, decide_eq_false q2] <;> rfl
          · exact hno j (by omega)), hL⟩
      · skip
        refine WC.reg ?_
        refine WL.v (Runs.fld fld35_1 rfl) rfl ?_
        refine WL.v (Runs.load1 Try.underlying33 rfl rfl (hL.ocell (i := 0) rfl rfl)) rfl ?_
        refine WL.v (Runs.move rfl) rfl ?_
        refine WL.v (Runs.lidxK Try.underlying33 inf57 rfl rfl (n := i) rfl hi2) rfl ?_
        refine WL.v (Runs.fld fld57_0 rfl) rfl ?_
        refine WL.v (Runs.fldKF (n := i) hL hcell Try.underlying3 rfl rfl rfl) rfl ?_
        refine WL.v (Runs.move rfl) rfl ?_
        refine WL.v (Runs.boolT (c := true) (Runs.eql rfl rfl) (decide_eq_true q0)) rfl ?_
        refine WL.v (Runs.move rfl) rfl ?_
        refine WL.gon rfl rfl rfl ?_
        refine WL.v (Runs.fld fld35_1 rfl) rfl ?_
        refine WL.gon rfl rfl rfl ?_
        refine WL.v (Runs.load1 Try.underlying33 rfl rfl (hL.ocell (i := 0) rfl rfl)) rfl ?_
        refine WL.gon rfl rfl rfl ?_
        refine WL.v (Runs.move rfl) rfl ?_
        refine WL.gon rfl rfl rfl ?_
        refine WL.v (Runs.lidxK Try.underlying33 inf57 rfl rfl (n := i) rfl hi2) rfl ?_
        refine WL.gon rfl rfl rfl ?_
        refine WL.v (Runs.fld fld57_1 rfl) rfl ?_
        refine WL.gon rfl rfl rfl ?_
        refine WL.v (Runs.fldKF (n := i) hL hcell Try.underlying3 rfl rfl rfl) rfl ?_
        refine WL.gon rfl rfl rfl ?_
        refine WL.v (Runs.move rfl) rfl ?_
        refine WL.gon rfl rfl rfl ?_
        refine WL.v (Runs.boolT (c := true) (Runs.eql rfl rfl) (decide_eq_true q1)) rfl ?_
        refine WL.v (Runs.pick rfl rfl rfl) rfl ?_
        refine WL.v (Runs.move rfl) rfl ?_
        refine WL.gon rfl rfl rfl ?_
        refine WL.v (Runs.fld fld35_1 rfl) rfl ?_
        refine WL.gon rfl rfl rfl ?_
        refine WL.v (Runs.load1 Try.underlying33 rfl rfl (hL.ocell (i := 0) rfl rfl)) rfl ?_
        refine WL.gon rfl rfl rfl ?_
        refine WL.v (Runs.move rfl) rfl ?_
        refine WL.gon rfl rfl rfl ?_
        refine WL.v (Runs.lidxK Try.underlying33 inf57 rfl rfl (n := i) rfl hi2) rfl ?_
        refine WL.gon rfl rfl rfl ?_
        refine WL.v (Runs.fld fld57_2 rfl) rfl ?_
        refine WL.gon rfl rfl rfl ?_
        refine WL.v (Runs.fldKF (n := i) hL hcell Try.underlying3 rfl rfl rfl) rfl ?_
        refine WL.gon rfl rfl rfl ?_
        refine WL.v (Runs.move rfl) rfl ?_
        refine WL.gon rfl rfl rfl ?_
        refine WL.v (Runs.boolT (c := true) (Runs.eql rfl rfl) (decide_eq_true q2)) rfl ?_
        refine WL.v (Runs.pick rfl rfl rfl) rfl ?_
        refine WL.nil (WN.thn ?_)
        refine WC.condT rfl (rfl) ?_
        refine WC.seq (WC.reg ?_)
        refine WL.v (Runs.move rfl) rfl ?_
        refine WL.v (Runs.assign rfl) rfl ?_
        refine WL.nil (WN.thn (WC.ret ?_))
        exact ret1 rfl rfl ⟨by rw [show sIx z jb ep st = ((i : Nat) : Int) from ix_some (p := sAt jb ep st) (d := S0) hi2 (show sAt jb ep st (z.ss.getD i S0) = true by unfold sAt; rw [decide_eq_true q0, decide_eq_true q1, decide_eq_true q2] <;> rfl) hno] <;> rfl, (hL.drop 0)⟩
  · try simp only [dt, df, nt, nf, ba, il, ie] at c3
    first
    | (exfalso; omega)
    | skip
      refine WC.exit (WX.thn (WX.cut (WX.hit (WN.thn (WC.seq ?_)))))
      refine WC.reg ?_
      refine WL.v (Runs.assign rfl) rfl ?_
      refine WL.nil (WN.thn (WC.ret ?_))
      exact ret1 rfl rfl ⟨by rw [show sIx z jb ep st = -1 from ix_none (p := sAt jb ep st) (d := S0) (fun j hj => hno j (by omega))] <;> rfl, (hL.drop 0)⟩
set_option maxRecDepth 100000 in
set_option maxHeartbeats 4000000 in
theorem qnewer_c {W : World} {F : Snap} {cs : List Res} (w : World) {AJ AS : Option Addr} {cj cS : Nat} {z : Z} (jb ep : Int) (h : St W F cs w) (hR : RdS KJ F AJ z.js) (hn : z.js.length ≤ 100000) : Calls Try.prog 77 #[.agg #[.slice AJ z.js.length cj, .slice AS z.ss.length cS, .bool z.dr], Vi jb, Vi ep] w fun e w' => e = .returned (.bool (newM z jb ep)) ∧ St W F cs w'  := by
  refine enter (P := Try.prog) (args := [.agg #[.slice AJ z.js.length cj, .slice AS z.ss.length cS, .bool z.dr], Vi jb, Vi ep]) Try.func77 rfl rfl rfl ?_
  refine WC.seq (WC.reg ?_)
  refine WL.box rfl h rfl ?_
  intro b3 w1 h1
  refine WL.v (Runs.assign rfl) rfl ?_
  refine WL.nil (WN.thn (WC.seq (WC.seq (WC.reg ?_))))
  refine WL.v (Runs.assign rfl) rfl ?_
  refine WL.nil (WN.thn (WC.block ?_))
  refine WC.loop (σ := Nat) (fun q_ => [(1, Vi jb), (2, Vi ep), (3, .pointer (some ⟨b3, 0, none⟩)), (7, .int .i64 (q_ : Int))]) (fun q_ w => q_ ≤ z.js.length ∧ (∀ j, j < q_ → newB jb ep (z.js.getD j J0) = false) ∧ St W F ([(b3, .cells #[.slice AJ z.js.length cj, .slice AS z.ss.length cS, .bool z.dr] 35 (0, 0))] :: cs) w) (fun q_ => z.js.length - q_) (0) (by repeat (first | exact trivial | refine ⟨rfl, ?_⟩)) (⟨Nat.zero_le _, fun j hj => absurd hj (Nat.not_lt_zero _), h1⟩) ?_
  rintro i w2 ⟨hi, hno, hL⟩
  try dsimp only at hi hno hL
  refine WC.sub (s := [(1, Vi jb), (2, Vi ep), (3, .pointer (some ⟨b3, 0, none⟩)), (7, .int .i64 (i : Int))]) (by repeat (first | exact trivial | refine ⟨rfl, ?_⟩)) ?_
  refine WC.seq (WC.seq (WC.reg ?_))
  refine WL.v (Runs.move rfl) rfl ?_
  refine WL.v (Runs.fld fld35_0 rfl) rfl ?_
  refine WL.v (Runs.load1 Try.underlying32 rfl rfl (hL.ocell (i := 0) rfl rfl)) rfl ?_
  refine WL.v (Runs.llen Try.underlying32 rfl rfl) rfl ?_
  refine WL.v (Runs.lss rfl rfl) rfl ?_
  refine WL.nil (WN.thn ?_)
  refine WC.cond rfl (fun c3 => ?_) (fun c3 => ?_)
  · try simp only [dt, df, nt, nf, ba, il, ie] at c3
    first
    | (exfalso; omega)
    | skip
      refine WC.skip (WN.thn (WC.seq (WC.block (WC.seq ?_))))
      have hi2 : i < z.js.length := by omega
      obtain ⟨ad, c, rfl, hc, hcell⟩ := hR.atD J0 hi2
      obtain rfl : c = jc (z.js.getD i J0) := hc
      
      rcases two ((z.js.getD i J0).jb = jb) ((z.js.getD i J0).ep ≥ ep) with q0 | ⟨q0, q1⟩ | ⟨q0, q1⟩
      · skip
        refine WC.reg ?_
        refine WL.v (Runs.fld fld35_0 rfl) rfl ?_
        refine WL.v (Runs.load1 Try.underlying32 rfl rfl (hL.ocell (i := 0) rfl rfl)) rfl ?_
        refine WL.v (Runs.move rfl) rfl ?_
        refine WL.v (Runs.lidxK Try.underlying32 inf50 rfl rfl (n := i) rfl hi2) rfl ?_
        refine WL.v (Runs.fld fld50_0 rfl) rfl ?_
        refine WL.v (Runs.fldKF (n := i) hL hcell Try.underlying3 rfl rfl rfl) rfl ?_
        refine WL.v (Runs.move rfl) rfl ?_
        refine WL.v (Runs.boolT (c := false) (Runs.eql rfl rfl) (decide_eq_false q0)) rfl ?_
        refine WL.v (Runs.move rfl) rfl ?_
        refine WL.goff rfl rfl rfl rfl ?_
        refine WL.goff rfl rfl rfl rfl ?_
        refine WL.goff rfl rfl rfl rfl ?_
        refine WL.goff rfl rfl rfl rfl ?_
        refine WL.goff rfl rfl rfl rfl ?_
        refine WL.goff rfl rfl rfl rfl ?_
        refine WL.goff rfl rfl rfl rfl ?_
        refine WL.goff rfl rfl rfl rfl ?_
        refine WL.v (Runs.pick rfl rfl rfl) rfl ?_
        refine WL.nil (WN.thn ?_)
        refine WC.condF rfl (rfl) ?_
        refine WC.skip (WN.blk (WN.thn (WC.reg ?_)))
        refine WL.v (Runs.move rfl) rfl ?_
        refine WL.v (Runs.addn rfl rfl (by omega)) rfl ?_
        refine WL.v (Runs.assign rfl) rfl ?_
        refine WL.nil ?_
        exact WN.again (i + 1) (by omega) ⟨rfl, rfl, rfl, rfl,  trivial⟩ ⟨by omega, fun j hj => (by
          by_cases e : j = i
          · subst e; show newB jb ep (z.js.getD j J0) = false; unfold newB; rw [decide_eq_false q0] <;> rfl
          · exact hno j (by omega)), hL⟩
      · skip
        refine WC.reg ?_
        refine WL.v (Runs.fld fld35_0 rfl) rfl ?_
        refine WL.v (Runs.load1 Try.underlying32 rfl rfl (hL.ocell (i := 0) rfl rfl)) rfl ?_
        refine WL.v (Runs.move rfl) rfl ?_
        refine WL.v (Runs.lidxK Try.underlying32 inf50 rfl rfl (n := i) rfl hi2) rfl ?_
        refine WL.v (Runs.fld fld50_0 rfl) rfl ?_
        refine WL.v (Runs.fldKF (n := i) hL hcell Try.underlying3 rfl rfl rfl) rfl ?_
        refine WL.v (Runs.move rfl) rfl ?_
        refine WL.v (Runs.boolT (c := true) (Runs.eql rfl rfl) (decide_eq_true q0)) rfl ?_
        refine WL.v (Runs.move rfl) rfl ?_
        refine WL.gon rfl rfl rfl ?_
        refine WL.v (Runs.fld fld35_0 rfl) rfl ?_
        refine WL.gon rfl rfl rfl ?_
        refine WL.v (Runs.load1 Try.underlying32 rfl rfl (hL.ocell (i := 0) rfl rfl)) rfl ?_
        refine WL.gon rfl rfl rfl ?_
        refine WL.v (Runs.move rfl) rfl ?_
        refine WL.gon rfl rfl rfl ?_
        refine WL.v (Runs.lidxK Try.underlying32 inf50 rfl rfl (n := i) rfl hi2) rfl ?_
        refine WL.gon rfl rfl rfl ?_
        refine WL.v (Runs.fld fld50_1 rfl) rfl ?_
        refine WL.gon rfl rfl rfl ?_
        refine WL.v (Runs.fldKF (n := i) hL hcell Try.underlying3 rfl rfl rfl) rfl ?_
        refine WL.gon rfl rfl rfl ?_
        refine WL.v (Runs.move rfl) rfl ?_
        refine WL.gon rfl rfl rfl ?_
        refine WL.v (Runs.boolT (c := false) (Runs.geq rfl rfl) (decide_eq_false q1)) rfl ?_
        refine WL.v (Runs.pick rfl rfl rfl) rfl ?_
        refine WL.nil (WN.thn ?_)
        refine WC.condF rfl (rfl) ?_
        refine WC.skip (WN.blk (WN.thn (WC.reg ?_)))
        refine WL.v (Runs.move rfl) rfl ?_
        refine WL.v (Runs.addn rfl rfl (by omega)) rfl ?_
        refine WL.v (Runs.assign rfl) rfl ?_
        refine WL.nil ?_
        exact WN.again (i + 1) (by omega) ⟨rfl, rfl, rfl, rfl,  trivial⟩ ⟨by omega, fun j hj => (by
          by_cases e : j = i
          · subst e; show newB jb ep (z.js.getD j J0) = false; unfold newB; rw [decide_eq_true q0, decide_eq_false q1] <;> rfl
          · exact hno j (by omega)), hL⟩
      · skip
        refine WC.reg ?_
        refine WL.v (Runs.fld fld35_0 rfl) rfl ?_
        refine WL.v (Runs.load1 Try.underlying32 rfl rfl (hL.ocell (i := 0) rfl rfl)) rfl ?_
        refine WL.v (Runs.move rfl) rfl ?_
        refine WL.v (Runs.lidxK Try.underlying32 inf50 rfl rfl (n := i) rfl hi2) rfl ?_
        refine WL.v (Runs.fld fld50_0 rfl) rfl ?_
        refine WL.v (Runs.fldKF (n := i) hL hcell Try.underlying3 rfl rfl rfl) rfl ?_
        refine WL.v (Runs.move rfl) rfl ?_
        refine WL.v (Runs.boolT (c := true) (Runs.eql rfl rfl) (decide_eq_true q0)) rfl ?_
        refine WL.v (Runs.move rfl) rfl ?_
        refine WL.gon rfl rfl rfl ?_
        refine WL.v (Runs.fld fld35_0 rfl) rfl ?_
        refine WL.gon rfl rfl rfl ?_
        refine WL.v (Runs.load1 Try.underlying32 rfl rfl (hL.ocell (i := 0) rfl rfl)) rfl ?_
        refine WL.gon rfl rfl rfl ?_
        refine WL.v (Runs.move rfl) rfl ?_
        refine WL.gon rfl rfl rfl ?_
        refine WL.v (Runs.lidxK Try.underlying32 inf50 rfl rfl (n := i) rfl hi2) rfl ?_
        refine WL.gon rfl rfl rfl ?_
        refine WL.v (Runs.fld fld50_1 rfl) rfl ?_
        refine WL.gon rfl rfl rfl ?_
        refine WL.v (Runs.fldKF (n := i) hL hcell Try.underlying3 rfl rfl rfl) rfl ?_
        refine WL.gon rfl rfl rfl ?_
        refine WL.v (Runs.move rfl) rfl ?_
        refine WL.gon rfl rfl rfl ?_
        refine WL.v (Runs.boolT (c := true) (Runs.geq rfl rfl) (decide_eq_true q1)) rfl ?_
        refine WL.v (Runs.pick rfl rfl rfl) rfl ?_
        refine WL.nil (WN.thn ?_)
        refine WC.condT rfl (rfl) ?_
        refine WC.seq (WC.reg ?_)
        refine WL.v (Runs.assign rfl) rfl ?_
        refine WL.nil (WN.thn (WC.ret ?_))
        exact ret1 rfl rfl ⟨by rw [show newM z jb ep = true from any_t (p := newB jb ep) (d := J0) hi2 (show newB jb ep (z.js.getD i J0) = true by unfold newB; rw [decide_eq_true q0, decide_eq_true q1] <;> rfl)] <;> rfl, (hL.drop 0)⟩
  · try simp only [dt, df, nt, nf, ba, il, ie] at c3
    first
    | (exfalso; omega)
    | skip
      refine WC.exit (WX.thn (WX.cut (WX.hit (WN.thn (WC.seq ?_)))))
      refine WC.reg ?_
      refine WL.v (Runs.assign rfl) rfl ?_
      refine WL.nil (WN.thn (WC.ret ?_))
      exact ret1 rfl rfl ⟨by rw [show newM z jb ep = false from any_f (p := newB jb ep) (d := J0) (fun j hj => hno j (by omega))] <;> rfl, (hL.drop 0)⟩
set_option maxRecDepth 100000 in
set_option maxHeartbeats 4000000 in
theorem qalive_c {W : World} {F : Snap} {cs : List Res} (w : World) {AJ AS : Option Addr} {cj cS : Nat} {z : Z} (jb ep : Int) (h : St W F cs w) (hR : RdS KS F AS z.ss) (hn : z.ss.length ≤ 100000) : Calls Try.prog 27 #[.agg #[.slice AJ z.js.length cj, .slice AS z.ss.length cS, .bool z.dr], Vi jb, Vi ep] w fun e w' => e = .returned (.bool (aliveM z jb ep)) ∧ St W F cs w'  := by
  refine enter (P := Try.prog) (args := [.agg #[.slice AJ z.js.length cj, .slice AS z.ss.length cS, .bool z.dr], Vi jb, Vi ep]) Try.func27 rfl rfl rfl ?_
  refine WC.seq (WC.reg ?_)
  refine WL.box rfl h rfl ?_
  intro b3 w1 h1
  refine WL.v (Runs.assign rfl) rfl ?_
  refine WL.nil (WN.thn (WC.seq (WC.seq (WC.reg ?_))))
  refine WL.v (Runs.assign rfl) rfl ?_
  refine WL.nil (WN.thn (WC.block ?_))
  refine WC.loop (σ := Nat) (fun q_ => [(1, Vi jb), (2, Vi ep), (3, .pointer (some ⟨b3, 0, none⟩)), (7, .int .i64 (q_ : Int))]) (fun q_ w => q_ ≤ z.ss.length ∧ (∀ j, j < q_ → aliveB jb ep (z.ss.getD j S0) = false) ∧ St W F ([(b3, .cells #[.slice AJ z.js.length cj, .slice AS z.ss.length cS, .bool z.dr] 35 (0, 0))] :: cs) w) (fun q_ => z.ss.length - q_) (0) (by repeat (first | exact trivial | refine ⟨rfl, ?_⟩)) (⟨Nat.zero_le _, fun j hj => absurd hj (Nat.not_lt_zero _), h1⟩) ?_
  rintro i w2 ⟨hi, hno, hL⟩
  try dsimp only at hi hno hL
  refine WC.sub (s := [(1, Vi jb), (2, Vi ep), (3, .pointer (some ⟨b3, 0, none⟩)), (7, .int .i64 (i : Int))]) (by repeat (first | exact trivial | refine ⟨rfl, ?_⟩)) ?_
  refine WC.seq (WC.seq (WC.reg ?_))
  refine WL.v (Runs.move rfl) rfl ?_
  refine WL.v (Runs.fld fld35_1 rfl) rfl ?_
  refine WL.v (Runs.load1 Try.underlying33 rfl rfl (hL.ocell (i := 0) rfl rfl)) rfl ?_
  refine WL.v (Runs.llen Try.underlying33 rfl rfl) rfl ?_
  refine WL.v (Runs.lss rfl rfl) rfl ?_
  refine WL.nil (WN.thn ?_)
  refine WC.cond rfl (fun c3 => ?_) (fun c3 => ?_)
  · try simp only [dt, df, nt, nf, ba, il, ie] at c3
    first
    | (exfalso; omega)
    | skip
      refine WC.skip (WN.thn (WC.seq (WC.block (WC.seq ?_))))
      have hi2 : i < z.ss.length := by omega
      obtain ⟨ad, c, rfl, hc, hcell⟩ := hR.atD S0 hi2
      obtain ⟨A1, cap1, rfl, hps⟩ := hc
      
      refine WC.reg ?_
      refine WL.v (Runs.fld fld35_1 rfl) rfl ?_
      refine WL.v (Runs.load1 Try.underlying33 rfl rfl (hL.ocell (i := 0) rfl rfl)) rfl ?_
      refine WL.v (Runs.move rfl) rfl ?_
      refine WL.v (Runs.lidxK Try.underlying33 inf57 rfl rfl (n := i) rfl hi2) rfl ?_
      refine WL.v (Runs.loadKF hL hcell Try.underlying57 rfl inf57 rfl rfl) rfl ?_
      refine WL.alloc' rfl hL inf57 ?_
      intro b8 w4 h4
      refine WL.storeAll h4 0 rfl rfl rfl inf57 rfl rfl rfl (Free.zero _) ?_
      intro  w5 h5
      try simp only [lz, ls, ez, es'] at h5
      refine WL.nil (WN.thn (WC.seq ?_))
      rcases four ((z.ss.getD i S0).jb = jb) ((z.ss.getD i S0).ep = ep) (¬ (z.ss.getD i S0).ph = 0) (¬ (z.ss.getD i S0).ph = 1) with q0 | ⟨q0, q1⟩ | ⟨q0, q1, q2⟩ | ⟨q0, q1, q2, q3⟩ | ⟨q0, q1, q2, q3⟩
      · skip
        refine WC.reg ?_
        refine WL.v (Runs.fld fld57_0 rfl) rfl ?_
        refine WL.v (Runs.load1 Try.underlying3 rfl rfl (h5.ocell (i := 0) rfl rfl)) rfl ?_
        refine WL.v (Runs.move rfl) rfl ?_
        refine WL.v (Runs.boolT (c := false) (Runs.eql rfl rfl) (decide_eq_false q0)) rfl ?_
        refine WL.v (Runs.move rfl) rfl ?_
        refine WL.goff rfl rfl rfl rfl ?_
        refine WL.goff rfl rfl rfl rfl ?_
        refine WL.goff rfl rfl rfl rfl ?_
        refine WL.goff rfl rfl rfl rfl ?_
        refine WL.v (Runs.pick rfl rfl rfl) rfl ?_
        refine WL.v (Runs.move rfl) rfl ?_
        refine WL.goff rfl rfl rfl rfl ?_
        refine WL.goff rfl rfl rfl rfl ?_
        refine WL.goff rfl rfl rfl rfl ?_
        refine WL.goff rfl rfl rfl rfl ?_
        refine WL.goffU rfl rfl rfl ?_
        refine WL.goffU rfl rfl rfl ?_
        refine WL.goffU rfl rfl rfl ?_
        refine WL.goff rfl rfl rfl rfl ?_
        refine WL.v (Runs.pick rfl rfl rfl) rfl ?_
        refine WL.nil (WN.thn ?_)
        refine WC.condF rfl (rfl) ?_
        refine WC.skip (WN.blk (WN.thn (WC.reg ?_)))
        refine WL.v (Runs.move rfl) rfl ?_
        refine WL.v (Runs.addn rfl rfl (by omega)) rfl ?_
        refine WL.v (Runs.assign rfl) rfl ?_
        refine WL.nil ?_
        exact WN.again (i + 1) (by omega) ⟨rfl, rfl, rfl, rfl, trivial⟩ ⟨by omega, fun j hj => (by
          by_cases e : j = i
          · subst e; show aliveB jb ep (z.ss.getD j S0) = false; unfold aliveB; rw [decide_eq_false q0] <;> rfl
          · exact hno j (by omega)), (h5.drop 0)⟩
      · skip
        refine WC.reg ?_
        refine WL.v (Runs.fld fld57_0 rfl) rfl ?_
        refine WL.v (Runs.load1 Try.underlying3 rfl rfl (h5.ocell (i := 0) rfl rfl)) rfl ?_
        refine WL.v (Runs.move rfl) rfl ?_
        refine WL.v (Runs.boolT (c := true) (Runs.eql rfl rfl) (decide_eq_true q0)) rfl ?_
        refine WL.v (Runs.move rfl) rfl ?_
        refine WL.gon rfl rfl rfl ?_
        refine WL.v (Runs.fld fld57_1 rfl) rfl ?_
        refine WL.gon rfl rfl rfl ?_
        refine WL.v (Runs.load1 Try.underlying3 rfl rfl (h5.ocell (i := 0) rfl rfl)) rfl ?_
        refine WL.gon rfl rfl rfl ?_
        refine WL.v (Runs.move rfl) rfl ?_
        refine WL.gon rfl rfl rfl ?_
        refine WL.v (Runs.boolT (c := false) (Runs.eql rfl rfl) (decide_eq_false q1)) rfl ?_
        refine WL.v (Runs.pick rfl rfl rfl) rfl ?_
        refine WL.v (Runs.move rfl) rfl ?_
        refine WL.goff rfl rfl rfl rfl ?_
        refine WL.goff rfl rfl rfl rfl ?_
        refine WL.goff rfl rfl rfl rfl ?_
        refine WL.goff rfl rfl rfl rfl ?_
        refine WL.goffU rfl rfl rfl ?_
        refine WL.goffU rfl rfl rfl ?_
        refine WL.goffU rfl rfl rfl ?_
        refine WL.goff rfl rfl rfl rfl ?_
        refine WL.v (Runs.pick rfl rfl rfl) rfl ?_
        refine WL.nil (WN.thn ?_)
        refine WC.condF rfl (rfl) ?_
        refine WC.skip (WN.blk (WN.thn (WC.reg ?_)))
        refine WL.v (Runs.move rfl) rfl ?_
        refine WL.v (Runs.addn rfl rfl (by omega)) rfl ?_
        refine WL.v (Runs.assign rfl) rfl ?_
        refine WL.nil ?_
        exact WN.again (i + 1) (by omega) ⟨rfl, rfl, rfl, rfl, trivial⟩ ⟨by omega, fun j hj => (by
          by_cases e : j = i
          · subst e; show aliveB jb ep (z.ss.getD j S0) = false; unfold aliveB; rw [decide_eq_true q0, decide_eq_false q1] <;> rfl
          · exact hno j (by omega)), (h5.drop 0)⟩
      · skip
        refine WC.reg ?_
        refine WL.v (Runs.fld fld57_0 rfl) rfl ?_
        refine WL.v (Runs.load1 Try.underlying3 rfl rfl (h5.ocell (i := 0) rfl rfl)) rfl ?_
        refine WL.v (Runs.move rfl) rfl ?_
        refine WL.v (Runs.boolT (c := true) (Runs.eql rfl rfl) (decide_eq_true q0)) rfl ?_
        refine WL.v (Runs.move rfl) rfl ?_
        refine WL.gon rfl rfl rfl ?_
        refine WL.v (Runs.fld fld57_1 rfl) rfl ?_
        refine WL.gon rfl rfl rfl ?_
        refine WL.v (Runs.load1 Try.underlying3 rfl rfl (h5.ocell (i := 0) rfl rfl)) rfl ?_
        refine WL.gon rfl rfl rfl ?_
        refine WL.v (Runs.move rfl) rfl ?_
        refine WL.gon rfl rfl rfl ?_
        refine WL.v (Runs.boolT (c := true) (Runs.eql rfl rfl) (decide_eq_true q1)) rfl ?_
        refine WL.v (Runs.pick rfl rfl rfl) rfl ?_
        refine WL.v (Runs.move rfl) rfl ?_
        refine WL.gon rfl rfl rfl ?_
        refine WL.v (Runs.fld fld57_3 rfl) rfl ?_
        refine WL.gon rfl rfl rfl ?_
        refine WL.v (Runs.load1 Try.underlying3 rfl rfl (h5.ocell (i := 0) rfl rfl)) rfl ?_
        refine WL.gon rfl rfl rfl ?_
        refine WL.v (Runs.boolT (c := true) (Runs.eql rfl rfl) (decide_eq_true (Classical.not_not.1 q2))) rfl ?_
        refine WL.gon rfl rfl rfl ?_
        refine WL.v (Runs.move rfl) rfl ?_
        refine WL.goff rfl rfl rfl rfl ?_
        refine WL.goff rfl rfl rfl rfl ?_
        refine WL.goff rfl rfl rfl rfl ?_
        refine WL.gon rfl rfl rfl ?_
        refine WL.v (Runs.pick rfl rfl rfl) rfl ?_
        refine WL.v (Runs.pick rfl rfl rfl) rfl ?_
        refine WL.nil (WN.thn ?_)
        refine WC.condT rfl (rfl) ?_
        refine WC.seq (WC.reg ?_)
        refine WL.v (Runs.assign rfl) rfl ?_
        refine WL.nil (WN.thn (WC.ret ?_))
        exact ret1 rfl rfl ⟨by rw [show aliveM z jb ep = true from any_t (p := aliveB jb ep) (d := S0) hi2 (show aliveB jb ep (z.ss.getD i S0) = true by unfold aliveB; rw [decide_eq_true q0, decide_eq_true q1, decide_eq_true (Classical.not_not.1 q2)] <;> rfl)] <;> rfl, ((h5.drop 0).drop 0)⟩
      · skip
        refine WC.reg ?_
        refine WL.v (Runs.fld fld57_0 rfl) rfl ?_
        refine WL.v (Runs.load1 Try.underlying3 rfl rfl (h5.ocell (i := 0) rfl rfl)) rfl ?_
        refine WL.v (Runs.move rfl) rfl ?_
        refine WL.v (Runs.boolT (c := true) (Runs.eql rfl rfl) (decide_eq_true q0)) rfl ?_
        refine WL.v (Runs.move rfl) rfl ?_
        refine WL.gon rfl rfl rfl ?_
        refine WL.v (Runs.fld fld57_1 rfl) rfl ?_
        refine WL.gon rfl rfl rfl ?_
        refine WL.v (Runs.load1 Try.underlying3 rfl rfl (h5.ocell (i := 0) rfl rfl)) rfl ?_
        refine WL.gon rfl rfl rfl ?_
        refine WL.v (Runs.move rfl) rfl ?_
        refine WL.gon rfl rfl rfl ?_
        refine WL.v (Runs.boolT (c := true) (Runs.eql rfl rfl) (decide_eq_true q1)) rfl ?_
        refine WL.v (Runs.pick rfl rfl rfl) rfl ?_
        refine WL.v (Runs.move rfl) rfl ?_
        refine WL.gon rfl rfl rfl ?_
        refine WL.v (Runs.fld fld57_3 rfl) rfl ?_
        refine WL.gon rfl rfl rfl ?_
        refine WL.v (Runs.load1 Try.underlying3 rfl rfl (h5.ocell (i := 0) rfl rfl)) rfl ?_
        refine WL.gon rfl rfl rfl ?_
        refine WL.v (Runs.boolT (c := false) (Runs.eql rfl rfl) (decide_eq_false q2)) rfl ?_
        refine WL.gon rfl rfl rfl ?_
        refine WL.v (Runs.move rfl) rfl ?_
        refine WL.gon rfl rfl rfl ?_
        refine WL.v (Runs.fld fld57_3 rfl) rfl ?_
        refine WL.gon rfl rfl rfl ?_
        refine WL.v (Runs.load1 Try.underlying3 rfl rfl (h5.ocell (i := 0) rfl rfl)) rfl ?_
        refine WL.gon rfl rfl rfl ?_
        refine WL.v (Runs.boolT (c := true) (Runs.eql rfl rfl) (decide_eq_true (Classical.not_not.1 q3))) rfl ?_
        refine WL.gon rfl rfl rfl ?_
        refine WL.v (Runs.pick rfl rfl rfl) rfl ?_
        refine WL.v (Runs.pick rfl rfl rfl) rfl ?_
        refine WL.nil (WN.thn ?_)
        refine WC.condT rfl (rfl) ?_
        refine WC.seq (WC.reg ?_)
        refine WL.v (Runs.assign rfl) rfl ?_
        refine WL.nil (WN.thn (WC.ret ?_))
        exact ret1 rfl rfl ⟨by rw [show aliveM z jb ep = true from any_t (p := aliveB jb ep) (d := S0) hi2 (show aliveB jb ep (z.ss.getD i S0) = true by unfold aliveB; rw [decide_eq_true q0, decide_eq_true q1, decide_eq_false q2, decide_eq_true (Classical.not_not.1 q3)] <;> rfl)] <;> rfl, ((h5.drop 0).drop 0)⟩
      · skip
        refine WC.reg ?_
        refine WL.v (Runs.fld fld57_0 rfl) rfl ?_
        refine WL.v (Runs.load1 Try.underlying3 rfl rfl (h5.ocell (i := 0) rfl rfl)) rfl ?_
        refine WL.v (Runs.move rfl) rfl ?_
        refine WL.v (Runs.boolT (c := true) (Runs.eql rfl rfl) (decide_eq_true q0)) rfl ?_
        refine WL.v (Runs.move rfl) rfl ?_
        refine WL.gon rfl rfl rfl ?_
        refine WL.v (Runs.fld fld57_1 rfl) rfl ?_
        refine WL.gon rfl rfl rfl ?_
        refine WL.v (Runs.load1 Try.underlying3 rfl rfl (h5.ocell (i := 0) rfl rfl)) rfl ?_
        refine WL.gon rfl rfl rfl ?_
        refine WL.v (Runs.move rfl) rfl ?_
        refine WL.gon rfl rfl rfl ?_
        refine WL.v (Runs.boolT (c := true) (Runs.eql rfl rfl) (decide_eq_true q1)) rfl ?_
        refine WL.v (Runs.pick rfl rfl rfl) rfl ?_
        refine WL.v (Runs.move rfl) rfl ?_
        refine WL.gon rfl rfl rfl ?_
        refine WL.v (Runs.fld fld57_3 rfl) rfl ?_
        refine WL.gon rfl rfl rfl ?_
        refine WL.v (Runs.load1 Try.underlying3 rfl rfl (h5.ocell (i := 0) rfl rfl)) rfl ?_
        refine WL.gon rfl rfl rfl ?_
        refine WL.v (Runs.boolT (c := false) (Runs.eql rfl rfl) (decide_eq_false q2)) rfl ?_
        refine WL.gon rfl rfl rfl ?_
        refine WL.v (Runs.move rfl) rfl ?_
        refine WL.gon rfl rfl rfl ?_
        refine WL.v (Runs.fld fld57_3 rfl) rfl ?_
        refine WL.gon rfl rfl rfl ?_
        refine WL.v (Runs.load1 Try.underlying3 rfl rfl (h5.ocell (i := 0) rfl rfl)) rfl ?_
        refine WL.gon rfl rfl rfl ?_
        refine WL.v (Runs.boolT (c := false) (Runs.eql rfl rfl) (decide_eq_false q3)) rfl ?_
        refine WL.gon rfl rfl rfl ?_
        refine WL.v (Runs.pick rfl rfl rfl) rfl ?_
        refine WL.v (Runs.pick rfl rfl rfl) rfl ?_
        refine WL.nil (WN.thn ?_)
        refine WC.condF rfl (rfl) ?_
        refine WC.skip (WN.blk (WN.thn (WC.reg ?_)))
        refine WL.v (Runs.move rfl) rfl ?_
        refine WL.v (Runs.addn rfl rfl (by omega)) rfl ?_
        refine WL.v (Runs.assign rfl) rfl ?_
        refine WL.nil ?_
        exact WN.again (i + 1) (by omega) ⟨rfl, rfl, rfl, rfl, trivial⟩ ⟨by omega, fun j hj => (by
          by_cases e : j = i
          · subst e; show aliveB jb ep (z.ss.getD j S0) = false; unfold aliveB; rw [decide_eq_true q0, decide_eq_true q1, decide_eq_false q2, decide_eq_false q3] <;> rfl
          · exact hno j (by omega)), (h5.drop 0)⟩
  · try simp only [dt, df, nt, nf, ba, il, ie] at c3
    first
    | (exfalso; omega)
    | skip
      refine WC.exit (WX.thn (WX.cut (WX.hit (WN.thn (WC.seq ?_)))))
      refine WC.reg ?_
      refine WL.v (Runs.assign rfl) rfl ?_
      refine WL.nil (WN.thn (WC.ret ?_))
      exact ret1 rfl rfl ⟨by rw [show aliveM z jb ep = false from any_f (p := aliveB jb ep) (d := S0) (fun j hj => hno j (by omega))] <;> rfl, (hL.drop 0)⟩
end Rc
end Go.Proofs.Ythejglgnoingfaa
