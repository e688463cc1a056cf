/- Walks of package dag: the reference: whether steps may be, and their order; whether they are few; lists. -/
import Derived.Test.YtkfkdenikkadhaaD7
namespace Go.Proofs.Ytkfkdenikkadhaa
open Go Go.RowKit B
set_option linter.unusedVariables false
set_option linter.unusedSimpArgs false
namespace Dg

theorem can12 : B.Can Try.prog 12 := ⟨_, Try.func12, by kernel_rfl, rfl⟩   -- roundhouse/roundhouseref13.Check
theorem can26 : B.Can Try.prog 26 := ⟨_, Try.func26, by kernel_rfl, rfl⟩   -- roundhouse/roundhouseref13.step
theorem can27 : B.Can Try.prog 27 := ⟨_, Try.func27, by kernel_rfl, rfl⟩   -- roundhouse/roundhouseref13.order
set_option maxRecDepth 100000 in
set_option maxHeartbeats 4000000 in
theorem qcheck_c {W : World} {F : Snap} {cs : List Res} (w : World) {A : Option Addr} {cap : Nat} {l : List S} (h : St W F cs w) (hR : RdS KS F A l) (hl : l.length ≤ 100000) (hf : fewE l) : Calls Try.prog 12 #[.slice A l.length cap] w fun r w' => r = .returned (Vi (chkM l)) ∧ St W F cs w'  := by
  refine enter (P := Try.prog) (args := [.slice A l.length cap]) Try.func12 rfl rfl rfl ?_
  refine WC.seq ?_
  refine WC.reg ?_
  refine WL.v (Runs.assign rfl) rfl ?_
  refine WL.nil ?_
  refine WN.thn ?_
  refine WC.seq ?_
  refine WC.seq ?_
  have hcase : l.length < 1 ∨ 16 < l.length ∨ (1 ≤ l.length ∧ l.length ≤ 16) := by omega
  rcases hcase with hb | hb | hb
  · skip
    refine WC.reg ?_
    refine WL.v (Runs.move rfl) rfl ?_
    refine WL.v (Runs.intT (n := (l.length : Int)) (Runs.llen Try.underlying22 rfl rfl) rfl) rfl ?_
    refine WL.v (Runs.boolT (c := true) (Runs.lss rfl rfl) (by rw [decide_eq_true_eq]; omega)) rfl ?_
    refine WL.v (Runs.move rfl) rfl ?_
    refine WL.goff rfl rfl rfl rfl ?_
    refine WL.goff rfl rfl rfl rfl ?_
    refine WL.goff rfl rfl rfl rfl ?_
    refine WL.v (Runs.pick rfl rfl rfl) rfl ?_
    refine WL.nil ?_
    refine WN.thn ?_
    refine WC.condT rfl (rfl) ?_
    refine WC.seq ?_
    refine WC.reg ?_
    refine WL.v (Runs.assign rfl) rfl ?_
    refine WL.nil ?_
    refine WN.thn ?_
    refine WC.ret ?_
    refine ret1 rfl rfl ⟨?_, h⟩
    unfold chkM
    rw [if_pos (by omega)]
  · skip
    refine WC.reg ?_
    refine WL.v (Runs.move rfl) rfl ?_
    refine WL.v (Runs.intT (n := (l.length : Int)) (Runs.llen Try.underlying22 rfl rfl) rfl) rfl ?_
    refine WL.v (Runs.boolT (c := false) (Runs.lss rfl rfl) (by rw [decide_eq_false_iff_not]; omega)) rfl ?_
    refine WL.v (Runs.move rfl) rfl ?_
    refine WL.gon rfl rfl rfl ?_
    refine WL.v (Runs.move rfl) rfl ?_
    refine WL.gon rfl rfl rfl ?_
    refine WL.v (Runs.llen Try.underlying22 rfl rfl) rfl ?_
    refine WL.gon rfl rfl rfl ?_
    refine WL.v (Runs.boolT (c := true) (Runs.gtr rfl rfl) (by rw [decide_eq_true_eq]; omega)) rfl ?_
    refine WL.v (Runs.pick rfl rfl rfl) rfl ?_
    refine WL.nil ?_
    refine WN.thn ?_
    refine WC.condT rfl (rfl) ?_
    refine WC.seq ?_
    refine WC.reg ?_
    refine WL.v (Runs.assign rfl) rfl ?_
    refine WL.nil ?_
    refine WN.thn ?_
    refine WC.ret ?_
    refine ret1 rfl rfl ⟨?_, h⟩
    unfold chkM
    rw [if_pos (by omega)]
  · skip
    refine WC.reg ?_
    refine WL.v (Runs.move rfl) rfl ?_
    refine WL.v (Runs.intT (n := (l.length : Int)) (Runs.llen Try.underlying22 rfl rfl) rfl) rfl ?_
    refine WL.v (Runs.boolT (c := false) (Runs.lss rfl rfl) (by rw [decide_eq_false_iff_not]; omega)) rfl ?_
    refine WL.v (Runs.move rfl) rfl ?_
    refine WL.gon rfl rfl rfl ?_
    refine WL.v (Runs.move rfl) rfl ?_
    refine WL.gon rfl rfl rfl ?_
    refine WL.v (Runs.llen Try.underlying22 rfl rfl) rfl ?_
    refine WL.gon rfl rfl rfl ?_
    refine WL.v (Runs.boolT (c := false) (Runs.gtr rfl rfl) (by rw [decide_eq_false_iff_not]; omega)) rfl ?_
    refine WL.v (Runs.pick rfl rfl rfl) rfl ?_
    refine WL.nil ?_
    refine WN.thn ?_
    refine WC.condF rfl (rfl) ?_
    refine WC.skip ?_
    refine WN.thn ?_
    refine WC.seq ?_
    refine WC.seq ?_
    refine WC.reg ?_
    refine WL.v (Runs.assign rfl) rfl ?_
    refine WL.nil ?_
    refine WN.thn ?_
    refine WC.block ?_
    refine WC.loop (σ := Nat) (fun q_ => [(0, .slice A l.length cap), (3, .int .i64 (q_ : Int))]) (fun q_ w => q_ ≤ l.length ∧ (∀ j, j < q_ → okS (l.getD j S0) j l.length) ∧ St W F cs w) (fun q_ => l.length - q_) (0) (by repeat (first | exact trivial | refine ⟨rfl, ?_⟩)) (⟨Nat.zero_le _, fun j hj => absurd hj (Nat.not_lt_zero _), h⟩) ?_
    rintro i w1 ⟨hi, hok, hL⟩
    try dsimp only at hi hok hL
    refine WC.sub (s := [(0, .slice A l.length cap), (3, .int .i64 (i : Int))]) (by repeat (first | exact trivial | refine ⟨rfl, ?_⟩)) ?_
    refine WC.seq ?_
    refine WC.seq ?_
    refine WC.reg ?_
    refine WL.v (Runs.move rfl) rfl ?_
    refine WL.v (Runs.move rfl) rfl ?_
    refine WL.v (Runs.llen Try.underlying22 rfl rfl) rfl ?_
    refine WL.v (Runs.lss rfl rfl) rfl ?_
    refine WL.nil ?_
    refine WN.thn ?_
    refine WC.cond rfl (fun c2 => ?_) (fun c2 => ?_)
    · try simp only [decide_eq_true_eq, decide_eq_false_iff_not, Bool.not_eq_true', Bool.not_eq_false', Bool.and_eq_true, Int.not_lt, Int.not_le] at c2
      first
      | (exfalso; omega)
      | skip
        refine WC.skip ?_
        refine WN.thn ?_
        refine WC.seq ?_
        refine WC.block ?_
        refine WC.seq ?_
        have hi2 : i < l.length := by omega
        obtain ⟨ad, A1, cap1, rfl, hE, hcell⟩ := stepAt hR hi2
        have hf2 := hf i hi2
        refine WC.reg ?_
        refine WL.v (Runs.move rfl) rfl ?_
        refine WL.v (Runs.move rfl) rfl ?_
        refine WL.v (Runs.lidxK Try.underlying22 inf38 rfl rfl (n := i) rfl (by omega)) rfl ?_
        refine WL.v (Runs.stepA (s := (l.getD i S0)) hL hcell Try.underlying38 rfl inf38 rfl) rfl ?_
        refine WL.v (Runs.move rfl) rfl ?_
        refine WL.v (Runs.move rfl) rfl ?_
        refine WL.v (Runs.llen Try.underlying22 rfl rfl) rfl ?_
        refine WL.call can26 rfl rfl (qstep_c _ (l.getD i S0) (i : Int) l.length hL hE hl hf2) ?_
        rintro _ w3 ⟨rfl, h3⟩
        refine ⟨_, rfl, ?_⟩
        refine WL.v (Runs.not rfl) rfl ?_
        refine WL.nil ?_
        refine WN.thn ?_
        refine WC.cond rfl (fun c4 => ?_) (fun c4 => ?_)
        · try simp only [decide_eq_true_eq, decide_eq_false_iff_not, Bool.not_eq_true', Bool.not_eq_false', Bool.and_eq_true, Int.not_lt, Int.not_le] at c4
          first
          | (exfalso; omega)
          | skip
            refine WC.seq ?_
            refine WC.reg ?_
            refine WL.v (Runs.assign rfl) rfl ?_
            refine WL.nil ?_
            refine WN.thn ?_
            refine WC.ret ?_
            refine ret1 rfl rfl ⟨?_, h3⟩
            unfold chkM
            rw [if_neg (by omega), if_pos (fun hh => c4 (hh i hi2))]
        · try simp only [decide_eq_true_eq, decide_eq_false_iff_not, Bool.not_eq_true', Bool.not_eq_false', Bool.and_eq_true, Int.not_lt, Int.not_le] at c4
          first
          | (exfalso; omega)
          | skip
            refine WC.skip ?_
            refine WN.blk ?_
            refine WN.thn ?_
            refine WC.reg ?_
            refine WL.v (Runs.move rfl) rfl ?_
            refine WL.v (Runs.addn rfl rfl (by omega)) rfl ?_
            refine WL.v (Runs.assign rfl) rfl ?_
            refine WL.nil ?_
            exact WN.again (i + 1) (by omega) ⟨rfl, rfl, trivial⟩ ⟨by omega, fun j hj => (by
              by_cases e : j = i
              · subst e; exact c4
              · exact hok j (by omega)), h3⟩
    · try simp only [decide_eq_true_eq, decide_eq_false_iff_not, Bool.not_eq_true', Bool.not_eq_false', Bool.and_eq_true, Int.not_lt, Int.not_le] at c2
      first
      | (exfalso; omega)
      | skip
        refine WC.exit ?_
        refine WX.thn ?_
        refine WX.cut ?_
        refine WX.hit ?_
        refine WN.thn ?_
        refine WC.seq ?_
        refine WC.seq ?_
        have hall : okAll l := fun j hj => hok j (by omega)
        refine WC.reg ?_
        refine WL.v (Runs.move rfl) rfl ?_
        refine WL.call can27 rfl rfl (qorder_c _ hL hR hl hf hall) ?_
        rintro _ w5 ⟨G, A2, cap2, hG, rfl, hc2, hR2, h5⟩
        refine ⟨_, rfl, ?_⟩
        refine WL.v (Runs.intT (n := ((ordM l).length : Int)) (Runs.llen Try.underlying28 rfl rfl) rfl) rfl ?_
        refine WL.v (Runs.move rfl) rfl ?_
        refine WL.v (Runs.llen Try.underlying22 rfl rfl) rfl ?_
        refine WL.v (Runs.lss rfl rfl) rfl ?_
        refine WL.nil ?_
        refine WN.thn ?_
        refine WC.cond rfl (fun c6 => ?_) (fun c6 => ?_)
        · try simp only [decide_eq_true_eq, decide_eq_false_iff_not, Bool.not_eq_true', Bool.not_eq_false', Bool.and_eq_true, Int.not_lt, Int.not_le] at c6
          first
          | (exfalso; omega)
          | skip
            refine WC.seq ?_
            refine WC.reg ?_
            refine WL.v (Runs.assign rfl) rfl ?_
            refine WL.nil ?_
            refine WN.thn ?_
            refine WC.ret ?_
            refine ret1 rfl rfl ⟨?_, h5.weak hG⟩
            unfold chkM
            rw [if_neg (by omega), if_neg (fun hh => hh hall), if_pos (by omega)]
        · try simp only [decide_eq_true_eq, decide_eq_false_iff_not, Bool.not_eq_true', Bool.not_eq_false', Bool.and_eq_true, Int.not_lt, Int.not_le] at c6
          first
          | (exfalso; omega)
          | skip
            refine WC.skip ?_
            refine WN.thn ?_
            refine WC.seq ?_
            refine WC.reg ?_
            refine WL.v (Runs.assign rfl) rfl ?_
            refine WL.nil ?_
            refine WN.thn ?_
            refine WC.ret ?_
            refine ret1 rfl rfl ⟨?_, h5.weak hG⟩
            unfold chkM
            rw [if_neg (by omega), if_neg (fun hh => hh hall), if_neg (by omega)]
theorem chk_ok {l : List S} (h : chkM l = 0) : okAll l ∧ (1 ≤ l.length ∧ l.length ≤ 16) ∧ l.length ≤ (ordM l).length := by
  unfold chkM at h
  split at h
  · cases h
  · split at h
    · cases h
    · rename_i h1 h2
      split at h
      · cases h
      · exact ⟨Classical.byContradiction fun hh => h2 hh, by omega, by omega⟩
set_option maxRecDepth 100000 in
set_option maxHeartbeats 1000000 in
theorem qOrder_c {W : World} {F : Snap} {cs : List Res} (w : World) {A : Option Addr} {cap : Nat} {l : List S} (h : St W F cs w) (hR : RdS KS F A l) (hl : l.length ≤ 100000) (hf : fewE l) : Calls Try.prog 15 #[.slice A l.length cap] w fun r w' => Gives W F cs Vi (odM l) r w'  := by
  refine enter (P := Try.prog) (args := [.slice A l.length cap]) Try.func15 rfl rfl rfl ?_
  refine WC.seq ?_
  refine WC.reg ?_
  refine WL.v (Runs.assign rfl) rfl ?_
  refine WL.nil ?_
  refine WN.thn ?_
  refine WC.seq ?_
  refine WC.seq ?_
  refine WC.reg ?_
  refine WL.v (Runs.move rfl) rfl ?_
  refine WL.call can12 rfl rfl (qcheck_c _ h hR hl hf) ?_
  rintro _ w1 ⟨rfl, h1⟩
  refine ⟨_, rfl, ?_⟩
  refine WL.v (Runs.neq rfl rfl) rfl ?_
  refine WL.nil ?_
  refine WN.thn ?_
  refine WC.cond rfl (fun c2 => ?_) (fun c2 => ?_)
  · try simp only [decide_eq_true_eq, decide_eq_false_iff_not, Bool.not_eq_true', Bool.not_eq_false', Bool.and_eq_true, Int.not_lt, Int.not_le] at c2
    first
    | (exfalso; omega)
    | skip
      refine WC.seq ?_
      refine WC.reg ?_
      refine WL.v (Runs.assign rfl) rfl ?_
      refine WL.nil ?_
      refine WN.thn ?_
      refine WC.ret ?_
      exact ret1 rfl rfl (by unfold odM; rw [if_neg (by simpa using c2)]; exact Row.gives (Row.nil 3 Vi) h1.nilRes)
  · try simp only [decide_eq_true_eq, decide_eq_false_iff_not, Bool.not_eq_true', Bool.not_eq_false', Bool.and_eq_true, Int.not_lt, Int.not_le] at c2
    first
    | (exfalso; omega)
    | skip
      refine WC.skip ?_
      refine WN.thn ?_
      refine WC.seq ?_
      refine WC.reg ?_
      refine WL.v (Runs.move rfl) rfl ?_
      refine WL.call can27 rfl rfl (qorder_c _ h1 hR hl hf (chk_ok (by simpa using c2)).1) ?_
      rintro _ w3 ⟨G, A2, cap2, hG, rfl, hc2, hR2, h3⟩
      refine ⟨_, rfl, ?_⟩
      refine WL.v (Runs.assign rfl) rfl ?_
      refine WL.nil ?_
      refine WN.thn ?_
      refine WC.ret ?_
      exact ret1 rfl rfl (by unfold odM; rw [if_pos (by simpa using c2)]; exact ⟨G, A2, cap2, hG, rfl, hc2, hR2, h3⟩)
def smallL (l : List S) : Prop := l.length ≤ 30 ∧ ∀ i, i < l.length → (l.getD i S0).af.length ≤ 30
instance (l : List S) : Decidable (smallL l) := inferInstanceAs (Decidable (_ ∧ _))
theorem smallL.few {l : List S} (h : smallL l) : fewE l ∧ l.length ≤ 100000 := ⟨fun i hi => by have := h.2 i hi; omega, by have := h.1; omega⟩
set_option maxRecDepth 100000 in
set_option maxHeartbeats 1000000 in
theorem small_c {W : World} {F : Snap} {cs : List Res} (w : World) {A : Option Addr} {cap : Nat} {l : List S} (h : St W F cs w) (hR : RdS KS F A l) (hl : l.length ≤ 9223372036854775807) : Calls Try.prog 9 #[.slice A l.length cap] w fun r w' => r = .returned (.bool (decide (smallL l))) ∧ St W F cs w'  := by
  refine enter (P := Try.prog) (args := [.slice A l.length cap]) Try.func9 rfl rfl rfl ?_
  refine WC.seq ?_
  refine WC.reg ?_
  refine WL.v (Runs.assign rfl) rfl ?_
  refine WL.nil ?_
  refine WN.thn ?_
  refine WC.seq ?_
  refine WC.seq ?_
  refine WC.reg ?_
  refine WL.v (Runs.assign rfl) rfl ?_
  refine WL.nil ?_
  refine WN.thn ?_
  refine WC.block ?_
  refine WC.loop (σ := Nat) (fun q_ => [(0, .slice A l.length cap), (3, .int .i64 (q_ : Int))]) (fun q_ w => q_ ≤ l.length ∧ (∀ j, j < q_ → (l.getD j S0).af.length ≤ 30) ∧ St W F cs w) (fun q_ => l.length - q_) (0) (by repeat (first | exact trivial | refine ⟨rfl, ?_⟩)) (⟨Nat.zero_le _, fun j hj => absurd hj (Nat.not_lt_zero _), h⟩) ?_
  rintro i w1 ⟨hi, hok, hL⟩
  try dsimp only at hi hok hL
  refine WC.sub (s := [(0, .slice A l.length cap), (3, .int .i64 (i : Int))]) (by repeat (first | exact trivial | refine ⟨rfl, ?_⟩)) ?_
  refine WC.seq ?_
  refine WC.seq ?_
  refine WC.reg ?_
  refine WL.v (Runs.move rfl) rfl ?_
  refine WL.v (Runs.move rfl) rfl ?_
  refine WL.v (Runs.llen Try.underlying22 rfl rfl) rfl ?_
  refine WL.v (Runs.lss rfl rfl) rfl ?_
  refine WL.nil ?_
  refine WN.thn ?_
  refine WC.cond rfl (fun c2 => ?_) (fun c2 => ?_)
  · try simp only [decide_eq_true_eq, decide_eq_false_iff_not, Bool.not_eq_true', Bool.not_eq_false', Bool.and_eq_true, Int.not_lt, Int.not_le] at c2
    first
    | (exfalso; omega)
    | skip
      refine WC.skip ?_
      refine WN.thn ?_
      refine WC.seq ?_
      refine WC.block ?_
      refine WC.seq ?_
      have hi2 : i < l.length := by omega
      obtain ⟨ad, A1, cap1, rfl, hE, hcell⟩ := stepAt hR hi2
      refine WC.reg ?_
      refine WL.v (Runs.move rfl) rfl ?_
      refine WL.v (Runs.move rfl) rfl ?_
      refine WL.v (Runs.lidxK Try.underlying22 inf38 rfl rfl (n := i) rfl (by omega)) rfl ?_
      refine WL.v (Runs.fld fld38_4 rfl) rfl ?_
      refine WL.v (Runs.load1 Try.underlying36 rfl rfl (by rw [add_add]; exact hL.cell (hcell 4 _ rfl))) rfl ?_
      refine WL.v (Runs.intT (n := ((l.getD i S0).af.length : Int)) (Runs.llen Try.underlying36 rfl rfl) rfl) rfl ?_
      refine WL.v (Runs.gtr rfl rfl) rfl ?_
      refine WL.nil ?_
      refine WN.thn ?_
      refine WC.cond rfl (fun c3 => ?_) (fun c3 => ?_)
      · try simp only [decide_eq_true_eq, decide_eq_false_iff_not, Bool.not_eq_true', Bool.not_eq_false', Bool.and_eq_true, Int.not_lt, Int.not_le] at c3
        first
        | (exfalso; omega)
        | skip
          refine WC.seq ?_
          refine WC.reg ?_
          refine WL.v (Runs.assign rfl) rfl ?_
          refine WL.nil ?_
          refine WN.thn ?_
          refine WC.ret ?_
          have hz : ¬ smallL l := fun hh => by have := hh.2 i hi2; omega
          refine ret1 rfl rfl ⟨?_, hL⟩
          rw [decide_eq_false hz]
      · try simp only [decide_eq_true_eq, decide_eq_false_iff_not, Bool.not_eq_true', Bool.not_eq_false', Bool.and_eq_true, Int.not_lt, Int.not_le] at c3
        first
        | (exfalso; omega)
        | skip
          refine WC.skip ?_
          refine WN.blk ?_
          refine WN.thn ?_
          refine WC.reg ?_
          refine WL.v (Runs.move rfl) rfl ?_
          refine WL.v (Runs.addn rfl rfl (by omega)) rfl ?_
          refine WL.v (Runs.assign rfl) rfl ?_
          refine WL.nil ?_
          exact WN.again (i + 1) (by omega) ⟨rfl, rfl, trivial⟩ ⟨by omega, fun j hj => (by
            by_cases e : j = i
            · subst e; omega
            · exact hok j (by omega)), hL⟩
  · try simp only [decide_eq_true_eq, decide_eq_false_iff_not, Bool.not_eq_true', Bool.not_eq_false', Bool.and_eq_true, Int.not_lt, Int.not_le] at c2
    first
    | (exfalso; omega)
    | skip
      refine WC.exit ?_
      refine WX.thn ?_
      refine WX.cut ?_
      refine WX.hit ?_
      refine WN.thn ?_
      refine WC.seq ?_
      refine WC.reg ?_
      refine WL.v (Runs.move rfl) rfl ?_
      refine WL.v (Runs.llen Try.underlying22 rfl rfl) rfl ?_
      refine WL.v (Runs.leq rfl rfl) rfl ?_
      refine WL.v (Runs.assign rfl) rfl ?_
      refine WL.nil ?_
      refine WN.thn ?_
      refine WC.ret ?_
      have he : decide (smallL l) = decide ((l.length : Int) ≤ 30) := decide_eq_decide.2 ⟨fun hh => by have := hh.1; omega, fun hh => ⟨by omega, fun j hj => hok j (by omega)⟩⟩
      refine ret1 rfl rfl ⟨?_, hL⟩
      rw [he]
set_option maxRecDepth 100000 in
set_option maxHeartbeats 1000000 in
theorem same_c {W : World} {F : Snap} {cs : List Res} (w : World) {A B : Option Addr} {cap cap2 : Nat} {xs : List Int} (h : St W F cs w) (hA : RdS (Kd.one Vi) F A xs) (hB : RdS (Kd.one Vi) F B xs) (hn : xs.length ≤ 100000) : Calls Try.prog 13 #[.slice A xs.length cap, .slice B xs.length cap2] w fun e w' => e = .returned (.bool true) ∧ St W F cs w'  := by
  refine enter (P := Try.prog) (args := [.slice A xs.length cap, .slice B xs.length cap2]) Try.func13 rfl rfl rfl ?_
  refine WC.seq ?_
  refine WC.reg ?_
  refine WL.v (Runs.assign rfl) rfl ?_
  refine WL.nil ?_
  refine WN.thn ?_
  refine WC.seq ?_
  refine WC.seq ?_
  refine WC.reg ?_
  refine WL.v (Runs.move rfl) rfl ?_
  refine WL.v (Runs.llen Try.underlying28 rfl rfl) rfl ?_
  refine WL.v (Runs.move rfl) rfl ?_
  refine WL.v (Runs.llen Try.underlying28 rfl rfl) rfl ?_
  refine WL.v (Runs.boolT (c := false) (Runs.neq rfl rfl) (by simp)) rfl ?_
  refine WL.nil ?_
  refine WN.thn ?_
  refine WC.condF rfl (rfl) ?_
  refine WC.skip ?_
  refine WN.thn ?_
  refine WC.seq ?_
  refine WC.seq ?_
  refine WC.reg ?_
  refine WL.v (Runs.assign rfl) rfl ?_
  refine WL.nil ?_
  refine WN.thn ?_
  refine WC.block ?_
  refine WC.loop (σ := Nat) (fun q_ => [(0, .slice A xs.length cap), (1, .slice B xs.length cap2), (5, .int .i64 (q_ : Int))]) (fun q_ w => q_ ≤ xs.length ∧ St W F cs w) (fun q_ => xs.length - q_) (0) (by repeat (first | exact trivial | refine ⟨rfl, ?_⟩)) (⟨by omega, h⟩) ?_
  rintro i w1 ⟨hi, hL⟩
  try dsimp only at hi hL
  refine WC.sub (s := [(0, .slice A xs.length cap), (1, .slice B xs.length cap2), (5, .int .i64 (i : Int))]) (by repeat (first | exact trivial | refine ⟨rfl, ?_⟩)) ?_
  refine WC.seq ?_
  refine WC.seq ?_
  refine WC.reg ?_
  refine WL.v (Runs.move rfl) rfl ?_
  refine WL.v (Runs.move rfl) rfl ?_
  refine WL.v (Runs.llen Try.underlying28 rfl rfl) rfl ?_
  refine WL.v (Runs.lss rfl rfl) rfl ?_
  refine WL.nil ?_
  refine WN.thn ?_
  refine WC.cond rfl (fun c2 => ?_) (fun c2 => ?_)
  · try simp only [decide_eq_true_eq, decide_eq_false_iff_not, Bool.not_eq_true', Bool.not_eq_false', Bool.and_eq_true, Int.not_lt, Int.not_le] at c2
    first
    | (exfalso; omega)
    | skip
      refine WC.skip ?_
      refine WN.thn ?_
      refine WC.seq ?_
      refine WC.block ?_
      refine WC.seq ?_
      obtain ⟨a1, rfl, hra⟩ := rd1 hA (by omega)
      obtain ⟨b1, rfl, hrb⟩ := rd1 hB (by omega)
      refine WC.qreg (C := fun w_ => St W F _ w_) mixed (by kernel_rfl) (hL.drew) ?_
      refine WQ.val (fun w_ hC_ => Runs.move rfl) rfl ?_
      refine WQ.val (fun w_ hC_ => Runs.move rfl) rfl ?_
      refine WQ.val (fun w_ hC_ => Runs.lidxN Try.underlying28 inf3 rfl rfl (n := i) rfl (by omega)) rfl ?_
      refine WQ.val (fun w_ hC_ => Runs.loadR (f := Vi) (0 : Int) hC_ hra (n := i) (by omega) Try.underlying3 rfl rfl) rfl ?_
      refine WQ.val (fun w_ hC_ => Runs.move rfl) rfl ?_
      refine WQ.val (fun w_ hC_ => Runs.move rfl) rfl ?_
      refine WQ.val (fun w_ hC_ => Runs.lidxN Try.underlying28 inf3 rfl rfl (n := i) rfl (by omega)) rfl ?_
      refine WQ.val (fun w_ hC_ => Runs.loadR (f := Vi) (0 : Int) hC_ hrb (n := i) (by omega) Try.underlying3 rfl rfl) rfl ?_
      refine WQ.val (fun w_ hC_ => Runs.boolT (c := false) (Runs.neq rfl rfl) (by simp)) rfl ?_
      refine WQ.fin ?_
      intro w3 h3
      refine WN.thn ?_
      refine WC.condF rfl (rfl) ?_
      refine WC.skip ?_
      refine WN.blk ?_
      refine WN.thn ?_
      refine WC.reg ?_
      refine WL.v (Runs.move rfl) rfl ?_
      refine WL.v (Runs.addn rfl rfl (by omega)) rfl ?_
      refine WL.v (Runs.assign rfl) rfl ?_
      refine WL.nil ?_
      exact WN.again (i + 1) (by omega) ⟨rfl, rfl, rfl, trivial⟩ ⟨by omega, h3⟩
  · try simp only [decide_eq_true_eq, decide_eq_false_iff_not, Bool.not_eq_true', Bool.not_eq_false', Bool.and_eq_true, Int.not_lt, Int.not_le] at c2
    first
    | (exfalso; omega)
    | skip
      refine WC.exit ?_
      refine WX.thn ?_
      refine WX.cut ?_
      refine WX.hit ?_
      refine WN.thn ?_
      refine WC.seq ?_
      refine WC.reg ?_
      refine WL.v (Runs.assign rfl) rfl ?_
      refine WL.nil ?_
      refine WN.thn ?_
      refine WC.ret ?_
      exact ret1 rfl rfl ⟨rfl, hL⟩
set_option maxRecDepth 100000 in
set_option maxHeartbeats 1000000 in
theorem lin_c {W : World} {F : Snap} {cs : List Res} (w : World) {A : Option Addr} {cap : Nat} {xs : List Int} (x : Int) (h : St W F cs w) (hR : RdW W F cs Vi A xs) (hn : xs.length ≤ 100000) : Calls Try.prog 22 #[.slice A xs.length cap, Vi x] w fun r w' => r = .returned (.bool (decide (x ∈ xs))) ∧ St W F cs w'  := by
  refine enter (P := Try.prog) (args := [.slice A xs.length cap, Vi x]) Try.func22 rfl rfl rfl ?_
  refine WC.seq ?_
  refine WC.reg ?_
  refine WL.v (Runs.assign rfl) rfl ?_
  refine WL.nil ?_
  refine WN.thn ?_
  refine WC.seq ?_
  refine WC.seq ?_
  refine WC.reg ?_
  refine WL.v (Runs.assign rfl) rfl ?_
  refine WL.nil ?_
  refine WN.thn ?_
  refine WC.block ?_
  refine WC.loop (σ := Nat) (fun q_ => [(0, .slice A xs.length cap), (1, Vi x), (5, .int .i64 (q_ : Int))]) (fun q_ w => q_ ≤ xs.length ∧ (∀ j, j < q_ → xs.getD j 0 ≠ x) ∧ St W F cs w) (fun q_ => xs.length - q_) (0) (by repeat (first | exact trivial | refine ⟨rfl, ?_⟩)) (⟨Nat.zero_le _, fun j hj => absurd hj (Nat.not_lt_zero _), h⟩) ?_
  rintro i w1 ⟨hi, hno, hL⟩
  try dsimp only at hi hno hL
  refine WC.sub (s := [(0, .slice A xs.length cap), (1, Vi x), (5, .int .i64 (i : Int))]) (by repeat (first | exact trivial | refine ⟨rfl, ?_⟩)) ?_
  refine WC.seq ?_
  refine WC.seq ?_
  refine WC.reg ?_
  refine WL.v (Runs.move rfl) rfl ?_
  refine WL.v (Runs.move rfl) rfl ?_
  refine WL.v (Runs.llen Try.underlying28 rfl rfl) rfl ?_
  refine WL.v (Runs.lss rfl rfl) rfl ?_
  refine WL.nil ?_
  refine WN.thn ?_
  refine WC.cond rfl (fun c2 => ?_) (fun c2 => ?_)
  · try simp only [decide_eq_true_eq, decide_eq_false_iff_not, Bool.not_eq_true', Bool.not_eq_false', Bool.and_eq_true, Int.not_lt, Int.not_le] at c2
    first
    | (exfalso; omega)
    | skip
      refine WC.skip ?_
      refine WN.thn ?_
      refine WC.seq ?_
      refine WC.block ?_
      refine WC.seq ?_
      obtain ⟨ad, rfl, hrd⟩ := hR.at1 (by omega)
      refine WC.reg ?_
      refine WL.v (Runs.move rfl) rfl ?_
      refine WL.v (Runs.move rfl) rfl ?_
      refine WL.v (Runs.lidxN Try.underlying28 inf3 rfl rfl (n := i) rfl (by omega)) rfl ?_
      refine WL.v (Runs.load1 Try.underlying3 rfl rfl (hrd _ hL i 0 (by omega))) rfl ?_
      refine WL.v (Runs.move rfl) rfl ?_
      refine WL.v (Runs.eql rfl rfl) rfl ?_
      refine WL.nil ?_
      refine WN.thn ?_
      refine WC.cond rfl (fun c3 => ?_) (fun c3 => ?_)
      · try simp only [decide_eq_true_eq, decide_eq_false_iff_not, Bool.not_eq_true', Bool.not_eq_false', Bool.and_eq_true, Int.not_lt, Int.not_le] at c3
        first
        | (exfalso; omega)
        | skip
          refine WC.seq ?_
          refine WC.reg ?_
          refine WL.v (Runs.assign rfl) rfl ?_
          refine WL.nil ?_
          refine WN.thn ?_
          refine WC.ret ?_
          have hm : x ∈ xs := by rw [← c3]; exact mem_getD (by omega)
          refine ret1 rfl rfl ⟨?_, hL⟩
          rw [decide_eq_true hm]
      · try simp only [decide_eq_true_eq, decide_eq_false_iff_not, Bool.not_eq_true', Bool.not_eq_false', Bool.and_eq_true, Int.not_lt, Int.not_le] at c3
        first
        | (exfalso; omega)
        | skip
          refine WC.skip ?_
          refine WN.blk ?_
          refine WN.thn ?_
          refine WC.reg ?_
          refine WL.v (Runs.move rfl) rfl ?_
          refine WL.v (Runs.addn rfl rfl (by omega)) rfl ?_
          refine WL.v (Runs.assign rfl) rfl ?_
          refine WL.nil ?_
          exact WN.again (i + 1) (by omega) ⟨rfl, rfl, rfl, trivial⟩ ⟨by omega, fun j hj => (by
            by_cases e : j = i
            · subst e; exact c3
            · exact hno j (by omega)), hL⟩
  · try simp only [decide_eq_true_eq, decide_eq_false_iff_not, Bool.not_eq_true', Bool.not_eq_false', Bool.and_eq_true, Int.not_lt, Int.not_le] at c2
    first
    | (exfalso; omega)
    | skip
      refine WC.exit ?_
      refine WX.thn ?_
      refine WX.cut ?_
      refine WX.hit ?_
      refine WN.thn ?_
      refine WC.seq ?_
      refine WC.reg ?_
      refine WL.v (Runs.assign rfl) rfl ?_
      refine WL.nil ?_
      refine WN.thn ?_
      refine WC.ret ?_
      have hm : x ∉ xs := fun hm => by
        obtain ⟨j, hj, rfl⟩ := List.getElem_of_mem hm
        refine hno j (by omega) ?_
        rw [List.getD_eq_getElem?_getD, List.getElem?_eq_getElem hj]; rfl
      refine ret1 rfl rfl ⟨?_, hL⟩
      rw [decide_eq_false hm]
end Dg
end Go.Proofs.Ytkfkdenikkadhaa
