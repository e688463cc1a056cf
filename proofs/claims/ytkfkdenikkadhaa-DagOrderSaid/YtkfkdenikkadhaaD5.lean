/- Walks of package dag: whether steps may be, and their order. -/
import Derived.Test.YtkfkdenikkadhaaD4
namespace Go.Proofs.Ytkfkdenikkadhaa
open Go Go.RowKit B
set_option linter.unusedVariables false
set_option linter.unusedSimpArgs false
namespace Dg

theorem can11 : B.Can Try.prog 11 := ⟨_, Try.func11, by kernel_rfl, rfl⟩   -- roundhouse/dag.Check
theorem can24 : B.Can Try.prog 24 := ⟨_, Try.func24, by kernel_rfl, rfl⟩   -- roundhouse/dag.step
theorem can25 : B.Can Try.prog 25 := ⟨_, Try.func25, by kernel_rfl, rfl⟩   -- roundhouse/dag.order
def okAll (l : List S) : Prop := ∀ i, i < l.length → okS (l.getD i S0) i l.length
instance (l : List S) : Decidable (okAll l) := inferInstanceAs (Decidable (∀ i, i < l.length → okS (l.getD i S0) i l.length))
def chkM (l : List S) : Int := if l.length < 1 ∨ 16 < l.length then 1 else if ¬ okAll l then 1 else if (ordM l).length < l.length then 15 else 0
theorem inB_t {n a b : Int} (h : a ≤ n ∧ n ≤ b) : inB n a b = true := decide_eq_true h
theorem inB_f {n a b : Int} (h : ¬ (a ≤ n ∧ n ≤ b)) : inB n a b = false := decide_eq_false h
set_option maxRecDepth 100000 in
set_option maxHeartbeats 4000000 in
theorem check_c {W : World} {F : Snap} {cs : List Res} (w : World) {A : Option Addr} {cap : Nat} {l : List S} (h : St W F cs w) (hR : RdS KS F A l) (hl : l.length ≤ 100000) (hf : fewE l) : Calls Try.prog 11 #[.slice A l.length cap] w fun r w' => r = .returned (Vi (chkM l)) ∧ St W F cs w'  := by
  refine enter (P := Try.prog) (args := [.slice A l.length cap]) Try.func11 rfl rfl rfl ?_
  refine WC.seq ?_
  refine WC.reg ?_
  refine WL.v (Runs.assign rfl) rfl ?_
  refine WL.nil ?_
  refine WN.thn ?_
  refine WC.seq ?_
  refine WC.seq ?_
  have hcase : (l.length < 1 ∨ 16 < l.length) ∨ (1 ≤ (l.length : Int) ∧ (l.length : Int) ≤ 16) := by omega
  rcases hcase with hb | hb
  · skip
    refine WC.reg ?_
    refine WL.v (Runs.move rfl) rfl ?_
    refine WL.v (Runs.intT (n := (l.length : Int)) (Runs.llen Try.underlying22 rfl rfl) rfl) rfl ?_
    refine WL.call can23 rfl rfl (in_c _ (l.length : Int) 1 16 h) ?_
    rintro _ w1 ⟨rfl, h1⟩
    refine ⟨_, rfl, ?_⟩
    refine WL.v (Runs.boolT (c := true) (Runs.not rfl) (by rw [inB_f (by omega)]; rfl)) rfl ?_
    refine WL.nil ?_
    refine WN.thn ?_
    refine WC.condT rfl (rfl) ?_
    refine WC.seq ?_
    refine WC.reg ?_
    refine WL.v (Runs.assign rfl) rfl ?_
    refine WL.nil ?_
    refine WN.thn ?_
    refine WC.ret ?_
    refine ret1 rfl rfl ⟨?_, h1⟩
    unfold chkM
    rw [if_pos hb]
  · skip
    refine WC.reg ?_
    refine WL.v (Runs.move rfl) rfl ?_
    refine WL.v (Runs.intT (n := (l.length : Int)) (Runs.llen Try.underlying22 rfl rfl) rfl) rfl ?_
    refine WL.call can23 rfl rfl (in_c _ (l.length : Int) 1 16 h) ?_
    rintro _ w2 ⟨rfl, h2⟩
    refine ⟨_, rfl, ?_⟩
    refine WL.v (Runs.boolT (c := false) (Runs.not rfl) (by rw [inB_t hb]; rfl)) rfl ?_
    refine WL.nil ?_
    refine WN.thn ?_
    refine WC.condF rfl (rfl) ?_
    refine WC.skip ?_
    refine WN.thn ?_
    refine WC.seq ?_
    refine WC.seq ?_
    refine WC.reg ?_
    refine WL.v (Runs.move rfl) rfl ?_
    refine WL.v (Runs.llen Try.underlying22 rfl rfl) rfl ?_
    refine WL.v (Runs.move rfl) rfl ?_
    refine WL.nil ?_
    refine WN.thn ?_
    refine WC.block ?_
    refine WC.loop (σ := Nat) (fun q_ => [(0, .slice A l.length cap), (9, .slice A l.length cap), (10, .int .i64 (l.length : Int)), (11, .int .i64 (q_ : Int))]) (fun q_ w => q_ ≤ l.length ∧ (∀ j, j < q_ → okS (l.getD j S0) j l.length) ∧ St W F cs w) (fun q_ => l.length - q_) (0) (by repeat (first | exact trivial | refine ⟨rfl, ?_⟩)) (⟨Nat.zero_le _, fun j hj => absurd hj (Nat.not_lt_zero _), h2⟩) ?_
    rintro i w3 ⟨hi, hok, hL⟩
    try dsimp only at hi hok hL
    refine WC.sub (s := [(0, .slice A l.length cap), (9, .slice A l.length cap), (10, .int .i64 (l.length : Int)), (11, .int .i64 (i : Int))]) (by repeat (first | exact trivial | refine ⟨rfl, ?_⟩)) ?_
    refine WC.seq ?_
    refine WC.reg ?_
    refine WL.v (Runs.lss rfl rfl) rfl ?_
    refine WL.nil ?_
    refine WN.thn ?_
    refine WC.seq ?_
    refine WC.cond rfl (fun c4 => ?_) (fun c4 => ?_)
    · try simp only [decide_eq_true_eq, decide_eq_false_iff_not, Bool.not_eq_true', Bool.not_eq_false', Bool.and_eq_true, Int.not_lt, Int.not_le] at c4
      first
      | (exfalso; omega)
      | skip
        refine WC.skip ?_
        refine WN.thn ?_
        refine WC.seq ?_
        refine WC.block ?_
        refine WC.seq ?_
        have hi2 : i < l.length := by omega
        obtain ⟨ad, A1, cap1, rfl, hE, hcell⟩ := stepAt hR hi2
        have hf2 := hf i hi2
        refine WC.reg ?_
        refine WL.v (Runs.move rfl) rfl ?_
        refine WL.v (Runs.lidxK Try.underlying22 inf38 rfl rfl (n := i) rfl (by omega)) rfl ?_
        refine WL.v (Runs.stepA (s := (l.getD i S0)) hL hcell Try.underlying38 rfl inf38 rfl) rfl ?_
        refine WL.alloc' rfl hL inf38 ?_
        intro b4 w5 h5
        refine WL.v (Runs.assign rfl) rfl ?_
        refine WL.storeAll h5 0 rfl rfl rfl inf38 rfl rfl rfl (Free.zero _) ?_
        intro  w6 h6
        try simp only [List.set_cons_zero, List.set_cons_succ, List.eraseIdx_cons_zero, List.eraseIdx_cons_succ] at h6
        refine WL.nil ?_
        refine WN.thn ?_
        refine WC.seq ?_
        refine WC.reg ?_
        refine WL.v (Runs.loadAll h6 0 rfl Try.underlying38 rfl inf38 rfl rfl) rfl ?_
        refine WL.v (Runs.move rfl) rfl ?_
        refine WL.v (Runs.move rfl) rfl ?_
        refine WL.v (Runs.llen Try.underlying22 rfl rfl) rfl ?_
        refine WL.call can24 rfl rfl (step_c _ (l.getD i S0) (i : Int) l.length h6 hE hl hf2) ?_
        rintro _ w7 ⟨rfl, h7⟩
        refine ⟨_, rfl, ?_⟩
        refine WL.v (Runs.not rfl) rfl ?_
        refine WL.nil ?_
        refine WN.thn ?_
        refine WC.cond rfl (fun c8 => ?_) (fun c8 => ?_)
        · try simp only [decide_eq_true_eq, decide_eq_false_iff_not, Bool.not_eq_true', Bool.not_eq_false', Bool.and_eq_true, Int.not_lt, Int.not_le] at c8
          first
          | (exfalso; omega)
          | skip
            refine WC.seq ?_
            refine WC.reg ?_
            refine WL.v (Runs.assign rfl) rfl ?_
            refine WL.nil ?_
            refine WN.thn ?_
            refine WC.ret ?_
            refine ret1 rfl rfl ⟨?_, h7.drop 0⟩
            unfold chkM
            rw [if_neg (by omega), if_pos (fun hh => c8 (hh i hi2))]
        · try simp only [decide_eq_true_eq, decide_eq_false_iff_not, Bool.not_eq_true', Bool.not_eq_false', Bool.and_eq_true, Int.not_lt, Int.not_le] at c8
          first
          | (exfalso; omega)
          | skip
            refine WC.skip ?_
            refine WN.blk ?_
            refine WN.thn ?_
            refine WC.reg ?_
            refine WL.v (Runs.addn rfl rfl (by omega)) rfl ?_
            refine WL.v (Runs.move rfl) rfl ?_
            refine WL.nil ?_
            exact WN.again (i + 1) (by omega) ⟨rfl, rfl, rfl, rfl, trivial⟩ ⟨by omega, fun j hj => (by
              by_cases e : j = i
              · subst e; exact c8
              · exact hok j (by omega)), h7.drop 0⟩
    · try simp only [decide_eq_true_eq, decide_eq_false_iff_not, Bool.not_eq_true', Bool.not_eq_false', Bool.and_eq_true, Int.not_lt, Int.not_le] at c4
      first
      | (exfalso; omega)
      | skip
        refine WC.exit ?_
        refine WX.thn ?_
        refine WX.cut ?_
        refine WX.hit ?_
        refine WN.thn ?_
        refine WC.seq ?_
        refine WC.seq ?_
        refine WC.reg ?_
        refine WL.v (Runs.move rfl) rfl ?_
        refine WL.call can25 rfl rfl (order_c _ hL hR hl hf) ?_
        rintro _ w9 ⟨G, A2, cap2, hG, rfl, hc2, hR2, h9⟩
        refine ⟨_, rfl, ?_⟩
        refine WL.v (Runs.intT (n := ((ordM l).length : Int)) (Runs.llen Try.underlying28 rfl rfl) rfl) rfl ?_
        refine WL.v (Runs.move rfl) rfl ?_
        refine WL.v (Runs.llen Try.underlying22 rfl rfl) rfl ?_
        refine WL.v (Runs.lss rfl rfl) rfl ?_
        refine WL.nil ?_
        refine WN.thn ?_
        refine WC.cond rfl (fun c10 => ?_) (fun c10 => ?_)
        · try simp only [decide_eq_true_eq, decide_eq_false_iff_not, Bool.not_eq_true', Bool.not_eq_false', Bool.and_eq_true, Int.not_lt, Int.not_le] at c10
          first
          | (exfalso; omega)
          | skip
            refine WC.seq ?_
            refine WC.reg ?_
            refine WL.v (Runs.assign rfl) rfl ?_
            refine WL.nil ?_
            refine WN.thn ?_
            refine WC.ret ?_
            have hall : okAll l := fun j hj => hok j (by omega)
            refine ret1 rfl rfl ⟨?_, h9.weak hG⟩
            unfold chkM
            rw [if_neg (by omega), if_neg (fun hh => hh hall), if_pos (by omega)]
        · try simp only [decide_eq_true_eq, decide_eq_false_iff_not, Bool.not_eq_true', Bool.not_eq_false', Bool.and_eq_true, Int.not_lt, Int.not_le] at c10
          first
          | (exfalso; omega)
          | skip
            refine WC.skip ?_
            refine WN.thn ?_
            refine WC.seq ?_
            refine WC.reg ?_
            refine WL.v (Runs.assign rfl) rfl ?_
            refine WL.nil ?_
            refine WN.thn ?_
            refine WC.ret ?_
            have hall : okAll l := fun j hj => hok j (by omega)
            refine ret1 rfl rfl ⟨?_, h9.weak hG⟩
            unfold chkM
            rw [if_neg (by omega), if_neg (fun hh => hh hall), if_neg (by omega)]
def odM (l : List S) : List Int := if chkM l = 0 then ordM l else []
set_option maxRecDepth 100000 in
set_option maxHeartbeats 1000000 in
theorem Order_c {W : World} {F : Snap} {cs : List Res} (w : World) {A : Option Addr} {cap : Nat} {l : List S} (h : St W F cs w) (hR : RdS KS F A l) (hl : l.length ≤ 100000) (hf : fewE l) : Calls Try.prog 14 #[.slice A l.length cap] w fun r w' => Gives W F cs Vi (odM l) r w'  := by
  refine enter (P := Try.prog) (args := [.slice A l.length cap]) Try.func14 rfl rfl rfl ?_
  refine WC.seq ?_
  refine WC.reg ?_
  refine WL.v (Runs.assign rfl) rfl ?_
  refine WL.nil ?_
  refine WN.thn ?_
  refine WC.seq ?_
  refine WC.seq ?_
  refine WC.reg ?_
  refine WL.v (Runs.move rfl) rfl ?_
  refine WL.call can11 rfl rfl (check_c _ h hR hl hf) ?_
  rintro _ w1 ⟨rfl, h1⟩
  refine ⟨_, rfl, ?_⟩
  refine WL.v (Runs.neq rfl rfl) rfl ?_
  refine WL.nil ?_
  refine WN.thn ?_
  refine WC.cond rfl (fun c2 => ?_) (fun c2 => ?_)
  · try simp only [decide_eq_true_eq, decide_eq_false_iff_not, Bool.not_eq_true', Bool.not_eq_false', Bool.and_eq_true, Int.not_lt, Int.not_le] at c2
    first
    | (exfalso; omega)
    | skip
      refine WC.seq ?_
      refine WC.reg ?_
      refine WL.v (Runs.assign rfl) rfl ?_
      refine WL.nil ?_
      refine WN.thn ?_
      refine WC.ret ?_
      exact ret1 rfl rfl (by unfold odM; rw [if_neg (by simpa using c2)]; exact Row.gives (Row.nil 3 Vi) h1.nilRes)
  · try simp only [decide_eq_true_eq, decide_eq_false_iff_not, Bool.not_eq_true', Bool.not_eq_false', Bool.and_eq_true, Int.not_lt, Int.not_le] at c2
    first
    | (exfalso; omega)
    | skip
      refine WC.skip ?_
      refine WN.thn ?_
      refine WC.seq ?_
      refine WC.reg ?_
      refine WL.v (Runs.move rfl) rfl ?_
      refine WL.call can25 rfl rfl (order_c _ h1 hR hl hf) ?_
      rintro _ w3 ⟨G, A2, cap2, hG, rfl, hc2, hR2, h3⟩
      refine ⟨_, rfl, ?_⟩
      refine WL.v (Runs.assign rfl) rfl ?_
      refine WL.nil ?_
      refine WN.thn ?_
      refine WC.ret ?_
      exact ret1 rfl rfl (by unfold odM; rw [if_pos (by simpa using c2)]; exact ⟨G, A2, cap2, hG, rfl, hc2, hR2, h3⟩)
end Dg
end Go.Proofs.Ytkfkdenikkadhaa
