/- Walks of package dag: what is wrong with steps and codes. -/
import Derived.Test.YtkfkdenikkadhaaD9
namespace Go.Proofs.Ytkfkdenikkadhaa
open Go Go.RowKit B
set_option linter.unusedVariables false
set_option linter.unusedSimpArgs false
namespace Dg

theorem can37 : B.Can Try.prog 37 := ⟨_, Try.func37, by kernel_rfl, rfl⟩   -- slices.ContainsFunc[[]int,int]
theorem can38 : B.Can Try.prog 38 := ⟨_, Try.func38, by kernel_rfl, rfl⟩   -- roundhouse/dag.with$1
set_option maxRecDepth 100000 in
set_option maxHeartbeats 1000000 in
theorem with_c {W : World} {F : Snap} {cs : List Res} (w : World) {A : Option Addr} {cap : Nat} {l : List S} {A2 : Option Addr} {cap2 : Nat} {codes : List Int} (h : St W F cs w) (hR : RdS KS F A l) (hl : l.length ≤ 100000) (hf : fewE l) (hRc : RdS (Kd.one Vi) F A2 codes) (hc : codes.length ≤ 100000) : Calls Try.prog 28 #[.slice A l.length cap, .slice A2 codes.length cap2] w fun r w' => r = .returned (Vi (withM l codes)) ∧ St W F cs w'  := by
  refine enter (P := Try.prog) (args := [.slice A l.length cap, .slice A2 codes.length cap2]) Try.func28 rfl rfl rfl ?_
  refine WC.seq ?_
  refine WC.reg ?_
  refine WL.v (Runs.assign rfl) rfl ?_
  refine WL.nil ?_
  refine WN.thn ?_
  refine WC.seq ?_
  refine WC.seq ?_
  refine WC.reg ?_
  refine WL.v (Runs.move rfl) rfl ?_
  refine WL.call can11 rfl rfl (check_c _ h hR hl hf) ?_
  rintro _ w1 ⟨rfl, h1⟩
  refine ⟨_, rfl, ?_⟩
  refine WL.v (Runs.assign rfl) rfl ?_
  refine WL.nil ?_
  refine WN.thn ?_
  refine WC.seq ?_
  refine WC.reg ?_
  refine WL.v (Runs.move rfl) rfl ?_
  refine WL.v (Runs.neq rfl rfl) rfl ?_
  refine WL.nil ?_
  refine WN.thn ?_
  refine WC.cond rfl (fun c2 => ?_) (fun c2 => ?_)
  · try simp only [decide_eq_true_eq, decide_eq_false_iff_not, Bool.not_eq_true', Bool.not_eq_false', Bool.and_eq_true, Int.not_lt, Int.not_le] at c2
    first
    | (exfalso; omega)
    | skip
      refine WC.seq ?_
      refine WC.reg ?_
      refine WL.v (Runs.move rfl) rfl ?_
      refine WL.v (Runs.assign rfl) rfl ?_
      refine WL.nil ?_
      refine WN.thn ?_
      refine WC.ret ?_
      refine ret1 rfl rfl ⟨?_, h1⟩
      unfold withM
      rw [if_pos (by simpa using c2)]
  · try simp only [decide_eq_true_eq, decide_eq_false_iff_not, Bool.not_eq_true', Bool.not_eq_false', Bool.and_eq_true, Int.not_lt, Int.not_le] at c2
    first
    | (exfalso; omega)
    | skip
      refine WC.skip ?_
      refine WN.thn ?_
      refine WC.seq ?_
      refine WC.seq ?_
      have hcase : codes.length ≠ l.length ∨ codes.length = l.length := by omega
      rcases hcase with hx | hx
      · skip
        refine WC.reg ?_
        refine WL.v (Runs.move rfl) rfl ?_
        refine WL.v (Runs.intT (n := (codes.length : Int)) (Runs.llen Try.underlying28 rfl rfl) rfl) rfl ?_
        refine WL.v (Runs.move rfl) rfl ?_
        refine WL.v (Runs.intT (n := (l.length : Int)) (Runs.llen Try.underlying22 rfl rfl) rfl) rfl ?_
        refine WL.v (Runs.boolT (c := true) (Runs.neq rfl rfl) (by simp; omega)) rfl ?_
        refine WL.v (Runs.move rfl) rfl ?_
        refine WL.goff rfl rfl rfl rfl ?_
        refine WL.goff rfl rfl rfl rfl ?_
        refine WL.v (Runs.pick rfl rfl rfl) rfl ?_
        refine WL.nil ?_
        refine WN.thn ?_
        refine WC.condT rfl (rfl) ?_
        refine WC.seq ?_
        refine WC.reg ?_
        refine WL.v (Runs.assign rfl) rfl ?_
        refine WL.nil ?_
        refine WN.thn ?_
        refine WC.ret ?_
        refine ret1 rfl rfl ⟨?_, h1⟩
        unfold withM
        rw [if_neg (by simpa using c2), if_pos (.inl hx)]
      · skip
        refine WC.reg ?_
        refine WL.v (Runs.move rfl) rfl ?_
        refine WL.v (Runs.intT (n := (codes.length : Int)) (Runs.llen Try.underlying28 rfl rfl) rfl) rfl ?_
        refine WL.v (Runs.move rfl) rfl ?_
        refine WL.v (Runs.intT (n := (l.length : Int)) (Runs.llen Try.underlying22 rfl rfl) rfl) rfl ?_
        refine WL.v (Runs.boolT (c := false) (Runs.neq rfl rfl) (by simp; omega)) rfl ?_
        refine WL.v (Runs.move rfl) rfl ?_
        refine WL.gon rfl rfl rfl ?_
        refine WL.v (Runs.move rfl) rfl ?_
        refine WL.gon rfl rfl rfl ?_
        refine WL.call can37 rfl rfl (cfI_c _ 38 (fun c => !inB c (-1) 256) can38 h1 hRc hc (fun w n _ h => with1_c w n h)) ?_
        rintro _ w3 ⟨rfl, h3⟩
        refine ⟨_, rfl, ?_⟩
        refine WL.v (Runs.pick rfl rfl rfl) rfl ?_
        refine WL.nil ?_
        refine WN.thn ?_
        refine WC.cond rfl (fun c4 => ?_) (fun c4 => ?_)
        · try simp only [decide_eq_true_eq, decide_eq_false_iff_not, Bool.not_eq_true', Bool.not_eq_false', Bool.and_eq_true, Int.not_lt, Int.not_le] at c4
          first
          | (exfalso; omega)
          | skip
            refine WC.seq ?_
            refine WC.reg ?_
            refine WL.v (Runs.assign rfl) rfl ?_
            refine WL.nil ?_
            refine WN.thn ?_
            refine WC.ret ?_
            refine ret1 rfl rfl ⟨?_, h3⟩
            unfold withM
            rw [if_neg (by simpa using c2), if_pos (.inr c4)]
        · try simp only [decide_eq_true_eq, decide_eq_false_iff_not, Bool.not_eq_true', Bool.not_eq_false', Bool.and_eq_true, Int.not_lt, Int.not_le] at c4
          first
          | (exfalso; omega)
          | skip
            refine WC.skip ?_
            refine WN.thn ?_
            refine WC.seq ?_
            refine WC.reg ?_
            refine WL.v (Runs.assign rfl) rfl ?_
            refine WL.nil ?_
            refine WN.thn ?_
            refine WC.ret ?_
            refine ret1 rfl rfl ⟨?_, h3⟩
            unfold withM
            rw [if_neg (by simpa using c2), if_neg (by rintro (h1 | h1); exact h1 hx; rw [c4] at h1; cases h1)]
set_option maxRecDepth 100000 in
set_option maxHeartbeats 1000000 in
theorem qwith_c {W : World} {F : Snap} {cs : List Res} (w : World) {A : Option Addr} {cap : Nat} {l : List S} {A2 : Option Addr} {cap2 : Nat} {codes : List Int} (h : St W F cs w) (hR : RdS KS F A l) (hl : l.length ≤ 100000) (hf : fewE l) (hRc : RdS (Kd.one Vi) F A2 codes) (hc : codes.length ≤ 100000) : Calls Try.prog 30 #[.slice A l.length cap, .slice A2 codes.length cap2] w fun r w' => r = .returned (Vi (withM l codes)) ∧ St W F cs w'  := by
  refine enter (P := Try.prog) (args := [.slice A l.length cap, .slice A2 codes.length cap2]) Try.func30 rfl rfl rfl ?_
  refine WC.seq ?_
  refine WC.reg ?_
  refine WL.v (Runs.assign rfl) rfl ?_
  refine WL.nil ?_
  refine WN.thn ?_
  refine WC.seq ?_
  refine WC.reg ?_
  refine WL.v (Runs.move rfl) rfl ?_
  refine WL.call can12 rfl rfl (qcheck_c _ h hR hl hf) ?_
  rintro _ w1 ⟨rfl, h1⟩
  refine ⟨_, rfl, ?_⟩
  refine WL.v (Runs.assign rfl) rfl ?_
  refine WL.nil ?_
  refine WN.thn ?_
  refine WC.seq ?_
  refine WC.seq ?_
  refine WC.reg ?_
  refine WL.v (Runs.move rfl) rfl ?_
  refine WL.v (Runs.neq rfl rfl) rfl ?_
  refine WL.nil ?_
  refine WN.thn ?_
  refine WC.cond rfl (fun c2 => ?_) (fun c2 => ?_)
  · try simp only [decide_eq_true_eq, decide_eq_false_iff_not, Bool.not_eq_true', Bool.not_eq_false', Bool.and_eq_true, Int.not_lt, Int.not_le] at c2
    first
    | (exfalso; omega)
    | skip
      refine WC.seq ?_
      refine WC.reg ?_
      refine WL.v (Runs.move rfl) rfl ?_
      refine WL.v (Runs.assign rfl) rfl ?_
      refine WL.nil ?_
      refine WN.thn ?_
      refine WC.ret ?_
      refine ret1 rfl rfl ⟨?_, h1⟩
      unfold withM
      rw [if_pos (by simpa using c2)]
  · try simp only [decide_eq_true_eq, decide_eq_false_iff_not, Bool.not_eq_true', Bool.not_eq_false', Bool.and_eq_true, Int.not_lt, Int.not_le] at c2
    first
    | (exfalso; omega)
    | skip
      refine WC.skip ?_
      refine WN.thn ?_
      refine WC.seq ?_
      refine WC.seq ?_
      refine WC.reg ?_
      refine WL.v (Runs.move rfl) rfl ?_
      refine WL.v (Runs.intT (n := (codes.length : Int)) (Runs.llen Try.underlying28 rfl rfl) rfl) rfl ?_
      refine WL.v (Runs.move rfl) rfl ?_
      refine WL.v (Runs.intT (n := (l.length : Int)) (Runs.llen Try.underlying22 rfl rfl) rfl) rfl ?_
      refine WL.v (Runs.neq rfl rfl) rfl ?_
      refine WL.nil ?_
      refine WN.thn ?_
      refine WC.cond rfl (fun c3 => ?_) (fun c3 => ?_)
      · try simp only [decide_eq_true_eq, decide_eq_false_iff_not, Bool.not_eq_true', Bool.not_eq_false', Bool.and_eq_true, Int.not_lt, Int.not_le] at c3
        first
        | (exfalso; omega)
        | skip
          refine WC.seq ?_
          refine WC.reg ?_
          refine WL.v (Runs.assign rfl) rfl ?_
          refine WL.nil ?_
          refine WN.thn ?_
          refine WC.ret ?_
          refine ret1 rfl rfl ⟨?_, h1⟩
          unfold withM
          rw [if_neg (by simpa using c2), if_pos (.inl (by omega))]
      · try simp only [decide_eq_true_eq, decide_eq_false_iff_not, Bool.not_eq_true', Bool.not_eq_false', Bool.and_eq_true, Int.not_lt, Int.not_le] at c3
        first
        | (exfalso; omega)
        | skip
          refine WC.skip ?_
          refine WN.thn ?_
          refine WC.seq ?_
          refine WC.seq ?_
          refine WC.reg ?_
          refine WL.v (Runs.assign rfl) rfl ?_
          refine WL.nil ?_
          refine WN.thn ?_
          refine WC.block ?_
          refine WC.loop (σ := Nat) (fun q_ => [(1, .slice A2 codes.length cap2), (6, .int .i64 (q_ : Int))]) (fun q_ w => q_ ≤ codes.length ∧ (∀ j, j < q_ → (!inB (codes.getD j 0) (-1) 256) = false) ∧ St W F cs w) (fun q_ => codes.length - q_) (0) (by repeat (first | exact trivial | refine ⟨rfl, ?_⟩)) (⟨Nat.zero_le _, fun j hj => absurd hj (Nat.not_lt_zero _), h1⟩) ?_
          rintro i w4 ⟨hi, hok, hL⟩
          try dsimp only at hi hok hL
          refine WC.sub (s := [(1, .slice A2 codes.length cap2), (6, .int .i64 (i : Int))]) (by repeat (first | exact trivial | refine ⟨rfl, ?_⟩)) ?_
          refine WC.seq ?_
          refine WC.seq ?_
          refine WC.reg ?_
          refine WL.v (Runs.move rfl) rfl ?_
          refine WL.v (Runs.move rfl) rfl ?_
          refine WL.v (Runs.llen Try.underlying28 rfl rfl) rfl ?_
          refine WL.v (Runs.lss rfl rfl) rfl ?_
          refine WL.nil ?_
          refine WN.thn ?_
          refine WC.cond rfl (fun c5 => ?_) (fun c5 => ?_)
          · try simp only [decide_eq_true_eq, decide_eq_false_iff_not, Bool.not_eq_true', Bool.not_eq_false', Bool.and_eq_true, Int.not_lt, Int.not_le] at c5
            first
            | (exfalso; omega)
            | skip
              refine WC.skip ?_
              refine WN.thn ?_
              refine WC.seq ?_
              refine WC.block ?_
              refine WC.seq ?_
              obtain ⟨ad, rfl, hrd⟩ := rd1 hRc (by omega)
              have hi2 : i < codes.length := by omega
              have hcase : (codes.getD i 0) < -1 ∨ (-1 ≤ (codes.getD i 0) ∧ 256 < (codes.getD i 0)) ∨ (-1 ≤ (codes.getD i 0) ∧ (codes.getD i 0) ≤ 256) := by omega
              rcases hcase with hx | hx | hx
              · skip
                refine WC.reg ?_
                refine WL.v (Runs.move rfl) rfl ?_
                refine WL.v (Runs.move rfl) rfl ?_
                refine WL.v (Runs.lidxN Try.underlying28 inf3 rfl rfl (n := i) rfl (by omega)) rfl ?_
                refine WL.v (Runs.loadR (f := Vi) (0 : Int) hL hrd (n := i) (by omega) Try.underlying3 rfl rfl) rfl ?_
                refine WL.v (Runs.boolT (c := true) (Runs.lss rfl rfl) (by rw [decide_eq_true_eq]; omega)) rfl ?_
                refine WL.v (Runs.move rfl) rfl ?_
                refine WL.goff rfl rfl rfl rfl ?_
                refine WL.goff rfl rfl rfl rfl ?_
                refine WL.goff rfl rfl rfl rfl ?_
                refine WL.goff rfl rfl rfl rfl ?_
                refine WL.goff rfl rfl rfl rfl ?_
                refine WL.v (Runs.pick rfl rfl rfl) rfl ?_
                refine WL.nil ?_
                refine WN.thn ?_
                refine WC.condT rfl (rfl) ?_
                refine WC.seq ?_
                refine WC.reg ?_
                refine WL.v (Runs.assign rfl) rfl ?_
                refine WL.nil ?_
                refine WN.thn ?_
                refine WC.ret ?_
                refine ret1 rfl rfl ⟨?_, hL⟩
                unfold withM
                rw [if_neg (by simpa using c2), if_pos (.inr (any_t (d := 0) hi2 (by rw [inB_f (by omega)]; rfl)))]
              · skip
                refine WC.reg ?_
                refine WL.v (Runs.move rfl) rfl ?_
                refine WL.v (Runs.move rfl) rfl ?_
                refine WL.v (Runs.lidxN Try.underlying28 inf3 rfl rfl (n := i) rfl (by omega)) rfl ?_
                refine WL.v (Runs.loadR (f := Vi) (0 : Int) hL hrd (n := i) (by omega) Try.underlying3 rfl rfl) rfl ?_
                refine WL.v (Runs.boolT (c := false) (Runs.lss rfl rfl) (by rw [decide_eq_false_iff_not]; omega)) rfl ?_
                refine WL.v (Runs.move rfl) rfl ?_
                refine WL.gon rfl rfl rfl ?_
                refine WL.v (Runs.move rfl) rfl ?_
                refine WL.gon rfl rfl rfl ?_
                refine WL.v (Runs.move rfl) rfl ?_
                refine WL.gon rfl rfl rfl ?_
                refine WL.v (Runs.lidxN Try.underlying28 inf3 rfl rfl (n := i) rfl (by omega)) rfl ?_
                refine WL.gon rfl rfl rfl ?_
                refine WL.v (Runs.loadR (f := Vi) (0 : Int) hL hrd (n := i) (by omega) Try.underlying3 rfl rfl) rfl ?_
                refine WL.gon rfl rfl rfl ?_
                refine WL.v (Runs.boolT (c := true) (Runs.gtr rfl rfl) (by rw [decide_eq_true_eq]; omega)) rfl ?_
                refine WL.v (Runs.pick rfl rfl rfl) rfl ?_
                refine WL.nil ?_
                refine WN.thn ?_
                refine WC.condT rfl (rfl) ?_
                refine WC.seq ?_
                refine WC.reg ?_
                refine WL.v (Runs.assign rfl) rfl ?_
                refine WL.nil ?_
                refine WN.thn ?_
                refine WC.ret ?_
                refine ret1 rfl rfl ⟨?_, hL⟩
                unfold withM
                rw [if_neg (by simpa using c2), if_pos (.inr (any_t (d := 0) hi2 (by rw [inB_f (by omega)]; rfl)))]
              · skip
                refine WC.reg ?_
                refine WL.v (Runs.move rfl) rfl ?_
                refine WL.v (Runs.move rfl) rfl ?_
                refine WL.v (Runs.lidxN Try.underlying28 inf3 rfl rfl (n := i) rfl (by omega)) rfl ?_
                refine WL.v (Runs.loadR (f := Vi) (0 : Int) hL hrd (n := i) (by omega) Try.underlying3 rfl rfl) rfl ?_
                refine WL.v (Runs.boolT (c := false) (Runs.lss rfl rfl) (by rw [decide_eq_false_iff_not]; omega)) rfl ?_
                refine WL.v (Runs.move rfl) rfl ?_
                refine WL.gon rfl rfl rfl ?_
                refine WL.v (Runs.move rfl) rfl ?_
                refine WL.gon rfl rfl rfl ?_
                refine WL.v (Runs.move rfl) rfl ?_
                refine WL.gon rfl rfl rfl ?_
                refine WL.v (Runs.lidxN Try.underlying28 inf3 rfl rfl (n := i) rfl (by omega)) rfl ?_
                refine WL.gon rfl rfl rfl ?_
                refine WL.v (Runs.loadR (f := Vi) (0 : Int) hL hrd (n := i) (by omega) Try.underlying3 rfl rfl) rfl ?_
                refine WL.gon rfl rfl rfl ?_
                refine WL.v (Runs.boolT (c := false) (Runs.gtr rfl rfl) (by rw [decide_eq_false_iff_not]; omega)) rfl ?_
                refine WL.v (Runs.pick rfl rfl rfl) rfl ?_
                refine WL.nil ?_
                refine WN.thn ?_
                refine WC.condF rfl (rfl) ?_
                refine WC.skip ?_
                refine WN.blk ?_
                refine WN.thn ?_
                refine WC.reg ?_
                refine WL.v (Runs.move rfl) rfl ?_
                refine WL.v (Runs.addn rfl rfl (by omega)) rfl ?_
                refine WL.v (Runs.assign rfl) rfl ?_
                refine WL.nil ?_
                exact WN.again (i + 1) (by omega) ⟨rfl, rfl, trivial⟩ ⟨by omega, fun j hj => (by
                  by_cases e : j = i
                  · subst e; rw [inB_t hx]; rfl
                  · exact hok j (by omega)), hL⟩
          · try simp only [decide_eq_true_eq, decide_eq_false_iff_not, Bool.not_eq_true', Bool.not_eq_false', Bool.and_eq_true, Int.not_lt, Int.not_le] at c5
            first
            | (exfalso; omega)
            | skip
              refine WC.exit ?_
              refine WX.thn ?_
              refine WX.cut ?_
              refine WX.hit ?_
              refine WN.thn ?_
              refine WC.seq ?_
              refine WC.reg ?_
              refine WL.v (Runs.assign rfl) rfl ?_
              refine WL.nil ?_
              refine WN.thn ?_
              refine WC.ret ?_
              refine ret1 rfl rfl ⟨?_, hL⟩
              unfold withM
              rw [if_neg (by simpa using c2), if_neg (by rintro (h1 | h1); omega; rw [any_f (d := 0) (fun j hj => hok j (by omega))] at h1; cases h1)]
end Dg
end Go.Proofs.Ytkfkdenikkadhaa
