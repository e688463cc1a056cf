/- Walks of package dag: codes in a row of the call's own: who is skipped, and who is ready. -/
import Derived.Test.YtkfkdenikkadhaaD24
namespace Go.Proofs.Ytkfkdenikkadhaa
open Go Go.RowKit B
set_option linter.unusedVariables false
set_option linter.unusedSimpArgs false
namespace Dg


set_option maxRecDepth 100000 in
set_option maxHeartbeats 1000000 in
theorem idxW_c {W : World} {F : Snap} {cs : List Res} (w : World) {A2 : Option Addr} {cap2 : Nat} {codes : List Int} (g : FuncId) (pr : Int → Bool) (hg : B.Can Try.prog g) (h : St W F cs w) (hR : RdW W F cs Vi A2 codes) (hn : codes.length ≤ 100000) (hcl : ∀ w n, n ∈ codes → St W F cs w → Calls Try.prog g #[Vi n] w fun e w' => e = .returned (.bool (pr n)) ∧ St W F cs w') : Calls Try.prog 41 #[.slice A2 codes.length cap2, .func (.func g) #[] #[]] w fun e w' => (∃ z : Int, e = .returned (Vi z) ∧ decide (0 ≤ z) = codes.any pr) ∧ St W F cs w'  := by
  refine enter (P := Try.prog) (args := [.slice A2 codes.length cap2, .func (.func g) #[] #[]]) Try.func41 rfl rfl rfl ?_
  refine WC.seq ?_
  refine WC.reg ?_
  refine WL.v (Runs.assign rfl) rfl ?_
  refine WL.nil ?_
  refine WN.thn ?_
  refine WC.seq ?_
  refine WC.seq ?_
  refine WC.reg ?_
  refine WL.v (Runs.move rfl) rfl ?_
  refine WL.v (Runs.llen Try.underlying28 rfl rfl) rfl ?_
  refine WL.v (Runs.move rfl) rfl ?_
  refine WL.nil ?_
  refine WN.thn ?_
  refine WC.block ?_
  refine WC.loop (σ := Nat) (fun q_ => [(0, .slice A2 codes.length cap2), (1, .func (.func g) #[] #[]), (7, .int .i64 (codes.length : Int)), (8, .int .i64 (q_ : Int))]) (fun q_ w => q_ ≤ codes.length ∧ (∀ j, j < q_ → pr (codes.getD j 0) = false) ∧ St W F cs w) (fun q_ => codes.length - q_) (0) (by repeat (first | exact trivial | refine ⟨rfl, ?_⟩)) (⟨Nat.zero_le _, fun j hj => absurd hj (Nat.not_lt_zero _), h⟩) ?_
  rintro i w1 ⟨hi, hno, hL⟩
  try dsimp only at hi hno hL
  refine WC.sub (s := [(0, .slice A2 codes.length cap2), (1, .func (.func g) #[] #[]), (7, .int .i64 (codes.length : Int)), (8, .int .i64 (i : Int))]) (by repeat (first | exact trivial | refine ⟨rfl, ?_⟩)) ?_
  refine WC.seq ?_
  refine WC.reg ?_
  refine WL.v (Runs.lss rfl rfl) rfl ?_
  refine WL.nil ?_
  refine WN.thn ?_
  refine WC.seq ?_
  refine WC.cond rfl (fun c2 => ?_) (fun c2 => ?_)
  · try simp only [decide_eq_true_eq, decide_eq_false_iff_not, Bool.not_eq_true', Bool.not_eq_false', Bool.and_eq_true, Int.not_lt, Int.not_le] at c2
    first
    | (exfalso; omega)
    | skip
      refine WC.skip ?_
      refine WN.thn ?_
      refine WC.seq ?_
      refine WC.block ?_
      refine WC.seq ?_
      refine WC.reg ?_
      refine WL.v (Runs.move rfl) rfl ?_
      refine WL.v (Runs.assign rfl) rfl ?_
      refine WL.nil ?_
      refine WN.thn ?_
      refine WC.seq ?_
      obtain ⟨ad, rfl, hrd⟩ := hR.at1 (by omega)
      refine WC.reg ?_
      refine WL.v (Runs.move rfl) rfl ?_
      refine WL.v (Runs.move rfl) rfl ?_
      refine WL.v (Runs.move rfl) rfl ?_
      refine WL.v (Runs.lidxN Try.underlying28 inf3 rfl rfl (n := i) rfl (by omega)) rfl ?_
      refine WL.v (Runs.load1 Try.underlying3 rfl rfl (hrd _ hL i 0 (by omega))) rfl ?_
      refine WL.callv hg rfl rfl rfl (hcl _ _ (memD 0 (by omega)) hL) ?_
      rintro _ w3 ⟨rfl, h3⟩
      refine ⟨_, rfl, ?_⟩
      refine WL.nil ?_
      refine WN.thn ?_
      refine WC.cond rfl (fun c4 => ?_) (fun c4 => ?_)
      · try simp only [decide_eq_true_eq, decide_eq_false_iff_not, Bool.not_eq_true', Bool.not_eq_false', Bool.and_eq_true, Int.not_lt, Int.not_le] at c4
        first
        | (exfalso; omega)
        | skip
          refine WC.seq ?_
          refine WC.reg ?_
          refine WL.v (Runs.move rfl) rfl ?_
          refine WL.v (Runs.assign rfl) rfl ?_
          refine WL.nil ?_
          refine WN.thn ?_
          refine WC.ret ?_
          exact ret1 rfl rfl ⟨⟨_, rfl, by rw [decide_eq_true (Int.natCast_nonneg i), any_t (d := 0) (by omega) c4]⟩, h3⟩
      · try simp only [decide_eq_true_eq, decide_eq_false_iff_not, Bool.not_eq_true', Bool.not_eq_false', Bool.and_eq_true, Int.not_lt, Int.not_le] at c4
        first
        | (exfalso; omega)
        | skip
          refine WC.skip ?_
          refine WN.blk ?_
          refine WN.thn ?_
          refine WC.reg ?_
          refine WL.v (Runs.addn rfl rfl (by omega)) rfl ?_
          refine WL.v (Runs.move rfl) rfl ?_
          refine WL.nil ?_
          exact WN.again (i + 1) (by omega) ⟨rfl, rfl, rfl, rfl, trivial⟩ ⟨by omega, fun j hj => (by
            by_cases e : j = i
            · subst e; exact c4
            · exact hno j (by omega)), h3⟩
  · try simp only [decide_eq_true_eq, decide_eq_false_iff_not, Bool.not_eq_true', Bool.not_eq_false', Bool.and_eq_true, Int.not_lt, Int.not_le] at c2
    first
    | (exfalso; omega)
    | skip
      refine WC.exit ?_
      refine WX.thn ?_
      refine WX.cut ?_
      refine WX.hit ?_
      refine WN.thn ?_
      refine WC.seq ?_
      refine WC.reg ?_
      refine WL.v (Runs.assign rfl) rfl ?_
      refine WL.nil ?_
      refine WN.thn ?_
      refine WC.ret ?_
      exact ret1 rfl rfl ⟨⟨_, rfl, by rw [any_f (d := 0) (fun j hj => hno j (by omega))]; rfl⟩, hL⟩
set_option maxRecDepth 100000 in
set_option maxHeartbeats 1000000 in
theorem cfW_c {W : World} {F : Snap} {cs : List Res} (w : World) {A2 : Option Addr} {cap2 : Nat} {codes : List Int} (g : FuncId) (pr : Int → Bool) (hg : B.Can Try.prog g) (h : St W F cs w) (hR : RdW W F cs Vi A2 codes) (hn : codes.length ≤ 100000) (hcl : ∀ w n, n ∈ codes → St W F cs w → Calls Try.prog g #[Vi n] w fun e w' => e = .returned (.bool (pr n)) ∧ St W F cs w') : Calls Try.prog 37 #[.slice A2 codes.length cap2, .func (.func g) #[] #[]] w fun e w' => e = .returned (.bool (codes.any pr)) ∧ St W F cs w'  := by
  refine enter (P := Try.prog) (args := [.slice A2 codes.length cap2, .func (.func g) #[] #[]]) Try.func37 rfl rfl rfl ?_
  refine WC.seq ?_
  refine WC.reg ?_
  refine WL.v (Runs.assign rfl) rfl ?_
  refine WL.nil ?_
  refine WN.thn ?_
  refine WC.seq ?_
  refine WC.reg ?_
  refine WL.v (Runs.move rfl) rfl ?_
  refine WL.v (Runs.move rfl) rfl ?_
  refine WL.call can41 rfl rfl (idxW_c _ g pr hg h hR hn hcl) ?_
  rintro _ w1 ⟨⟨k, rfl, hk⟩, h1⟩
  refine ⟨_, rfl, ?_⟩
  refine WL.v (Runs.geq rfl rfl) rfl ?_
  refine WL.v (Runs.assign rfl) rfl ?_
  refine WL.nil ?_
  refine WN.thn ?_
  refine WC.ret ?_
  exact ret1 rfl rfl ⟨by rw [← hk], h1⟩
set_option maxRecDepth 100000 in
set_option maxHeartbeats 1000000 in
theorem withW_c {W : World} {F : Snap} {cs : List Res} (w : World) {A : Option Addr} {cap : Nat} {l : List S} {A2 : Option Addr} {cap2 : Nat} {codes : List Int} (h : St W F cs w) (hR : RdS KS F A l) (hl : l.length ≤ 100000) (hf : fewE l) (hRc : RdW W F cs Vi A2 codes) (hc : codes.length ≤ 100000) : Calls Try.prog 28 #[.slice A l.length cap, .slice A2 codes.length cap2] w fun r w' => r = .returned (Vi (withM l codes)) ∧ St W F cs w'  := by
  refine enter (P := Try.prog) (args := [.slice A l.length cap, .slice A2 codes.length cap2]) Try.func28 rfl rfl rfl ?_
  refine WC.seq ?_
  refine WC.reg ?_
  refine WL.v (Runs.assign rfl) rfl ?_
  refine WL.nil ?_
  refine WN.thn ?_
  refine WC.seq ?_
  refine WC.seq ?_
  refine WC.reg ?_
  refine WL.v (Runs.move rfl) rfl ?_
  refine WL.call can11 rfl rfl (check_c _ h hR hl hf) ?_
  rintro _ w1 ⟨rfl, h1⟩
  refine ⟨_, rfl, ?_⟩
  refine WL.v (Runs.assign rfl) rfl ?_
  refine WL.nil ?_
  refine WN.thn ?_
  refine WC.seq ?_
  refine WC.reg ?_
  refine WL.v (Runs.move rfl) rfl ?_
  refine WL.v (Runs.neq rfl rfl) rfl ?_
  refine WL.nil ?_
  refine WN.thn ?_
  refine WC.cond rfl (fun c2 => ?_) (fun c2 => ?_)
  · try simp only [decide_eq_true_eq, decide_eq_false_iff_not, Bool.not_eq_true', Bool.not_eq_false', Bool.and_eq_true, Int.not_lt, Int.not_le] at c2
    first
    | (exfalso; omega)
    | skip
      refine WC.seq ?_
      refine WC.reg ?_
      refine WL.v (Runs.move rfl) rfl ?_
      refine WL.v (Runs.assign rfl) rfl ?_
      refine WL.nil ?_
      refine WN.thn ?_
      refine WC.ret ?_
      refine ret1 rfl rfl ⟨?_, h1⟩
      unfold withM
      rw [if_pos (by simpa using c2)]
  · try simp only [decide_eq_true_eq, decide_eq_false_iff_not, Bool.not_eq_true', Bool.not_eq_false', Bool.and_eq_true, Int.not_lt, Int.not_le] at c2
    first
    | (exfalso; omega)
    | skip
      refine WC.skip ?_
      refine WN.thn ?_
      refine WC.seq ?_
      refine WC.seq ?_
      have hcase : codes.length ≠ l.length ∨ codes.length = l.length := by omega
      rcases hcase with hx | hx
      · skip
        refine WC.reg ?_
        refine WL.v (Runs.move rfl) rfl ?_
        refine WL.v (Runs.intT (n := (codes.length : Int)) (Runs.llen Try.underlying28 rfl rfl) rfl) rfl ?_
        refine WL.v (Runs.move rfl) rfl ?_
        refine WL.v (Runs.intT (n := (l.length : Int)) (Runs.llen Try.underlying22 rfl rfl) rfl) rfl ?_
        refine WL.v (Runs.boolT (c := true) (Runs.neq rfl rfl) (by simp; omega)) rfl ?_
        refine WL.v (Runs.move rfl) rfl ?_
        refine WL.goff rfl rfl rfl rfl ?_
        refine WL.goff rfl rfl rfl rfl ?_
        refine WL.v (Runs.pick rfl rfl rfl) rfl ?_
        refine WL.nil ?_
        refine WN.thn ?_
        refine WC.condT rfl (rfl) ?_
        refine WC.seq ?_
        refine WC.reg ?_
        refine WL.v (Runs.assign rfl) rfl ?_
        refine WL.nil ?_
        refine WN.thn ?_
        refine WC.ret ?_
        refine ret1 rfl rfl ⟨?_, h1⟩
        unfold withM
        rw [if_neg (by simpa using c2), if_pos (.inl hx)]
      · skip
        refine WC.reg ?_
        refine WL.v (Runs.move rfl) rfl ?_
        refine WL.v (Runs.intT (n := (codes.length : Int)) (Runs.llen Try.underlying28 rfl rfl) rfl) rfl ?_
        refine WL.v (Runs.move rfl) rfl ?_
        refine WL.v (Runs.intT (n := (l.length : Int)) (Runs.llen Try.underlying22 rfl rfl) rfl) rfl ?_
        refine WL.v (Runs.boolT (c := false) (Runs.neq rfl rfl) (by simp; omega)) rfl ?_
        refine WL.v (Runs.move rfl) rfl ?_
        refine WL.gon rfl rfl rfl ?_
        refine WL.v (Runs.move rfl) rfl ?_
        refine WL.gon rfl rfl rfl ?_
        refine WL.call can37 rfl rfl (cfW_c _ 38 (fun c => !inB c (-1) 256) can38 h1 hRc hc (fun w n _ h => with1_c w n h)) ?_
        rintro _ w3 ⟨rfl, h3⟩
        refine ⟨_, rfl, ?_⟩
        refine WL.v (Runs.pick rfl rfl rfl) rfl ?_
        refine WL.nil ?_
        refine WN.thn ?_
        refine WC.cond rfl (fun c4 => ?_) (fun c4 => ?_)
        · try simp only [decide_eq_true_eq, decide_eq_false_iff_not, Bool.not_eq_true', Bool.not_eq_false', Bool.and_eq_true, Int.not_lt, Int.not_le] at c4
          first
          | (exfalso; omega)
          | skip
            refine WC.seq ?_
            refine WC.reg ?_
            refine WL.v (Runs.assign rfl) rfl ?_
            refine WL.nil ?_
            refine WN.thn ?_
            refine WC.ret ?_
            refine ret1 rfl rfl ⟨?_, h3⟩
            unfold withM
            rw [if_neg (by simpa using c2), if_pos (.inr c4)]
        · try simp only [decide_eq_true_eq, decide_eq_false_iff_not, Bool.not_eq_true', Bool.not_eq_false', Bool.and_eq_true, Int.not_lt, Int.not_le] at c4
          first
          | (exfalso; omega)
          | skip
            refine WC.skip ?_
            refine WN.thn ?_
            refine WC.seq ?_
            refine WC.reg ?_
            refine WL.v (Runs.assign rfl) rfl ?_
            refine WL.nil ?_
            refine WN.thn ?_
            refine WC.ret ?_
            refine ret1 rfl rfl ⟨?_, h3⟩
            unfold withM
            rw [if_neg (by simpa using c2), if_neg (by rintro (h1 | h1); exact h1 hx; rw [c4] at h1; cases h1)]
set_option maxRecDepth 100000 in
set_option maxHeartbeats 8000000 in
theorem readyW_c {W : World} {F : Snap} {cs : List Res} (w : World) {A : Option Addr} {cap : Nat} {l : List S} {A2 : Option Addr} {cap2 : Nat} {codes : List Int} (h : St W F cs w) (hR : RdS KS F A l) (hl : l.length ≤ 100000) (hf : fewE l) (hRc : RdW W F cs Vi A2 codes) (hc : codes.length ≤ 100000) : Calls Try.prog 16 #[.slice A l.length cap, .slice A2 codes.length cap2] w fun r w' => Gives2 W F cs (readyM l codes) (withM l codes) r w'  := by
  refine enter (P := Try.prog) (args := [.slice A l.length cap, .slice A2 codes.length cap2]) Try.func16 rfl rfl rfl ?_
  refine WC.seq ?_
  refine WC.reg ?_
  refine WL.v (Runs.assign rfl) rfl ?_
  refine WL.v (Runs.assign rfl) rfl ?_
  refine WL.nil ?_
  refine WN.thn ?_
  refine WC.scope (fun _ _ _ h_ => h_) ?_
  refine WC.seq ?_
  refine WC.seq ?_
  refine WC.reg ?_
  refine WL.v (Runs.move rfl) rfl ?_
  refine WL.v (Runs.move rfl) rfl ?_
  refine WL.call can28 rfl rfl (withW_c _ h hR hl hf hRc hc) ?_
  rintro _ w1 ⟨rfl, h1⟩
  refine ⟨_, rfl, ?_⟩
  refine WL.v (Runs.assign rfl) rfl ?_
  refine WL.nil ?_
  refine WN.thn ?_
  refine WC.seq ?_
  refine WC.reg ?_
  refine WL.v (Runs.move rfl) rfl ?_
  refine WL.v (Runs.neq rfl rfl) rfl ?_
  refine WL.nil ?_
  refine WN.thn ?_
  refine WC.cond rfl (fun c2 => ?_) (fun c2 => ?_)
  · try simp only [decide_eq_true_eq, decide_eq_false_iff_not, Bool.not_eq_true', Bool.not_eq_false', Bool.and_eq_true, Int.not_lt, Int.not_le] at c2
    first
    | (exfalso; omega)
    | skip
      refine WC.seq ?_
      refine WC.reg ?_
      refine WL.v (Runs.move rfl) rfl ?_
      refine WL.v (Runs.assign rfl) rfl ?_
      refine WL.v (Runs.assign rfl) rfl ?_
      refine WL.nil ?_
      refine WN.thn ?_
      refine WC.ret ?_
      exact ret2 rfl rfl rfl (by unfold readyM; rw [if_neg (by simpa using c2)]; exact Row.gives2 _ (Row.nil 3 Vi) h1.nilRes)
  · try simp only [decide_eq_true_eq, decide_eq_false_iff_not, Bool.not_eq_true', Bool.not_eq_false', Bool.and_eq_true, Int.not_lt, Int.not_le] at c2
    first
    | (exfalso; omega)
    | skip
      refine WC.skip ?_
      refine WN.thn ?_
      refine WC.seq ?_
      have hw0 : withM l codes = 0 := by simpa using c2
      have hw := with_ok hw0
      have hall := (chk_ok hw.1).1
      refine WC.reg ?_
      refine WL.v (Runs.assign rfl) rfl ?_
      refine WL.nil ?_
      refine WN.thn ?_
      refine WC.seq ?_
      refine WC.label ?_
      refine WN.thn ?_
      refine WC.seq ?_
      refine WC.seq ?_
      refine WC.reg ?_
      refine WL.v (Runs.move rfl) rfl ?_
      refine WL.v (Runs.llen Try.underlying22 rfl rfl) rfl ?_
      refine WL.v (Runs.move rfl) rfl ?_
      refine WL.nil ?_
      refine WN.thn ?_
      refine WC.block ?_
      refine WC.loop (σ := Nat × Res × Value) (fun q_ => [(1, .slice A2 codes.length cap2), (7, q_.2.2), (18, .slice A l.length cap), (19, .int .i64 (l.length : Int)), (20, .int .i64 (q_.1 : Int))]) (fun q_ w => q_.1 ≤ l.length ∧ Row 3 Vi q_.2.1 q_.2.2 (rdyL l codes q_.1) ∧ St W F (q_.2.1 :: cs) w) (fun q_ => l.length - q_.1) (⟨0, [], .slice none 0 0⟩) (by repeat (first | exact trivial | refine ⟨rfl, ?_⟩)) (⟨Nat.zero_le _, Row.nil _ _, h1.nilRes⟩) ?_
      rintro ⟨i, r, v⟩ w3 ⟨hi, hro, hL⟩
      try dsimp only at hi hro hL
      refine WC.sub (s := [(1, .slice A2 codes.length cap2), (7, v), (18, .slice A l.length cap), (19, .int .i64 (l.length : Int)), (20, .int .i64 (i : Int))]) (by repeat (first | exact trivial | refine ⟨rfl, ?_⟩)) ?_
      obtain ⟨B, capr, rfl, hcap⟩ := hro.val
      have hln := rdyL_len l codes i
      refine WC.seq ?_
      refine WC.reg ?_
      refine WL.v (Runs.lss rfl rfl) rfl ?_
      refine WL.nil ?_
      refine WN.thn ?_
      refine WC.seq ?_
      refine WC.cond rfl (fun c4 => ?_) (fun c4 => ?_)
      · try simp only [decide_eq_true_eq, decide_eq_false_iff_not, Bool.not_eq_true', Bool.not_eq_false', Bool.and_eq_true, Int.not_lt, Int.not_le] at c4
        first
        | (exfalso; omega)
        | skip
          refine WC.skip ?_
          refine WN.thn ?_
          refine WC.seq ?_
          refine WC.block ?_
          refine WC.seq ?_
          have hi2 : i < l.length := by omega
          obtain ⟨ad, A1, cap1, rfl, hE, hcell⟩ := stepAt hR hi2
          have hf2 := hf i hi2
          obtain ⟨ac, rfl, hrc⟩ := hRc.at1 (by omega)
          refine WC.reg ?_
          refine WL.v (Runs.move rfl) rfl ?_
          refine WL.v (Runs.lidxK Try.underlying22 inf38 rfl rfl (n := i) rfl (by omega)) rfl ?_
          refine WL.v (Runs.stepA (s := (l.getD i S0)) hL hcell Try.underlying38 rfl inf38 rfl) rfl ?_
          refine WL.alloc' rfl hL inf38 ?_
          intro b9 w5 h5
          refine WL.v (Runs.assign rfl) rfl ?_
          refine WL.storeAll h5 0 rfl rfl rfl inf38 rfl rfl rfl (Free.zero _) ?_
          intro  w6 h6
          try simp only [List.set_cons_zero, List.set_cons_succ, List.eraseIdx_cons_zero, List.eraseIdx_cons_succ] at h6
          refine WL.nil ?_
          refine WN.thn ?_
          refine WC.seq ?_
          refine WC.seq ?_
          refine WC.reg ?_
          refine WL.v (Runs.move rfl) rfl ?_
          refine WL.v (Runs.move rfl) rfl ?_
          refine WL.v (Runs.lidxN Try.underlying28 inf3 rfl rfl (n := i) rfl (by omega)) rfl ?_
          refine WL.v (Runs.load1 Try.underlying3 rfl rfl (hrc _ ((h6.drop 0).drop 0) i 0 (by omega))) rfl ?_
          refine WL.v (Runs.neq rfl rfl) rfl ?_
          refine WL.nil ?_
          refine WN.thn ?_
          refine WC.cond rfl (fun c7 => ?_) (fun c7 => ?_)
          · try simp only [decide_eq_true_eq, decide_eq_false_iff_not, Bool.not_eq_true', Bool.not_eq_false', Bool.and_eq_true, Int.not_lt, Int.not_le] at c7
            first
            | (exfalso; omega)
            | skip
              refine WC.exit ?_
              refine WX.thn ?_
              refine WX.hit ?_
              refine WN.thn ?_
              refine WC.reg ?_
              refine WL.v (Runs.addn rfl rfl (by omega)) rfl ?_
              refine WL.v (Runs.move rfl) rfl ?_
              refine WL.nil ?_
              exact WN.again (⟨i + 1, r, _⟩ : Nat × Res × Value) (by show l.length - (i + 1) < l.length - i; omega) ⟨rfl, rfl, rfl, rfl, rfl, trivial⟩ ⟨by show i + 1 ≤ _; omega, (by
                show Row 3 Vi r (.slice B (rdyL l codes i).length capr) (rdyL l codes (i + 1))
                rw [rdyL_n (fun hh => absurd hh.1 (by simpa using c7))]
                exact hro), (h6.drop 0)⟩
          · try simp only [decide_eq_true_eq, decide_eq_false_iff_not, Bool.not_eq_true', Bool.not_eq_false', Bool.and_eq_true, Int.not_lt, Int.not_le] at c7
            first
            | (exfalso; omega)
            | skip
              refine WC.skip ?_
              refine WN.thn ?_
              refine WC.seq ?_
              refine WC.seq ?_
              refine WC.reg ?_
              refine WL.v (Runs.fld fld38_4 rfl) rfl ?_
              refine WL.v (Runs.load1 Try.underlying36 rfl rfl (h6.ocell (i := 0) rfl rfl)) rfl ?_
              refine WL.v (Runs.intT (n := ((l.getD i S0).af.length : Int)) (Runs.llen Try.underlying36 rfl rfl) rfl) rfl ?_
              refine WL.v (Runs.move rfl) rfl ?_
              refine WL.nil ?_
              refine WN.thn ?_
              refine WC.block ?_
              refine WC.loop (σ := Nat) (fun q_ => [(1, .slice (some ac) codes.length cap2), (7, .slice B (rdyL l codes i).length capr), (8, .int .i64 (i : Int)), (18, .slice (some ad) l.length cap), (19, .int .i64 (l.length : Int)), (20, .int .i64 (i : Int)), (31, .slice A1 (l.getD i S0).af.length cap1), (32, .int .i64 ((l.getD i S0).af.length : Int)), (33, .int .i64 (q_ : Int))]) (fun q_ w => q_ ≤ (l.getD i S0).af.length ∧ (∀ j, j < q_ → holdsM ((l.getD i S0).af.getD j E0) codes = true) ∧ St W F ([(b9, .cells #[Vi (l.getD i S0).rk, Vi (l.getD i S0).per, Vi (l.getD i S0).ds, Vi (l.getD i S0).lim, .slice A1 (l.getD i S0).af.length cap1] 38 (0, 0))] :: r :: cs) w) (fun q_ => (l.getD i S0).af.length - q_) (0) (by repeat (first | exact trivial | refine ⟨rfl, ?_⟩)) (⟨Nat.zero_le _, fun j hj => absurd hj (Nat.not_lt_zero _), h6⟩) ?_
              rintro k w8 ⟨hk, hin, hL⟩
              try dsimp only at hk hin hL
              refine WC.sub (s := [(1, .slice (some ac) codes.length cap2), (7, .slice B (rdyL l codes i).length capr), (8, .int .i64 (i : Int)), (18, .slice (some ad) l.length cap), (19, .int .i64 (l.length : Int)), (20, .int .i64 (i : Int)), (31, .slice A1 (l.getD i S0).af.length cap1), (32, .int .i64 ((l.getD i S0).af.length : Int)), (33, .int .i64 (k : Int))]) (by repeat (first | exact trivial | refine ⟨rfl, ?_⟩)) ?_
              refine WC.seq ?_
              refine WC.reg ?_
              refine WL.v (Runs.lss rfl rfl) rfl ?_
              refine WL.nil ?_
              refine WN.thn ?_
              refine WC.seq ?_
              refine WC.cond rfl (fun c9 => ?_) (fun c9 => ?_)
              · try simp only [decide_eq_true_eq, decide_eq_false_iff_not, Bool.not_eq_true', Bool.not_eq_false', Bool.and_eq_true, Int.not_lt, Int.not_le] at c9
                first
                | (exfalso; omega)
                | skip
                  refine WC.skip ?_
                  refine WN.thn ?_
                  refine WC.seq ?_
                  refine WC.block ?_
                  refine WC.seq ?_
                  have hk2 : k < (l.getD i S0).af.length := by omega
                  obtain ⟨ae, rfl⟩ := rdA hE (by omega)
                  refine WC.reg ?_
                  refine WL.v (Runs.lidxK Try.underlying36 inf40 rfl rfl (n := k) rfl (by omega)) rfl ?_
                  refine WL.v (Runs.edgeA hL hE rfl (by omega) Try.underlying40 rfl inf40 rfl) rfl ?_
                  refine WL.alloc' rfl hL inf40 ?_
                  intro b11 w10 h10
                  refine WL.storeAll h10 0 rfl rfl rfl inf40 rfl rfl rfl (Free.zero _) ?_
                  intro  w11 h11
                  try simp only [List.set_cons_zero, List.set_cons_succ, List.eraseIdx_cons_zero, List.eraseIdx_cons_succ] at h11
                  refine WL.nil ?_
                  refine WN.thn ?_
                  refine WC.seq ?_
                  refine WC.reg ?_
                  refine WL.v (Runs.loadAll h11 0 rfl Try.underlying40 rfl inf40 rfl rfl) rfl ?_
                  refine WL.v (Runs.move rfl) rfl ?_
                  refine WL.call can29 rfl rfl (holds_c _ ((l.getD i S0).af.getD k E0) h11 (RdW.push_ (RdW.push_ (RdW.push_ hRc))) (by have := edge_in hall hi2 hk2; omega)) ?_
                  rintro _ w12 ⟨rfl, h12⟩
                  refine ⟨_, rfl, ?_⟩
                  refine WL.v (Runs.not rfl) rfl ?_
                  refine WL.nil ?_
                  refine WN.thn ?_
                  refine WC.cond rfl (fun c13 => ?_) (fun c13 => ?_)
                  · try simp only [decide_eq_true_eq, decide_eq_false_iff_not, Bool.not_eq_true', Bool.not_eq_false', Bool.and_eq_true, Int.not_lt, Int.not_le] at c13
                    first
                    | (exfalso; omega)
                    | skip
                      refine WC.exit ?_
                      refine WX.miss rfl ?_
                      refine WX.thn ?_
                      refine WX.cut ?_
                      refine WX.miss rfl ?_
                      refine WX.thn ?_
                      refine WX.hit ?_
                      refine WN.thn ?_
                      refine WC.reg ?_
                      refine WL.v (Runs.addn rfl rfl (by omega)) rfl ?_
                      refine WL.v (Runs.move rfl) rfl ?_
                      refine WL.nil ?_
                      exact WN.again (⟨i + 1, r, _⟩ : Nat × Res × Value) (by show l.length - (i + 1) < l.length - i; omega) ⟨rfl, rfl, rfl, rfl, rfl, trivial⟩ ⟨by show i + 1 ≤ _; omega, (by
                        show Row 3 Vi r (.slice B (rdyL l codes i).length capr) (rdyL l codes (i + 1))
                        rw [rdyL_n (fun hh => absurd (hh.2 k hk2) (by simpa using c13))]
                        exact hro), ((h12.drop 0).drop 0)⟩
                  · try simp only [decide_eq_true_eq, decide_eq_false_iff_not, Bool.not_eq_true', Bool.not_eq_false', Bool.and_eq_true, Int.not_lt, Int.not_le] at c13
                    first
                    | (exfalso; omega)
                    | skip
                      refine WC.skip ?_
                      refine WN.blk ?_
                      refine WN.thn ?_
                      refine WC.reg ?_
                      refine WL.v (Runs.addn rfl rfl (by omega)) rfl ?_
                      refine WL.v (Runs.move rfl) rfl ?_
                      refine WL.nil ?_
                      exact WN.again (k + 1) (by omega) ⟨rfl, rfl, rfl, rfl, rfl, rfl, rfl, rfl, rfl, trivial⟩ ⟨by omega, fun j hj => (by
                        by_cases e : j = k
                        · subst e; simpa using c13
                        · exact hin j (by omega)), h12.drop 0⟩
              · try simp only [decide_eq_true_eq, decide_eq_false_iff_not, Bool.not_eq_true', Bool.not_eq_false', Bool.and_eq_true, Int.not_lt, Int.not_le] at c9
                first
                | (exfalso; omega)
                | skip
                  refine WC.exit ?_
                  refine WX.thn ?_
                  refine WX.cut ?_
                  refine WX.hit ?_
                  refine WN.thn ?_
                  refine WC.reg ?_
                  refine WL.v (Runs.move rfl) rfl ?_
                  refine WL.v (Runs.move rfl) rfl ?_
                  refine WL.lit (vs := (([(i : Int)] : List Int)).map Vi) hL rfl Try.underlying28 inf3 rfl rfl rfl rfl rfl ?_
                  intro lit44 w14 h14
                  refine WL.app (ys := ([(i : Int)] : List Int)) 2 h14 rfl rfl rfl rfl Try.underlying28 Try.underlying28 (.inr ⟨_, rfl⟩) inf3 rfl hro (Src.lit h14 0 rfl rfl rfl) rfl rfl (by first | omega | (simp []; done) | (simp []; omega)) (by first | omega | (simp []; done) | (simp []; omega)) ?_
                  intro r15 v15 w16 hr15 h16
                  simp only [List.set_cons_zero, List.set_cons_succ] at h16
                  replace h16 := h16.drop 0
                  simp only [List.eraseIdx_cons_zero, List.eraseIdx_cons_succ] at h16
                  refine WL.v (Runs.assign rfl) rfl ?_
                  refine WL.nil ?_
                  refine WN.blk ?_
                  refine WN.thn ?_
                  refine WC.reg ?_
                  refine WL.v (Runs.addn rfl rfl (by omega)) rfl ?_
                  refine WL.v (Runs.move rfl) rfl ?_
                  refine WL.nil ?_
                  exact WN.again (⟨i + 1, r15, v15⟩ : Nat × Res × Value) (by show l.length - (i + 1) < l.length - i; omega) ⟨rfl, rfl, rfl, rfl, rfl, trivial⟩ ⟨by show i + 1 ≤ _; omega, (by
                    show Row 3 Vi r15 v15 (rdyL l codes (i + 1))
                    rw [rdyL_y ⟨by simpa using c7, fun j hj => hin j (by omega)⟩]
                    exact hr15), (h16.drop 0)⟩
      · try simp only [decide_eq_true_eq, decide_eq_false_iff_not, Bool.not_eq_true', Bool.not_eq_false', Bool.and_eq_true, Int.not_lt, Int.not_le] at c4
        first
        | (exfalso; omega)
        | skip
          refine WC.exit ?_
          refine WX.thn ?_
          refine WX.cut ?_
          refine WX.hit ?_
          refine WN.thn ?_
          refine WC.seq ?_
          refine WC.reg ?_
          refine WL.v (Runs.move rfl) rfl ?_
          refine WL.v (Runs.assign rfl) rfl ?_
          refine WL.v (Runs.assign rfl) rfl ?_
          refine WL.nil ?_
          refine WN.thn ?_
          refine WC.ret ?_
          obtain rfl : i = l.length := by omega
          exact ret2 rfl rfl rfl (by unfold readyM; rw [if_pos hw0, hw0]; exact Row.gives2 _ hro hL)
set_option maxRecDepth 100000 in
set_option maxHeartbeats 8000000 in
theorem settle_o {W : World} {F : Snap} {cs : List Res} (w : World) {A : Option Addr} {cap : Nat} {l : List S} {A2 : Option Addr} {cap2 : Nat} {codes : List Int} (h : St W F cs w) (hR : RdS KS F A l) (hl : l.length ≤ 100000) (hf : fewE l) (hRc : RdS (Kd.one Vi) F A2 codes) (hc : codes.length ≤ 100000) (hw9 : withM l codes = 0) : Calls Try.prog 18 #[.slice A l.length cap, .slice A2 codes.length cap2] w fun r w' => ∃ G rr v, Le F G ∧ r = .returned (.tuple #[v, Vi 0]) ∧ Row 3 Vi rr v (settleM l codes) ∧ St W G (rr :: cs) w'  := by
  refine enter (P := Try.prog) (args := [.slice A l.length cap, .slice A2 codes.length cap2]) Try.func18 rfl rfl rfl ?_
  refine WC.seq ?_
  refine WC.reg ?_
  refine WL.box rfl h rfl ?_
  intro b3 w1 h1
  refine WL.v (Runs.assign rfl) rfl ?_
  refine WL.v (Runs.assign rfl) rfl ?_
  refine WL.nil ?_
  refine WN.thn ?_
  refine WC.seq ?_
  refine WC.seq ?_
  refine WC.reg ?_
  refine WL.v (Runs.move rfl) rfl ?_
  refine WL.v (Runs.load1 Try.underlying28 rfl rfl (h1.ocell (i := 0) rfl rfl)) rfl ?_
  refine WL.call can28 rfl rfl (with_c _ h1 hR hl hf hRc hc) ?_
  rintro _ w2 ⟨rfl, h2⟩
  refine ⟨_, rfl, ?_⟩
  refine WL.v (Runs.assign rfl) rfl ?_
  refine WL.nil ?_
  refine WN.thn ?_
  refine WC.seq ?_
  refine WC.reg ?_
  refine WL.v (Runs.move rfl) rfl ?_
  refine WL.v (Runs.neq rfl rfl) rfl ?_
  refine WL.nil ?_
  refine WN.thn ?_
  refine WC.cond rfl (fun c3 => ?_) (fun c3 => ?_)
  · try simp only [decide_eq_true_eq, decide_eq_false_iff_not, Bool.not_eq_true', Bool.not_eq_false', Bool.and_eq_true, Int.not_lt, Int.not_le] at c3
    first
    | (exfalso; omega)
    | skip
      refine WC.seq ?_
      refine WC.reg ?_
      refine WL.v (Runs.move rfl) rfl ?_
      refine WL.v (Runs.assign rfl) rfl ?_
      refine WL.v (Runs.assign rfl) rfl ?_
      refine WL.nil ?_
      refine WN.thn ?_
      refine WC.ret ?_
      exact absurd hw9 (by simpa using c3)
  · try simp only [decide_eq_true_eq, decide_eq_false_iff_not, Bool.not_eq_true', Bool.not_eq_false', Bool.and_eq_true, Int.not_lt, Int.not_le] at c3
    first
    | (exfalso; omega)
    | skip
      refine WC.skip ?_
      refine WN.thn ?_
      refine WC.seq ?_
      have hw0 : withM l codes = 0 := by simpa using c3
      have hw := with_ok hw0
      have hall := (chk_ok hw.1).1
      refine WC.reg ?_
      refine WL.v (Runs.load1 Try.underlying28 rfl rfl (h2.ocell (i := 0) rfl rfl)) rfl ?_
      refine WL.call can32 rfl rfl (clone_c _ h2 hRc (by have := (chk_ok hw.1).2; omega) hc) ?_
      rintro _ w4 ⟨r0, v0, rfl, hr0, h4⟩
      refine ⟨_, rfl, ?_⟩
      obtain ⟨B0, capr0, rfl, hcap0⟩ := hr0.val
      refine WL.store' h4 1 rfl rfl rfl inf28 rfl rfl (Free.zero _) (Nat.le_of_ble_eq_true rfl) ?_
      intro  w5 h5
      try simp only [List.set_cons_zero, List.set_cons_succ, List.eraseIdx_cons_zero, List.eraseIdx_cons_succ] at h5
      refine WL.nil ?_
      refine WN.thn ?_
      refine WC.seq ?_
      refine WC.seq ?_
      refine WC.reg ?_
      refine WL.v (Runs.move rfl) rfl ?_
      refine WL.call can25 rfl rfl (order_c _ h5 hR hl hf) ?_
      rintro _ w6 ⟨G, A3, cap3, hG, rfl, hc3, hR3, h6⟩
      refine ⟨_, rfl, ?_⟩
      refine WL.v (Runs.intT (n := ((ordM l).length : Int)) (Runs.llen Try.underlying28 rfl rfl) rfl) rfl ?_
      refine WL.v (Runs.move rfl) rfl ?_
      refine WL.nil ?_
      refine WN.thn ?_
      refine WC.block ?_
      refine WC.loop (σ := Nat × List Int × Res × Value) (fun q_ => [(0, .slice A l.length cap), (3, .pointer (some ⟨b3, 0, none⟩)), (19, .slice A3 (ordM l).length cap3), (20, .int .i64 ((ordM l).length : Int)), (21, .int .i64 (q_.1 : Int))]) (fun q_ w => q_.1 ≤ (ordM l).length ∧ q_.2.1 = stlF l ((ordM l).take q_.1) codes ∧ q_.2.1.length = l.length ∧ Row 3 Vi q_.2.2.1 q_.2.2.2 q_.2.1 ∧ St W G (q_.2.2.1 :: [(b3, .cells #[q_.2.2.2] 28 (0, 0))] :: cs) w) (fun q_ => (ordM l).length - q_.1) (⟨0, codes, r0, _⟩) (by repeat (first | exact trivial | refine ⟨rfl, ?_⟩)) (⟨Nat.zero_le _, rfl, hw.2.1, hr0, h6⟩) ?_
      rintro ⟨k, c, r, v⟩ w7 ⟨hk, hcM, hcl, hro, hL⟩
      try dsimp only at hk hcM hcl hro hL
      refine WC.sub (s := [(0, .slice A l.length cap), (3, .pointer (some ⟨b3, 0, none⟩)), (19, .slice A3 (ordM l).length cap3), (20, .int .i64 ((ordM l).length : Int)), (21, .int .i64 (k : Int))]) (by repeat (first | exact trivial | refine ⟨rfl, ?_⟩)) ?_
      obtain ⟨B, capr, rfl, hcap⟩ := hro.val
      refine WC.seq ?_
      refine WC.reg ?_
      refine WL.v (Runs.lss rfl rfl) rfl ?_
      refine WL.nil ?_
      refine WN.thn ?_
      refine WC.seq ?_
      refine WC.cond rfl (fun c8 => ?_) (fun c8 => ?_)
      · try simp only [decide_eq_true_eq, decide_eq_false_iff_not, Bool.not_eq_true', Bool.not_eq_false', Bool.and_eq_true, Int.not_lt, Int.not_le] at c8
        first
        | (exfalso; omega)
        | skip
          refine WC.skip ?_
          refine WN.thn ?_
          refine WC.seq ?_
          refine WC.block ?_
          refine WC.seq ?_
          have hk2 : k < (ordM l).length := by omega
          obtain ⟨a3, rfl, hrd⟩ := rd1 hR3 (by omega)
          have hxi := ordM_in _ (memD 0 hk2)
          have hx2 : ((ordM l).getD k 0).toNat < l.length := by omega
          obtain ⟨ad, A1, cap1, rfl, hE, hcell⟩ := stepAt (hR.mono hG) hx2
          have hf2 := hf _ hx2
          have hlo := ordM_len l
          obtain ⟨bb, zs, fz, rfl, hBv, hfr⟩ := Row.blk hro (by omega)
          injection hBv with e1 e2 e3
          subst e1
          subst e3
          refine WC.reg ?_
          refine WL.v (Runs.lidxN Try.underlying28 inf3 rfl rfl (n := k) rfl (by omega)) rfl ?_
          refine WL.v (Runs.loadR (f := Vi) (0 : Int) hL hrd (n := k) (by omega) Try.underlying3 rfl rfl) rfl ?_
          refine WL.v (Runs.assign rfl) rfl ?_
          refine WL.nil ?_
          refine WN.thn ?_
          refine WC.seq ?_
          refine WC.reg ?_
          refine WL.v (Runs.makeFunc (us := []) (vs := [.pointer (some ⟨b3, 0, none⟩)]) rfl rfl) rfl ?_
          refine WL.v (Runs.assign rfl) rfl ?_
          refine WL.nil ?_
          refine WN.thn ?_
          refine WC.seq ?_
          by_cases hx : c.getD ((ordM l).getD k 0).toNat 0 = -1
          · skip
            refine WC.reg ?_
            refine WL.v (Runs.load1 Try.underlying28 rfl rfl (hL.ocell (i := 1) rfl rfl)) rfl ?_
            refine WL.v (Runs.move rfl) rfl ?_
            refine WL.v (Runs.lidxN Try.underlying28 inf3 rfl rfl (n := ((ordM l).getD k 0).toNat) (by omega) (by omega)) rfl ?_
            refine WL.v (Runs.loadRow (0 : Int) hL 0 rfl hro (n := ((ordM l).getD k 0).toNat) (by omega) Try.underlying3 rfl rfl) rfl ?_
            refine WL.v (Runs.boolT (c := true) (Runs.eql rfl rfl) (decide_eq_true hx)) rfl ?_
            refine WL.v (Runs.move rfl) rfl ?_
            refine WL.gon rfl rfl rfl ?_
            refine WL.v (Runs.move rfl) rfl ?_
            refine WL.gon rfl rfl rfl ?_
            refine WL.v (Runs.move rfl) rfl ?_
            refine WL.gon rfl rfl rfl ?_
            refine WL.v (Runs.lidxK Try.underlying22 inf38 rfl rfl (n := ((ordM l).getD k 0).toNat) (by omega) (by omega)) rfl ?_
            refine WL.gon rfl rfl rfl ?_
            refine WL.v (Runs.fld fld38_4 rfl) rfl ?_
            refine WL.gon rfl rfl rfl ?_
            refine WL.v (Runs.load1 Try.underlying36 rfl rfl (by rw [add_add]; exact hL.cell (hcell 4 _ rfl))) rfl ?_
            refine WL.gon rfl rfl rfl ?_
            refine WL.v (Runs.move rfl) rfl ?_
            refine WL.gon rfl rfl rfl ?_
            refine WL.call can34 rfl rfl (cfE_c _ 33 _ (fun e => failM e c) can33 hL hE hf2 (fun w e he h => settle1_c w e h (i := 1) rfl (RdW.row hro (i := 0) rfl rfl h) (edge_mem hall hx2 he hcl))) ?_
            rintro _ w9 ⟨rfl, h9⟩
            refine ⟨_, rfl, ?_⟩
            refine WL.v (Runs.pick rfl rfl rfl) rfl ?_
            refine WL.nil ?_
            refine WN.thn ?_
            refine WC.cond rfl (fun c10 => ?_) (fun c10 => ?_)
            · try simp only [decide_eq_true_eq, decide_eq_false_iff_not, Bool.not_eq_true', Bool.not_eq_false', Bool.and_eq_true, Int.not_lt, Int.not_le] at c10
              first
              | (exfalso; omega)
              | skip
                refine WC.reg ?_
                refine WL.v (Runs.load1 Try.underlying28 rfl rfl (h9.ocell (i := 1) rfl rfl)) rfl ?_
                refine WL.v (Runs.move rfl) rfl ?_
                refine WL.v (Runs.valT (u := .pointer (some ⟨bb, ((ordM l).getD k 0).toNat, none⟩)) (Runs.lidxN Try.underlying28 inf3 rfl rfl (n := ((ordM l).getD k 0).toNat) (by omega) (by omega)) (by rw [add_mk, Nat.zero_add])) rfl ?_
                refine WL.storeRow (n := ((ordM l).getD k 0).toNat) (u := (256 : Int)) h9 0 rfl rfl rfl inf3 rfl hfr (by omega) ?_
                intro  w11 h11
                try simp only [List.set_cons_zero, List.set_cons_succ, List.eraseIdx_cons_zero, List.eraseIdx_cons_succ] at h11
                refine WL.nil ?_
                refine WN.blk ?_
                refine WN.thn ?_
                refine WC.reg ?_
                refine WL.v (Runs.addn rfl rfl (by omega)) rfl ?_
                refine WL.v (Runs.move rfl) rfl ?_
                refine WL.nil ?_
                have e9 : stlS l c ((ordM l).getD k 0) = c.set ((ordM l).getD k 0).toNat 256 := by unfold stlS; rw [if_pos ⟨hx, c10⟩]
                have hr9 := Row.mk_ (E := 3) (f := Vi) (b := bb) (fz := fz) (xs := c.set ((ordM l).getD k 0).toNat 256) (zs := zs) (cap := c.length + zs.length) (by rw [List.length_set]) (by rw [List.length_set]; exact hfr)
                rw [List.length_set] at hr9
                exact WN.again (⟨k + 1, c.set ((ordM l).getD k 0).toNat 256, _, _⟩ : Nat × List Int × Res × Value) (by show (ordM l).length - (k + 1) < (ordM l).length - k; omega) ⟨rfl, rfl, rfl, rfl, rfl, trivial⟩ ⟨by show k + 1 ≤ _; omega, (by show _ = stlF l ((ordM l).take (k + 1)) codes; rw [stlF_s hk2, ← hcM, e9]), (by show (c.set _ _).length = _; rw [List.length_set]; exact hcl), hr9, h11⟩
            · try simp only [decide_eq_true_eq, decide_eq_false_iff_not, Bool.not_eq_true', Bool.not_eq_false', Bool.and_eq_true, Int.not_lt, Int.not_le] at c10
              first
              | (exfalso; omega)
              | skip
                refine WC.skip ?_
                refine WN.blk ?_
                refine WN.thn ?_
                refine WC.reg ?_
                refine WL.v (Runs.addn rfl rfl (by omega)) rfl ?_
                refine WL.v (Runs.move rfl) rfl ?_
                refine WL.nil ?_
                have e9 : stlS l c ((ordM l).getD k 0) = c := by unfold stlS; rw [if_neg (fun hh => absurd hh.2 (by rw [c10]; simp))]
                exact WN.again (⟨k + 1, c, _, _⟩ : Nat × List Int × Res × Value) (by show (ordM l).length - (k + 1) < (ordM l).length - k; omega) ⟨rfl, rfl, rfl, rfl, rfl, trivial⟩ ⟨by show k + 1 ≤ _; omega, (by show _ = stlF l ((ordM l).take (k + 1)) codes; rw [stlF_s hk2, ← hcM, e9]), hcl, hro, h9⟩
          · skip
            refine WC.reg ?_
            refine WL.v (Runs.load1 Try.underlying28 rfl rfl (hL.ocell (i := 1) rfl rfl)) rfl ?_
            refine WL.v (Runs.move rfl) rfl ?_
            refine WL.v (Runs.lidxN Try.underlying28 inf3 rfl rfl (n := ((ordM l).getD k 0).toNat) (by omega) (by omega)) rfl ?_
            refine WL.v (Runs.loadRow (0 : Int) hL 0 rfl hro (n := ((ordM l).getD k 0).toNat) (by omega) Try.underlying3 rfl rfl) rfl ?_
            refine WL.v (Runs.boolT (c := false) (Runs.eql rfl rfl) (decide_eq_false hx)) rfl ?_
            refine WL.v (Runs.move rfl) rfl ?_
            refine WL.goff rfl rfl rfl rfl ?_
            refine WL.goff rfl rfl rfl rfl ?_
            refine WL.goff rfl rfl rfl rfl ?_
            refine WL.goff rfl rfl rfl rfl ?_
            refine WL.goff rfl rfl rfl rfl ?_
            refine WL.goff rfl rfl rfl rfl ?_
            refine WL.goff rfl rfl rfl rfl ?_
            refine WL.v (Runs.pick rfl rfl rfl) rfl ?_
            refine WL.nil ?_
            refine WN.thn ?_
            refine WC.condF rfl (rfl) ?_
            refine WC.skip ?_
            refine WN.blk ?_
            refine WN.thn ?_
            refine WC.reg ?_
            refine WL.v (Runs.addn rfl rfl (by omega)) rfl ?_
            refine WL.v (Runs.move rfl) rfl ?_
            refine WL.nil ?_
            have e9 : stlS l c ((ordM l).getD k 0) = c := by unfold stlS; rw [if_neg (fun hh => hx hh.1)]
            exact WN.again (⟨k + 1, c, _, _⟩ : Nat × List Int × Res × Value) (by show (ordM l).length - (k + 1) < (ordM l).length - k; omega) ⟨rfl, rfl, rfl, rfl, rfl, trivial⟩ ⟨by show k + 1 ≤ _; omega, (by show _ = stlF l ((ordM l).take (k + 1)) codes; rw [stlF_s hk2, ← hcM, e9]), hcl, hro, hL⟩
      · try simp only [decide_eq_true_eq, decide_eq_false_iff_not, Bool.not_eq_true', Bool.not_eq_false', Bool.and_eq_true, Int.not_lt, Int.not_le] at c8
        first
        | (exfalso; omega)
        | skip
          refine WC.exit ?_
          refine WX.thn ?_
          refine WX.cut ?_
          refine WX.hit ?_
          refine WN.thn ?_
          refine WC.seq ?_
          refine WC.reg ?_
          refine WL.v (Runs.load1 Try.underlying28 rfl rfl (hL.ocell (i := 1) rfl rfl)) rfl ?_
          refine WL.v (Runs.assign rfl) rfl ?_
          refine WL.v (Runs.assign rfl) rfl ?_
          refine WL.nil ?_
          refine WN.thn ?_
          refine WC.ret ?_
          have hkk : k = (ordM l).length := by omega
          subst hkk
          rw [List.take_of_length_le (Nat.le_refl _)] at hcM
          refine ret2 rfl rfl rfl ?_
          unfold settleM
          rw [if_pos hw0, ← hcM]
          exact ⟨G, _, _, hG, rfl, hro, hL.drop 1⟩
end Dg
end Go.Proofs.Ytkfkdenikkadhaa
