/- Walks of package dag: codes: whether they may be, and whether an edge holds. -/
import Derived.Test.YtkfkdenikkadhaaD8
namespace Go.Proofs.Ytkfkdenikkadhaa
open Go Go.RowKit B
set_option linter.unusedVariables false
set_option linter.unusedSimpArgs false
namespace Dg

theorem can39 : B.Can Try.prog 39 := ⟨_, Try.func39, by kernel_rfl, rfl⟩   -- slices.IndexFunc[[]roundhouse/api.Edge,roundhouse/api.Edge]
theorem can41 : B.Can Try.prog 41 := ⟨_, Try.func41, by kernel_rfl, rfl⟩   -- slices.IndexFunc[[]int,int]
theorem any_f {α : Type} {xs : List α} {p : α → Bool} {d : α} (h : ∀ j, j < xs.length → p (xs.getD j d) = false) : xs.any p = false := by
  rw [List.any_eq_false]
  intro x hx
  obtain ⟨j, hj, rfl⟩ := List.getElem_of_mem hx
  have := h j hj
  rw [List.getD_eq_getElem?_getD, List.getElem?_eq_getElem hj] at this
  simpa using this
theorem any_t {α : Type} {xs : List α} {p : α → Bool} {d : α} {i : Nat} (hi : i < xs.length) (h : p (xs.getD i d) = true) : xs.any p = true := by
  rw [List.any_eq_true]
  rw [List.getD_eq_getElem?_getD, List.getElem?_eq_getElem hi] at h
  exact ⟨_, List.getElem_mem hi, h⟩
theorem memD {α : Type} {xs : List α} {i : Nat} (d : α) (h : i < xs.length) : xs.getD i d ∈ xs := by
  rw [List.getD_eq_getElem?_getD, List.getElem?_eq_getElem h]; exact List.getElem_mem h
def holdsM (e : E) (codes : List Int) : Bool := if e.kd = 0 then decide (codes.getD e.st.toNat 0 = 0) else if e.kd = 1 then !decide (codes.getD e.st.toNat 0 = -1) else inB (codes.getD e.st.toNat 0) 1 255
def withM (l : List S) (codes : List Int) : Int := if chkM l ≠ 0 then chkM l else if codes.length ≠ l.length ∨ (codes.any fun c => !inB c (-1) 256) = true then 5 else 0
theorem two (P Q : Prop) : ¬ P ∨ (P ∧ ¬ Q) ∨ (P ∧ Q) := by
  by_cases h : P <;> by_cases h2 : Q <;> simp [h, h2]
set_option maxRecDepth 100000 in
set_option maxHeartbeats 1000000 in
theorem holds_c {W : World} {F : Snap} {cs : List Res} (w : World) {A2 : Option Addr} {cap2 : Nat} {codes : List Int} (e : E) (h : St W F cs w) (hR : RdW W F cs Vi A2 codes) (h0 : 0 ≤ e.st ∧ e.st < codes.length) : Calls Try.prog 29 #[.agg #[Vi e.st, Vi e.kd], .slice A2 codes.length cap2] w fun r w' => r = .returned (.bool (holdsM e codes)) ∧ St W F cs w'  := by
  refine enter (P := Try.prog) (args := [.agg #[Vi e.st, Vi e.kd], .slice A2 codes.length cap2]) Try.func29 rfl rfl rfl ?_
  obtain ⟨ad, rfl, hrd⟩ := hR.at1 (by omega)
  refine WC.seq ?_
  refine WC.reg ?_
  refine WL.box rfl h rfl ?_
  intro b2 w1 h1
  refine WL.v (Runs.assign rfl) rfl ?_
  refine WL.nil ?_
  refine WN.thn ?_
  refine WC.seq ?_
  refine WC.reg ?_
  refine WL.v (Runs.move rfl) rfl ?_
  refine WL.v (Runs.fld fld40_0 rfl) rfl ?_
  refine WL.v (Runs.load1 Try.underlying3 rfl rfl (h1.ocell (i := 0) rfl rfl)) rfl ?_
  refine WL.v (Runs.lidxN Try.underlying28 inf3 rfl rfl (n := e.st.toNat) (by omega) (by omega)) rfl ?_
  refine WL.v (Runs.load1 Try.underlying3 rfl rfl (hrd _ (h1.drop 0) e.st.toNat 0 (by omega))) rfl ?_
  refine WL.v (Runs.assign rfl) rfl ?_
  refine WL.nil ?_
  refine WN.thn ?_
  refine WC.seq ?_
  refine WC.seq ?_
  refine WC.reg ?_
  refine WL.v (Runs.fld fld40_1 rfl) rfl ?_
  refine WL.v (Runs.load1 Try.underlying3 rfl rfl (h1.ocell (i := 0) rfl rfl)) rfl ?_
  refine WL.nil ?_
  refine WN.thn ?_
  refine WC.block ?_
  refine WC.seq ?_
  refine WC.reg ?_
  refine WL.v (Runs.eql rfl rfl) rfl ?_
  refine WL.v (Runs.assign rfl) rfl ?_
  refine WL.nil ?_
  refine WN.thn ?_
  refine WC.cond rfl (fun c2 => ?_) (fun c2 => ?_)
  · try simp only [decide_eq_true_eq, decide_eq_false_iff_not, Bool.not_eq_true', Bool.not_eq_false', Bool.and_eq_true, Int.not_lt, Int.not_le] at c2
    first
    | (exfalso; omega)
    | skip
      refine WC.seq ?_
      refine WC.reg ?_
      refine WL.v (Runs.move rfl) rfl ?_
      refine WL.v (Runs.eql rfl rfl) rfl ?_
      refine WL.v (Runs.assign rfl) rfl ?_
      refine WL.nil ?_
      refine WN.thn ?_
      refine WC.ret ?_
      refine ret1 rfl rfl ⟨?_, h1.drop 0⟩
      unfold holdsM
      rw [if_pos c2]
  · try simp only [decide_eq_true_eq, decide_eq_false_iff_not, Bool.not_eq_true', Bool.not_eq_false', Bool.and_eq_true, Int.not_lt, Int.not_le] at c2
    first
    | (exfalso; omega)
    | skip
      refine WC.seq ?_
      refine WC.reg ?_
      refine WL.v (Runs.eql rfl rfl) rfl ?_
      refine WL.v (Runs.assign rfl) rfl ?_
      refine WL.nil ?_
      refine WN.thn ?_
      refine WC.cond rfl (fun c3 => ?_) (fun c3 => ?_)
      · try simp only [decide_eq_true_eq, decide_eq_false_iff_not, Bool.not_eq_true', Bool.not_eq_false', Bool.and_eq_true, Int.not_lt, Int.not_le] at c3
        first
        | (exfalso; omega)
        | skip
          refine WC.seq ?_
          refine WC.reg ?_
          refine WL.v (Runs.move rfl) rfl ?_
          refine WL.v (Runs.neq rfl rfl) rfl ?_
          refine WL.v (Runs.assign rfl) rfl ?_
          refine WL.nil ?_
          refine WN.thn ?_
          refine WC.ret ?_
          refine ret1 rfl rfl ⟨?_, h1.drop 0⟩
          unfold holdsM
          rw [if_neg c2, if_pos c3]
      · try simp only [decide_eq_true_eq, decide_eq_false_iff_not, Bool.not_eq_true', Bool.not_eq_false', Bool.and_eq_true, Int.not_lt, Int.not_le] at c3
        first
        | (exfalso; omega)
        | skip
          refine WC.skip ?_
          refine WN.blk ?_
          refine WN.thn ?_
          refine WC.seq ?_
          refine WC.reg ?_
          refine WL.v (Runs.move rfl) rfl ?_
          refine WL.call can23 rfl rfl (in_c _ (codes.getD e.st.toNat 0) 1 255 h1) ?_
          rintro _ w4 ⟨rfl, h4⟩
          refine ⟨_, rfl, ?_⟩
          refine WL.v (Runs.assign rfl) rfl ?_
          refine WL.nil ?_
          refine WN.thn ?_
          refine WC.ret ?_
          refine ret1 rfl rfl ⟨?_, h4.drop 0⟩
          unfold holdsM
          rw [if_neg c2, if_neg c3]
set_option maxRecDepth 100000 in
set_option maxHeartbeats 1000000 in
theorem qholds_c {W : World} {F : Snap} {cs : List Res} (w : World) {A2 : Option Addr} {cap2 : Nat} {codes : List Int} (e : E) (h : St W F cs w) (hR : RdW W F cs Vi A2 codes) (h0 : 0 ≤ e.st ∧ e.st < codes.length) : Calls Try.prog 31 #[.agg #[Vi e.st, Vi e.kd], .slice A2 codes.length cap2] w fun r w' => r = .returned (.bool (holdsM e codes)) ∧ St W F cs w'  := by
  refine enter (P := Try.prog) (args := [.agg #[Vi e.st, Vi e.kd], .slice A2 codes.length cap2]) Try.func31 rfl rfl rfl ?_
  obtain ⟨ad, rfl, hrd⟩ := hR.at1 (by omega)
  refine WC.seq ?_
  refine WC.reg ?_
  refine WL.box rfl h rfl ?_
  intro b2 w1 h1
  refine WL.v (Runs.assign rfl) rfl ?_
  refine WL.nil ?_
  refine WN.thn ?_
  refine WC.seq ?_
  refine WC.reg ?_
  refine WL.v (Runs.move rfl) rfl ?_
  refine WL.v (Runs.fld fld40_0 rfl) rfl ?_
  refine WL.v (Runs.load1 Try.underlying3 rfl rfl (h1.ocell (i := 0) rfl rfl)) rfl ?_
  refine WL.v (Runs.lidxN Try.underlying28 inf3 rfl rfl (n := e.st.toNat) (by omega) (by omega)) rfl ?_
  refine WL.v (Runs.load1 Try.underlying3 rfl rfl (hrd _ (h1.drop 0) e.st.toNat 0 (by omega))) rfl ?_
  refine WL.v (Runs.assign rfl) rfl ?_
  refine WL.nil ?_
  refine WN.thn ?_
  refine WC.seq ?_
  refine WC.seq ?_
  refine WC.reg ?_
  refine WL.v (Runs.fld fld40_1 rfl) rfl ?_
  refine WL.v (Runs.load1 Try.underlying3 rfl rfl (h1.ocell (i := 0) rfl rfl)) rfl ?_
  refine WL.nil ?_
  refine WN.thn ?_
  refine WC.block ?_
  refine WC.seq ?_
  refine WC.reg ?_
  refine WL.v (Runs.eql rfl rfl) rfl ?_
  refine WL.v (Runs.assign rfl) rfl ?_
  refine WL.nil ?_
  refine WN.thn ?_
  refine WC.cond rfl (fun c2 => ?_) (fun c2 => ?_)
  · try simp only [decide_eq_true_eq, decide_eq_false_iff_not, Bool.not_eq_true', Bool.not_eq_false', Bool.and_eq_true, Int.not_lt, Int.not_le] at c2
    first
    | (exfalso; omega)
    | skip
      refine WC.seq ?_
      refine WC.reg ?_
      refine WL.v (Runs.move rfl) rfl ?_
      refine WL.v (Runs.eql rfl rfl) rfl ?_
      refine WL.v (Runs.assign rfl) rfl ?_
      refine WL.nil ?_
      refine WN.thn ?_
      refine WC.ret ?_
      refine ret1 rfl rfl ⟨?_, h1.drop 0⟩
      unfold holdsM
      rw [if_pos c2]
  · try simp only [decide_eq_true_eq, decide_eq_false_iff_not, Bool.not_eq_true', Bool.not_eq_false', Bool.and_eq_true, Int.not_lt, Int.not_le] at c2
    first
    | (exfalso; omega)
    | skip
      refine WC.seq ?_
      refine WC.reg ?_
      refine WL.v (Runs.eql rfl rfl) rfl ?_
      refine WL.v (Runs.assign rfl) rfl ?_
      refine WL.nil ?_
      refine WN.thn ?_
      refine WC.cond rfl (fun c3 => ?_) (fun c3 => ?_)
      · try simp only [decide_eq_true_eq, decide_eq_false_iff_not, Bool.not_eq_true', Bool.not_eq_false', Bool.and_eq_true, Int.not_lt, Int.not_le] at c3
        first
        | (exfalso; omega)
        | skip
          refine WC.seq ?_
          refine WC.reg ?_
          refine WL.v (Runs.move rfl) rfl ?_
          refine WL.v (Runs.neq rfl rfl) rfl ?_
          refine WL.v (Runs.assign rfl) rfl ?_
          refine WL.nil ?_
          refine WN.thn ?_
          refine WC.ret ?_
          refine ret1 rfl rfl ⟨?_, h1.drop 0⟩
          unfold holdsM
          rw [if_neg c2, if_pos c3]
      · try simp only [decide_eq_true_eq, decide_eq_false_iff_not, Bool.not_eq_true', Bool.not_eq_false', Bool.and_eq_true, Int.not_lt, Int.not_le] at c3
        first
        | (exfalso; omega)
        | skip
          refine WC.skip ?_
          refine WN.blk ?_
          refine WN.thn ?_
          refine WC.seq ?_
          rcases two ((codes.getD e.st.toNat 0) ≥ 1) ((codes.getD e.st.toNat 0) ≤ 255) with n0 | ⟨y0, n1⟩ | ⟨y0, y1⟩
          · skip
            refine WC.reg ?_
            refine WL.v (Runs.move rfl) rfl ?_
            refine WL.v (Runs.boolT (c := false) (Runs.geq rfl rfl) (decide_eq_false n0)) rfl ?_
            refine WL.v (Runs.move rfl) rfl ?_
            refine WL.goff rfl rfl rfl rfl ?_
            refine WL.goff rfl rfl rfl rfl ?_
            refine WL.v (Runs.pick rfl rfl rfl) rfl ?_
            refine WL.v (Runs.assign rfl) rfl ?_
            refine WL.nil ?_
            refine WN.thn ?_
            refine WC.ret ?_
            refine ret1 rfl rfl ⟨?_, h1.drop 0⟩
            unfold holdsM
            rw [if_neg c2, if_neg c3, inB_f (by omega)]; rfl
          · skip
            refine WC.reg ?_
            refine WL.v (Runs.move rfl) rfl ?_
            refine WL.v (Runs.boolT (c := true) (Runs.geq rfl rfl) (decide_eq_true y0)) rfl ?_
            refine WL.v (Runs.move rfl) rfl ?_
            refine WL.gon rfl rfl rfl ?_
            refine WL.v (Runs.move rfl) rfl ?_
            refine WL.gon rfl rfl rfl ?_
            refine WL.v (Runs.boolT (c := false) (Runs.leq rfl rfl) (decide_eq_false n1)) rfl ?_
            refine WL.v (Runs.pick rfl rfl rfl) rfl ?_
            refine WL.v (Runs.assign rfl) rfl ?_
            refine WL.nil ?_
            refine WN.thn ?_
            refine WC.ret ?_
            refine ret1 rfl rfl ⟨?_, h1.drop 0⟩
            unfold holdsM
            rw [if_neg c2, if_neg c3, inB_f (by omega)]; rfl
          · skip
            refine WC.reg ?_
            refine WL.v (Runs.move rfl) rfl ?_
            refine WL.v (Runs.boolT (c := true) (Runs.geq rfl rfl) (decide_eq_true y0)) rfl ?_
            refine WL.v (Runs.move rfl) rfl ?_
            refine WL.gon rfl rfl rfl ?_
            refine WL.v (Runs.move rfl) rfl ?_
            refine WL.gon rfl rfl rfl ?_
            refine WL.v (Runs.boolT (c := true) (Runs.leq rfl rfl) (decide_eq_true y1)) rfl ?_
            refine WL.v (Runs.pick rfl rfl rfl) rfl ?_
            refine WL.v (Runs.assign rfl) rfl ?_
            refine WL.nil ?_
            refine WN.thn ?_
            refine WC.ret ?_
            refine ret1 rfl rfl ⟨?_, h1.drop 0⟩
            unfold holdsM
            rw [if_neg c2, if_neg c3, inB_t ⟨y0, y1⟩]; rfl
set_option maxRecDepth 100000 in
set_option maxHeartbeats 1000000 in
theorem with1_c {W : World} {F : Snap} {cs : List Res} (w : World) (n : Int) (h : St W F cs w) : Calls Try.prog 38 #[Vi n] w fun r w' => r = .returned (.bool (!inB n (-1) 256)) ∧ St W F cs w'  := by
  refine enter (P := Try.prog) (args := [Vi n]) Try.func38 rfl rfl rfl ?_
  refine WC.seq ?_
  refine WC.reg ?_
  refine WL.v (Runs.assign rfl) rfl ?_
  refine WL.nil ?_
  refine WN.thn ?_
  refine WC.seq ?_
  refine WC.reg ?_
  refine WL.v (Runs.move rfl) rfl ?_
  refine WL.call can23 rfl rfl (in_c _ n (-1) 256 h) ?_
  rintro _ w1 ⟨rfl, h1⟩
  refine ⟨_, rfl, ?_⟩
  refine WL.v (Runs.not rfl) rfl ?_
  refine WL.v (Runs.assign rfl) rfl ?_
  refine WL.nil ?_
  refine WN.thn ?_
  refine WC.ret ?_
  exact ret1 rfl rfl ⟨rfl, h1⟩
set_option maxRecDepth 100000 in
set_option maxHeartbeats 1000000 in
theorem idxI_c {W : World} {F : Snap} {cs : List Res} (w : World) {A2 : Option Addr} {cap2 : Nat} {codes : List Int} (g : FuncId) (pr : Int → Bool) (hg : B.Can Try.prog g) (h : St W F cs w) (hR : RdS (Kd.one Vi) F A2 codes) (hn : codes.length ≤ 100000) (hcl : ∀ w n, n ∈ codes → St W F cs w → Calls Try.prog g #[Vi n] w fun e w' => e = .returned (.bool (pr n)) ∧ St W F cs w') : Calls Try.prog 41 #[.slice A2 codes.length cap2, .func (.func g) #[] #[]] w fun e w' => (∃ z : Int, e = .returned (Vi z) ∧ decide (0 ≤ z) = codes.any pr) ∧ St W F cs w'  := by
  refine enter (P := Try.prog) (args := [.slice A2 codes.length cap2, .func (.func g) #[] #[]]) Try.func41 rfl rfl rfl ?_
  refine WC.seq ?_
  refine WC.reg ?_
  refine WL.v (Runs.assign rfl) rfl ?_
  refine WL.nil ?_
  refine WN.thn ?_
  refine WC.seq ?_
  refine WC.seq ?_
  refine WC.reg ?_
  refine WL.v (Runs.move rfl) rfl ?_
  refine WL.v (Runs.llen Try.underlying28 rfl rfl) rfl ?_
  refine WL.v (Runs.move rfl) rfl ?_
  refine WL.nil ?_
  refine WN.thn ?_
  refine WC.block ?_
  refine WC.loop (σ := Nat) (fun q_ => [(0, .slice A2 codes.length cap2), (1, .func (.func g) #[] #[]), (7, .int .i64 (codes.length : Int)), (8, .int .i64 (q_ : Int))]) (fun q_ w => q_ ≤ codes.length ∧ (∀ j, j < q_ → pr (codes.getD j 0) = false) ∧ St W F cs w) (fun q_ => codes.length - q_) (0) (by repeat (first | exact trivial | refine ⟨rfl, ?_⟩)) (⟨Nat.zero_le _, fun j hj => absurd hj (Nat.not_lt_zero _), h⟩) ?_
  rintro i w1 ⟨hi, hno, hL⟩
  try dsimp only at hi hno hL
  refine WC.sub (s := [(0, .slice A2 codes.length cap2), (1, .func (.func g) #[] #[]), (7, .int .i64 (codes.length : Int)), (8, .int .i64 (i : Int))]) (by repeat (first | exact trivial | refine ⟨rfl, ?_⟩)) ?_
  refine WC.seq ?_
  refine WC.reg ?_
  refine WL.v (Runs.lss rfl rfl) rfl ?_
  refine WL.nil ?_
  refine WN.thn ?_
  refine WC.seq ?_
  refine WC.cond rfl (fun c2 => ?_) (fun c2 => ?_)
  · try simp only [decide_eq_true_eq, decide_eq_false_iff_not, Bool.not_eq_true', Bool.not_eq_false', Bool.and_eq_true, Int.not_lt, Int.not_le] at c2
    first
    | (exfalso; omega)
    | skip
      refine WC.skip ?_
      refine WN.thn ?_
      refine WC.seq ?_
      refine WC.block ?_
      refine WC.seq ?_
      refine WC.reg ?_
      refine WL.v (Runs.move rfl) rfl ?_
      refine WL.v (Runs.assign rfl) rfl ?_
      refine WL.nil ?_
      refine WN.thn ?_
      refine WC.seq ?_
      obtain ⟨ad, rfl, hrd⟩ := rd1 hR (by omega)
      refine WC.reg ?_
      refine WL.v (Runs.move rfl) rfl ?_
      refine WL.v (Runs.move rfl) rfl ?_
      refine WL.v (Runs.move rfl) rfl ?_
      refine WL.v (Runs.lidxN Try.underlying28 inf3 rfl rfl (n := i) rfl (by omega)) rfl ?_
      refine WL.v (Runs.loadR (f := Vi) (0 : Int) hL hrd (n := i) (by omega) Try.underlying3 rfl rfl) rfl ?_
      refine WL.callv hg rfl rfl rfl (hcl _ _ (memD 0 (by omega)) hL) ?_
      rintro _ w3 ⟨rfl, h3⟩
      refine ⟨_, rfl, ?_⟩
      refine WL.nil ?_
      refine WN.thn ?_
      refine WC.cond rfl (fun c4 => ?_) (fun c4 => ?_)
      · try simp only [decide_eq_true_eq, decide_eq_false_iff_not, Bool.not_eq_true', Bool.not_eq_false', Bool.and_eq_true, Int.not_lt, Int.not_le] at c4
        first
        | (exfalso; omega)
        | skip
          refine WC.seq ?_
          refine WC.reg ?_
          refine WL.v (Runs.move rfl) rfl ?_
          refine WL.v (Runs.assign rfl) rfl ?_
          refine WL.nil ?_
          refine WN.thn ?_
          refine WC.ret ?_
          exact ret1 rfl rfl ⟨⟨_, rfl, by rw [decide_eq_true (Int.natCast_nonneg i), any_t (d := 0) (by omega) c4]⟩, h3⟩
      · try simp only [decide_eq_true_eq, decide_eq_false_iff_not, Bool.not_eq_true', Bool.not_eq_false', Bool.and_eq_true, Int.not_lt, Int.not_le] at c4
        first
        | (exfalso; omega)
        | skip
          refine WC.skip ?_
          refine WN.blk ?_
          refine WN.thn ?_
          refine WC.reg ?_
          refine WL.v (Runs.addn rfl rfl (by omega)) rfl ?_
          refine WL.v (Runs.move rfl) rfl ?_
          refine WL.nil ?_
          exact WN.again (i + 1) (by omega) ⟨rfl, rfl, rfl, rfl, trivial⟩ ⟨by omega, fun j hj => (by
            by_cases e : j = i
            · subst e; exact c4
            · exact hno j (by omega)), h3⟩
  · try simp only [decide_eq_true_eq, decide_eq_false_iff_not, Bool.not_eq_true', Bool.not_eq_false', Bool.and_eq_true, Int.not_lt, Int.not_le] at c2
    first
    | (exfalso; omega)
    | skip
      refine WC.exit ?_
      refine WX.thn ?_
      refine WX.cut ?_
      refine WX.hit ?_
      refine WN.thn ?_
      refine WC.seq ?_
      refine WC.reg ?_
      refine WL.v (Runs.assign rfl) rfl ?_
      refine WL.nil ?_
      refine WN.thn ?_
      refine WC.ret ?_
      exact ret1 rfl rfl ⟨⟨_, rfl, by rw [any_f (d := 0) (fun j hj => hno j (by omega))]; rfl⟩, hL⟩
set_option maxRecDepth 100000 in
set_option maxHeartbeats 1000000 in
theorem cfI_c {W : World} {F : Snap} {cs : List Res} (w : World) {A2 : Option Addr} {cap2 : Nat} {codes : List Int} (g : FuncId) (pr : Int → Bool) (hg : B.Can Try.prog g) (h : St W F cs w) (hR : RdS (Kd.one Vi) F A2 codes) (hn : codes.length ≤ 100000) (hcl : ∀ w n, n ∈ codes → St W F cs w → Calls Try.prog g #[Vi n] w fun e w' => e = .returned (.bool (pr n)) ∧ St W F cs w') : Calls Try.prog 37 #[.slice A2 codes.length cap2, .func (.func g) #[] #[]] w fun e w' => e = .returned (.bool (codes.any pr)) ∧ St W F cs w'  := by
  refine enter (P := Try.prog) (args := [.slice A2 codes.length cap2, .func (.func g) #[] #[]]) Try.func37 rfl rfl rfl ?_
  refine WC.seq ?_
  refine WC.reg ?_
  refine WL.v (Runs.assign rfl) rfl ?_
  refine WL.nil ?_
  refine WN.thn ?_
  refine WC.seq ?_
  refine WC.reg ?_
  refine WL.v (Runs.move rfl) rfl ?_
  refine WL.v (Runs.move rfl) rfl ?_
  refine WL.call can41 rfl rfl (idxI_c _ g pr hg h hR hn hcl) ?_
  rintro _ w1 ⟨⟨k, rfl, hk⟩, h1⟩
  refine ⟨_, rfl, ?_⟩
  refine WL.v (Runs.geq rfl rfl) rfl ?_
  refine WL.v (Runs.assign rfl) rfl ?_
  refine WL.nil ?_
  refine WN.thn ?_
  refine WC.ret ?_
  exact ret1 rfl rfl ⟨by rw [← hk], h1⟩
set_option maxRecDepth 100000 in
set_option maxHeartbeats 1000000 in
theorem idxE_c {W : World} {F : Snap} {cs : List Res} (w : World) {A : Option Addr} {cap : Nat} {es : List E} (g : FuncId) (cp : Value) (pr : E → Bool) (hg : B.Can Try.prog g) (h : St W F cs w) (hR : RdS KE F A es) (hn : es.length ≤ 100000) (hcl : ∀ w e, e ∈ es → St W F cs w → Calls Try.prog g #[.agg #[Vi e.st, Vi e.kd], cp] w fun r w' => r = .returned (.bool (pr e)) ∧ St W F cs w') : Calls Try.prog 39 #[.slice A es.length cap, .func (.func g) #[] #[cp]] w fun e w' => (∃ z : Int, e = .returned (Vi z) ∧ decide (0 ≤ z) = es.any pr) ∧ St W F cs w'  := by
  refine enter (P := Try.prog) (args := [.slice A es.length cap, .func (.func g) #[] #[cp]]) Try.func39 rfl rfl rfl ?_
  refine WC.seq ?_
  refine WC.reg ?_
  refine WL.v (Runs.assign rfl) rfl ?_
  refine WL.nil ?_
  refine WN.thn ?_
  refine WC.seq ?_
  refine WC.seq ?_
  refine WC.reg ?_
  refine WL.v (Runs.move rfl) rfl ?_
  refine WL.v (Runs.llen Try.underlying36 rfl rfl) rfl ?_
  refine WL.v (Runs.move rfl) rfl ?_
  refine WL.nil ?_
  refine WN.thn ?_
  refine WC.block ?_
  refine WC.loop (σ := Nat) (fun q_ => [(0, .slice A es.length cap), (1, .func (.func g) #[] #[cp]), (7, .int .i64 (es.length : Int)), (8, .int .i64 (q_ : Int))]) (fun q_ w => q_ ≤ es.length ∧ (∀ j, j < q_ → pr (es.getD j E0) = false) ∧ St W F cs w) (fun q_ => es.length - q_) (0) (by repeat (first | exact trivial | refine ⟨rfl, ?_⟩)) (⟨Nat.zero_le _, fun j hj => absurd hj (Nat.not_lt_zero _), h⟩) ?_
  rintro i w1 ⟨hi, hno, hL⟩
  try dsimp only at hi hno hL
  refine WC.sub (s := [(0, .slice A es.length cap), (1, .func (.func g) #[] #[cp]), (7, .int .i64 (es.length : Int)), (8, .int .i64 (i : Int))]) (by repeat (first | exact trivial | refine ⟨rfl, ?_⟩)) ?_
  refine WC.seq ?_
  refine WC.reg ?_
  refine WL.v (Runs.lss rfl rfl) rfl ?_
  refine WL.nil ?_
  refine WN.thn ?_
  refine WC.seq ?_
  refine WC.cond rfl (fun c2 => ?_) (fun c2 => ?_)
  · try simp only [decide_eq_true_eq, decide_eq_false_iff_not, Bool.not_eq_true', Bool.not_eq_false', Bool.and_eq_true, Int.not_lt, Int.not_le] at c2
    first
    | (exfalso; omega)
    | skip
      refine WC.skip ?_
      refine WN.thn ?_
      refine WC.seq ?_
      refine WC.block ?_
      refine WC.seq ?_
      refine WC.reg ?_
      refine WL.v (Runs.move rfl) rfl ?_
      refine WL.v (Runs.assign rfl) rfl ?_
      refine WL.nil ?_
      refine WN.thn ?_
      refine WC.seq ?_
      obtain ⟨ad, rfl⟩ := rdA hR (by omega)
      refine WC.reg ?_
      refine WL.v (Runs.move rfl) rfl ?_
      refine WL.v (Runs.move rfl) rfl ?_
      refine WL.v (Runs.move rfl) rfl ?_
      refine WL.v (Runs.lidxK Try.underlying36 inf40 rfl rfl (n := i) rfl (by omega)) rfl ?_
      refine WL.v (Runs.edgeA hL hR rfl (by omega) Try.underlying40 rfl inf40 rfl) rfl ?_
      refine WL.callv hg rfl rfl rfl (hcl _ (es.getD i E0) (memD E0 (by omega)) hL) ?_
      rintro _ w3 ⟨rfl, h3⟩
      refine ⟨_, rfl, ?_⟩
      refine WL.nil ?_
      refine WN.thn ?_
      refine WC.cond rfl (fun c4 => ?_) (fun c4 => ?_)
      · try simp only [decide_eq_true_eq, decide_eq_false_iff_not, Bool.not_eq_true', Bool.not_eq_false', Bool.and_eq_true, Int.not_lt, Int.not_le] at c4
        first
        | (exfalso; omega)
        | skip
          refine WC.seq ?_
          refine WC.reg ?_
          refine WL.v (Runs.move rfl) rfl ?_
          refine WL.v (Runs.assign rfl) rfl ?_
          refine WL.nil ?_
          refine WN.thn ?_
          refine WC.ret ?_
          exact ret1 rfl rfl ⟨⟨_, rfl, by rw [decide_eq_true (Int.natCast_nonneg i), any_t (d := E0) (by omega) c4]⟩, h3⟩
      · try simp only [decide_eq_true_eq, decide_eq_false_iff_not, Bool.not_eq_true', Bool.not_eq_false', Bool.and_eq_true, Int.not_lt, Int.not_le] at c4
        first
        | (exfalso; omega)
        | skip
          refine WC.skip ?_
          refine WN.blk ?_
          refine WN.thn ?_
          refine WC.reg ?_
          refine WL.v (Runs.addn rfl rfl (by omega)) rfl ?_
          refine WL.v (Runs.move rfl) rfl ?_
          refine WL.nil ?_
          exact WN.again (i + 1) (by omega) ⟨rfl, rfl, rfl, rfl, trivial⟩ ⟨by omega, fun j hj => (by
            by_cases e : j = i
            · subst e; exact c4
            · exact hno j (by omega)), h3⟩
  · try simp only [decide_eq_true_eq, decide_eq_false_iff_not, Bool.not_eq_true', Bool.not_eq_false', Bool.and_eq_true, Int.not_lt, Int.not_le] at c2
    first
    | (exfalso; omega)
    | skip
      refine WC.exit ?_
      refine WX.thn ?_
      refine WX.cut ?_
      refine WX.hit ?_
      refine WN.thn ?_
      refine WC.seq ?_
      refine WC.reg ?_
      refine WL.v (Runs.assign rfl) rfl ?_
      refine WL.nil ?_
      refine WN.thn ?_
      refine WC.ret ?_
      exact ret1 rfl rfl ⟨⟨_, rfl, by rw [any_f (d := E0) (fun j hj => hno j (by omega))]; rfl⟩, hL⟩
set_option maxRecDepth 100000 in
set_option maxHeartbeats 1000000 in
theorem cfE_c {W : World} {F : Snap} {cs : List Res} (w : World) {A : Option Addr} {cap : Nat} {es : List E} (g : FuncId) (cp : Value) (pr : E → Bool) (hg : B.Can Try.prog g) (h : St W F cs w) (hR : RdS KE F A es) (hn : es.length ≤ 100000) (hcl : ∀ w e, e ∈ es → St W F cs w → Calls Try.prog g #[.agg #[Vi e.st, Vi e.kd], cp] w fun r w' => r = .returned (.bool (pr e)) ∧ St W F cs w') : Calls Try.prog 34 #[.slice A es.length cap, .func (.func g) #[] #[cp]] w fun e w' => e = .returned (.bool (es.any pr)) ∧ St W F cs w'  := by
  refine enter (P := Try.prog) (args := [.slice A es.length cap, .func (.func g) #[] #[cp]]) Try.func34 rfl rfl rfl ?_
  refine WC.seq ?_
  refine WC.reg ?_
  refine WL.v (Runs.assign rfl) rfl ?_
  refine WL.nil ?_
  refine WN.thn ?_
  refine WC.seq ?_
  refine WC.reg ?_
  refine WL.v (Runs.move rfl) rfl ?_
  refine WL.v (Runs.move rfl) rfl ?_
  refine WL.call can39 rfl rfl (idxE_c _ g cp pr hg h hR hn hcl) ?_
  rintro _ w1 ⟨⟨k, rfl, hk⟩, h1⟩
  refine ⟨_, rfl, ?_⟩
  refine WL.v (Runs.geq rfl rfl) rfl ?_
  refine WL.v (Runs.assign rfl) rfl ?_
  refine WL.nil ?_
  refine WN.thn ?_
  refine WC.ret ?_
  exact ret1 rfl rfl ⟨by rw [← hk], h1⟩
end Dg
end Go.Proofs.Ytkfkdenikkadhaa
