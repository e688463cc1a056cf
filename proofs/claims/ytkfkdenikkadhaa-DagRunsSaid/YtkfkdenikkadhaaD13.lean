/- Walks of package dag: whether an edge fails; copies of codes. -/
import Derived.Test.YtkfkdenikkadhaaD12
namespace Go.Proofs.Ytkfkdenikkadhaa
open Go Go.RowKit B
set_option linter.unusedVariables false
set_option linter.unusedSimpArgs false
namespace Dg


def failM (e : E) (codes : List Int) : Bool := !decide (codes.getD e.st.toNat 0 = -1) && !holdsM e codes
theorem RdW.push_ {α : Type} {W : World} {F : Snap} {cs : List Res} {f : α → Value} {A : Option Addr} {xs : List α} {r : Res} (h : RdW W F cs f A xs) : RdW W F (r :: cs) f A xs := by
  rcases h with h | ⟨ad, hA, h⟩
  · exact .inl h
  · exact .inr ⟨ad, hA, fun w hs => h w (hs.drop 0)⟩
set_option maxRecDepth 100000 in
set_option maxHeartbeats 1000000 in
theorem settle1_c {W : World} {F : Snap} {cs : List Res} (w : World) {A2 : Option Addr} {cap2 : Nat} {codes : List Int} {i cb : Nat} (e : E) (h : St W F cs w) (hi : cs[i]? = some [(cb, .cells #[.slice A2 codes.length cap2] 28 (0, 0))]) (hR : RdW W F cs Vi A2 codes) (h0 : 0 ≤ e.st ∧ e.st < codes.length) : Calls Try.prog 33 #[.agg #[Vi e.st, Vi e.kd], .pointer (some ⟨cb, 0, none⟩)] w fun r w' => r = .returned (.bool (failM e codes)) ∧ St W F cs w'  := by
  refine enter (P := Try.prog) (args := [.agg #[Vi e.st, Vi e.kd], .pointer (some ⟨cb, 0, none⟩)]) Try.func33 rfl rfl rfl ?_
  obtain ⟨ad, rfl, hrd⟩ := hR.at1 (by omega)
  refine WC.seq ?_
  refine WC.reg ?_
  refine WL.box rfl h rfl ?_
  intro b2 w1 h1
  refine WL.v (Runs.assign rfl) rfl ?_
  refine WL.nil ?_
  refine WN.thn ?_
  refine WC.seq ?_
  by_cases hx : (codes.getD e.st.toNat 0) = -1
  · skip
    refine WC.reg ?_
    refine WL.v (Runs.load1 Try.underlying28 rfl rfl (h1.ocell (i := i + 1) hi rfl)) rfl ?_
    refine WL.v (Runs.fld fld40_0 rfl) rfl ?_
    refine WL.v (Runs.load1 Try.underlying3 rfl rfl (h1.ocell (i := 0) rfl rfl)) rfl ?_
    refine WL.v (Runs.lidxN Try.underlying28 inf3 rfl rfl (n := e.st.toNat) (by omega) (by omega)) rfl ?_
    refine WL.v (Runs.load1 Try.underlying3 rfl rfl (hrd _ (h1.drop 0) e.st.toNat 0 (by omega))) rfl ?_
    refine WL.v (Runs.boolT (c := false) (Runs.neq rfl rfl) (by rw [decide_eq_true hx]; rfl)) rfl ?_
    refine WL.v (Runs.move rfl) rfl ?_
    refine WL.goff rfl rfl rfl rfl ?_
    refine WL.goff rfl rfl rfl rfl ?_
    refine WL.goff rfl rfl rfl rfl ?_
    refine WL.goff rfl rfl rfl rfl ?_
    refine WL.v (Runs.pick rfl rfl rfl) rfl ?_
    refine WL.v (Runs.assign rfl) rfl ?_
    refine WL.nil ?_
    refine WN.thn ?_
    refine WC.ret ?_
    refine ret1 rfl rfl ⟨?_, h1.drop 0⟩
    unfold failM
    rw [decide_eq_true hx]
    rfl
  · skip
    refine WC.reg ?_
    refine WL.v (Runs.load1 Try.underlying28 rfl rfl (h1.ocell (i := i + 1) hi rfl)) rfl ?_
    refine WL.v (Runs.fld fld40_0 rfl) rfl ?_
    refine WL.v (Runs.load1 Try.underlying3 rfl rfl (h1.ocell (i := 0) rfl rfl)) rfl ?_
    refine WL.v (Runs.lidxN Try.underlying28 inf3 rfl rfl (n := e.st.toNat) (by omega) (by omega)) rfl ?_
    refine WL.v (Runs.load1 Try.underlying3 rfl rfl (hrd _ (h1.drop 0) e.st.toNat 0 (by omega))) rfl ?_
    refine WL.v (Runs.boolT (c := true) (Runs.neq rfl rfl) (by rw [decide_eq_false hx]; rfl)) rfl ?_
    refine WL.v (Runs.move rfl) rfl ?_
    refine WL.gon rfl rfl rfl ?_
    refine WL.v (Runs.loadAll h1 0 rfl Try.underlying40 rfl inf40 rfl rfl) rfl ?_
    refine WL.gon rfl rfl rfl ?_
    refine WL.v (Runs.load1 Try.underlying28 rfl rfl (h1.ocell (i := i + 1) hi rfl)) rfl ?_
    refine WL.gon rfl rfl rfl ?_
    refine WL.call can29 rfl rfl (holds_c _ e h1 (RdW.push_ hR) h0) ?_
    rintro _ w2 ⟨rfl, h2⟩
    refine ⟨_, rfl, ?_⟩
    refine WL.gon rfl rfl rfl ?_
    refine WL.v (Runs.not rfl) rfl ?_
    refine WL.v (Runs.pick rfl rfl rfl) rfl ?_
    refine WL.v (Runs.assign rfl) rfl ?_
    refine WL.nil ?_
    refine WN.thn ?_
    refine WC.ret ?_
    refine ret1 rfl rfl ⟨?_, h2.drop 0⟩
    unfold failM
    rw [decide_eq_false hx]
    rfl
set_option maxRecDepth 100000 in
set_option maxHeartbeats 1000000 in
theorem clone_c {W : World} {F : Snap} {cs : List Res} (w : World) {A2 : Option Addr} {cap2 : Nat} {codes : List Int} (h : St W F cs w) (hR : RdS (Kd.one Vi) F A2 codes) (h0 : 0 < codes.length) (hn : codes.length ≤ 100000) : Calls Try.prog 32 #[.slice A2 codes.length cap2] w fun e w' => ∃ r v, e = .returned v ∧ Row 3 Vi r v codes ∧ St W F (r :: cs) w'  := by
  refine enter (P := Try.prog) (args := [.slice A2 codes.length cap2]) Try.func32 rfl rfl rfl ?_
  obtain ⟨ad, rfl, hrd⟩ := rd1 hR h0
  refine WC.seq ?_
  refine WC.reg ?_
  refine WL.v (Runs.assign rfl) rfl ?_
  refine WL.nil ?_
  refine WN.thn ?_
  refine WC.seq ?_
  refine WC.seq ?_
  refine WC.reg ?_
  refine WL.v (Runs.move rfl) rfl ?_
  refine WL.v (Runs.nileql Try.underlying28 rfl rfl) rfl ?_
  refine WL.nil ?_
  refine WN.thn ?_
  refine WC.condF rfl (rfl) ?_
  refine WC.skip ?_
  refine WN.thn ?_
  refine WC.seq ?_
  refine WC.reg ?_
  refine WL.lit (vs := (([] : List Int)).map Vi) h rfl Try.underlying28 inf3 rfl rfl rfl rfl rfl ?_
  intro lit5 w1 h1
  refine WL.v (Runs.move rfl) rfl ?_
  refine WL.app (ys := codes) 0 h1 rfl rfl rfl rfl Try.underlying28 Try.underlying28 (.inr ⟨_, rfl⟩) inf3 rfl (Row.lit (xs := ([] : List Int)) rfl) (Src.rd hR h1 rfl (fun _ => rfl)) rfl rfl (by first | omega | (simp []; done) | (simp []; omega)) (by first | omega | (simp []; done) | (simp []; omega)) ?_
  intro r2 v2 w3 hr2 h3
  simp only [List.set_cons_zero, List.set_cons_succ] at h3
  refine WL.v (Runs.assign rfl) rfl ?_
  refine WL.nil ?_
  refine WN.thn ?_
  refine WC.ret ?_
  refine ret1 rfl rfl ⟨_, _, rfl, hr2, h3⟩
end Dg
end Go.Proofs.Ytkfkdenikkadhaa
