/- The row of DagRuns. -/
import Derived.Test.YtkfkdenikkadhaaRows
import Derived.WalkKit
import Derived.ChangeOld
import Derived.Below
import Derived.ProofKit
import Derived.OpenShut
import Derived.ShutString
import Derived.Lib.SmallJoins
import Derived.ChangeArms
import Derived.Test.YtkfkdenikkadhaaBaseAB
import Derived.Test.YtkfkdenikkadhaaD26
namespace Go.Proofs.Ytkfkdenikkadhaa.dagRuns
open Go.ChangeShapes Go.WideShapes Go.ChangeAt Go.RowKit Go.Joins
set_option linter.unusedVariables false
set_option linter.unusedSimpArgs false
theorem own : ownKnob Try.prog.godebug = none := by kernel_rfl
theorem laidOut : laidOutB Try.prog = true := by kernel_rfl
theorem cI : Try.prog.cellsOf 3 = 1 := by kernel_rfl
theorem cL : Try.prog.cellsOf 36 = 1 := by kernel_rfl
theorem cE : Try.prog.cellsOf 40 = Dg.KE.sz := by kernel_rfl
theorem c4 : Try.prog.cellsOf 42 = 4 := by kernel_rfl
theorem cLs : Try.prog.cellsOf 22 = 1 := by kernel_rfl
theorem cLi : Try.prog.cellsOf 28 = 1 := by kernel_rfl
theorem cS : Try.prog.cellsOf 38 = Dg.KS.sz := by kernel_rfl
set_option maxHeartbeats 4000000 in
set_option maxRecDepth 100000 in
theorem lifted (os : Os) (started : os.Started) (H : Type) (enc : TypeId × Value → H) :
    ReturnsInHanded {} Try.checked os 6 .any (Rows.dagRunsSpec.pre6 enc Try.prog Try.f6 Rows.dagRunsRow.domain false) (Rows.dagRunsSpec.post enc Try.prog Try.f6 false true false false) := by
  refine returnsInHanded_of_change (C := Try.checked) own started (by kernel_rfl) Try.func6
    (ChangeSpec.witness6 (enc := enc) (C := Try.checked) false ⟨#[], #[.slice none 0 0, .slice none 0 0], []⟩ 8 (by kernel_rfl) (by kernel_rfl) (by kernel_rfl) (by kernel_rfl)) ?_
  intro W base args ds gs before hval0 hW hcnd _
  have hval : ∀ (j : Nat) t v, Try.f6.params[j]? = some t → args[j]? = some v → Value.okWide Try.prog W .any base t v := hval0
  have hW' := hW
  obtain ⟨p, q, hA0, hV, rfl, hfz, hnd⟩ := hW
  have hA : DataW.TrodAll enc Try.prog W 0 (fun _ => true) true Try.f6.params.toList args.toList ds p := hA0
  rw [Try.params6] at hA hval
  obtain ⟨v0, vs0, d0, ds0, p0, q0, hargs, rfl, rfl, h0, r0⟩ := trodAll_cons hA
  obtain ⟨v1, vs1, d1, ds1, p1, q1, rfl, rfl, rfl, h1, r1⟩ := trodAll_cons r0
  obtain ⟨rfl, rfl, rfl⟩ := trodAll_nil r1
  obtain rfl : args = #[v0, v1] := by cases args; simp_all
  obtain ⟨rfl, rfl⟩ := trodVars_none hV
  have k0 := h0
  have lt0 : ∀ x ∈ p0, x.block < W.heap.size := by obtain ⟨m, hm⟩ := k0; exact DataW.trod_lt m _ _ _ hm
  obtain ⟨A0, cap0, xs0, rfl, hR0, hx0, hc0, hm0⟩ : ∃ A cap xs, v0 = .slice A xs.length cap ∧ B.RdS (Dg.KS) (fun k => W.heap[k]?) A xs ∧ (∀ y ∈ xs, (fun _ => True) y) ∧ xs.length ≤ cap ∧ cap ≤ maxLen := by
    obtain ⟨a, l, c, rfl⟩ := okWide_slice Try.underlying22 (hval 0 22 v0 rfl rfl)
    obtain ⟨fuel, hf⟩ := h0
    obtain ⟨A, cap, xs, hcs, h2, h3, h4, h5⟩ := B.open_rd (Dg.KS) (fun _ => True) Try.underlying22 (by kernel_rfl) (fun n cs x hl hx => by
      obtain ⟨a0, e0, _⟩ := B.fld_int (i := 0) hx Try.underlying38 rfl cI Try.underlying3
      obtain ⟨a1, e1, _⟩ := B.fld_int (i := 1) hx Try.underlying38 rfl cI Try.underlying3
      obtain ⟨a2, e2, _⟩ := B.fld_int (i := 2) hx Try.underlying38 rfl cI Try.underlying3
      obtain ⟨a3, e3, _⟩ := B.fld_int (i := 3) hx Try.underlying38 rfl cI Try.underlying3
      obtain ⟨A4, c4, es, e4, hE, _, _, _⟩ := B.fld_rd (i := 4) Dg.KE (fun _ => True) hx Try.underlying38 rfl cL Try.underlying36 cE (fun n cs x hl hx => by
        obtain ⟨e0, g0, _⟩ := B.fld_int (i := 0) hx Try.underlying40 rfl cI Try.underlying3
        obtain ⟨e1, g1, _⟩ := B.fld_int (i := 1) hx Try.underlying40 rfl cI Try.underlying3
        exact ⟨⟨e0, e1⟩, B.two_ hl g0 g1, trivial⟩)
      exact ⟨⟨a0, a1, a2, a3, es⟩, ⟨A4, c4, B.five_ hl e0 e1 e2 e3 e4, hE⟩, trivial⟩) hf
    simp [Value.cells] at hcs
    obtain ⟨rfl, rfl, rfl⟩ := hcs
    exact ⟨_, _, xs, rfl, h2, h3, h4, h5⟩
  have k1 := h1
  have lt1 : ∀ x ∈ p1, x.block < W.heap.size := by obtain ⟨m, hm⟩ := k1; exact DataW.trod_lt m _ _ _ hm
  obtain ⟨A1, cap1, xs1, rfl, hR1, hx1, hc1, hm1⟩ : ∃ A cap xs, v1 = .slice A xs.length cap ∧ B.RdS (B.Kd.one Dg.Vi) (fun k => W.heap[k]?) A xs ∧ (∀ y ∈ xs, (fun _ => True) y) ∧ xs.length ≤ cap ∧ cap ≤ maxLen := by
    obtain ⟨a, l, c, rfl⟩ := okWide_slice Try.underlying28 (hval 1 28 v1 rfl rfl)
    obtain ⟨fuel, hf⟩ := h1
    obtain ⟨A, cap, xs, hcs, h2, h3, h4, h5⟩ := B.open_rd (B.Kd.one Dg.Vi) (fun _ => True) Try.underlying28 (by kernel_rfl) (fun n cs x hl hx => by
      obtain ⟨m, h1, _, _⟩ := DataW.trod_int Try.underlying3 hx
      exact ⟨m, h1, trivial⟩) hf
    simp [Value.cells] at hcs
    obtain ⟨rfl, rfl, rfl⟩ := hcs
    exact ⟨_, _, xs, rfl, h2, h3, h4, h5⟩
  clear hA0 hval0
  refine (Dg.runs_law (cs := []) W (B.St.start W) hR0 (Nat.le_trans hc0 hm0) hR1 (Nat.le_trans hc1 hm1)).mono fun e W' ⟨he, hs⟩ => ?_
  have bel := hs.bel
  subst he
  exact ⟨_, rfl, _, _, _, [], _, [], hW', trodAll_mk1 (shut_bool Try.underlying4 _), (trodAll_cons_mk (Below.trod laidOut (by kernel_rfl) (of_decide_eq_true (by kernel_rfl)) k0 bel lt0) (trodAll_cons_mk (Below.trod laidOut (by kernel_rfl) (of_decide_eq_true (by kernel_rfl)) k1 bel lt1) trodAll_mk0)), rfl, bel.frame _, fun h => by cases h⟩

theorem over : Rows.dagRunsRow.holds Try.pinned (OpenSpec.ofChange Rows.dagRunsSpec) :=
  OpenClaim.holds_of_wide 6 Try.f6 rfl rfl rfl rfl rfl rfl rfl ⟨rfl, rfl, rfl, rfl, rfl⟩ rfl rfl rfl rfl rfl (by kernel_rfl) Try.func6 (by kernel_rfl)
    (of_decide_eq_true (by kernel_rfl)) (by unfold Func.isWrapper; first | (rw [if_pos (by decide +kernel)]; kernel_rfl) | (rw [if_neg (by decide +kernel)]; exact ⟨rfl, rfl⟩))
    (fun os started H enc _ => lifted os started H enc)

theorem proved : Rows.DagRunsSaid := over
#print axioms proved
end Go.Proofs.Ytkfkdenikkadhaa.dagRuns
