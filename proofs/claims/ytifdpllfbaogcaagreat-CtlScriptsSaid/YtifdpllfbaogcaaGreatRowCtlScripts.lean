/- The row of CtlScripts. -/
import Derived.Test.YtifdpllfbaogcaaGreatRows
import Derived.WalkKit
import Derived.ChangeOld
import Derived.Below
import Derived.ProofKit
import Derived.OpenShut
import Derived.ShutString
import Derived.Lib.SmallJoins
import Derived.ChangeArms
import Derived.Test.YtifdpllfbaogcaaGreatQ7
namespace Go.Proofs.YtifdpllfbaogcaaGreat.ctlScripts
open Go.ChangeShapes Go.WideShapes Go.ChangeAt Go.RowKit Go.Joins
set_option linter.unusedVariables false
set_option linter.unusedSimpArgs false
theorem own : ownKnob Tryz.prog.godebug = none := by kernel_rfl
theorem laidOut : laidOutB Tryz.prog = true := by kernel_rfl
theorem neq2 {α : Type} {l : List α} {a0 a1 : α} (hl : l.length = 2) (h0 : l[0]? = some a0) (h1 : l[1]? = some a1) : l = [a0, a1] := B.list_eq hl fun j hj => by
  have : j = 0 ∨ j = 1 := by simp at hj; omega
  rcases this with rfl | rfl <;> assumption
theorem neq5 {α : Type} {l : List α} {a0 a1 a2 a3 a4 : α} (hl : l.length = 5) (h0 : l[0]? = some a0) (h1 : l[1]? = some a1) (h2 : l[2]? = some a2) (h3 : l[3]? = some a3) (h4 : l[4]? = some a4) : l = [a0, a1, a2, a3, a4] := B.list_eq hl fun j hj => by
  have : j = 0 ∨ j = 1 ∨ j = 2 ∨ j = 3 ∨ j = 4 := by simp at hj; omega
  rcases this with rfl | rfl | rfl | rfl | rfl <;> assumption
theorem neq6 {α : Type} {l : List α} {a0 a1 a2 a3 a4 a5 : α} (hl : l.length = 6) (h0 : l[0]? = some a0) (h1 : l[1]? = some a1) (h2 : l[2]? = some a2) (h3 : l[3]? = some a3) (h4 : l[4]? = some a4) (h5 : l[5]? = some a5) : l = [a0, a1, a2, a3, a4, a5] := B.list_eq hl fun j hj => by
  have : j = 0 ∨ j = 1 ∨ j = 2 ∨ j = 3 ∨ j = 4 ∨ j = 5 := by simp at hj; omega
  rcases this with rfl | rfl | rfl | rfl | rfl | rfl <;> assumption
theorem cc3 : Tryz.prog.cellsOf 3 = 1 := by kernel_rfl
theorem cc9 : Tryz.prog.cellsOf 9 = 1 := by kernel_rfl
theorem cc33 : Tryz.prog.cellsOf 33 = 1 := by kernel_rfl
theorem cc34 : Tryz.prog.cellsOf 34 = 1 := by kernel_rfl
theorem cc36 : Tryz.prog.cellsOf 36 = 2 := by kernel_rfl
theorem cc66 : Tryz.prog.cellsOf 66 = 1 := by kernel_rfl
theorem cc68 : Tryz.prog.cellsOf 68 = 5 := by kernel_rfl
theorem cc115 : Tryz.prog.cellsOf 115 = 2 := by kernel_rfl
set_option maxHeartbeats 4000000 in
set_option maxRecDepth 100000 in
theorem lifted (os : Os) (started : os.Started) (H : Type) (enc : TypeId × Value → H) :
    ReturnsInHanded {} Tryz.checked os 6 .any (Rows.ctlScriptsSpec.pre6 enc Tryz.prog Tryz.f6 Rows.ctlScriptsRow.domain false) (Rows.ctlScriptsSpec.post enc Tryz.prog Tryz.f6 false true false false) := by
  refine returnsInHanded_of_change (C := Tryz.checked) own started (by kernel_rfl) Tryz.func6
    (ChangeSpec.witness6 (enc := enc) (C := Tryz.checked) false ⟨#[], #[.string ⟨#[]⟩, .slice none 0 0], []⟩ 8 (by kernel_rfl) (by kernel_rfl) (by kernel_rfl) (by kernel_rfl)) ?_
  intro W base args ds gs before hval0 hW hcnd _
  have hval : ∀ (j : Nat) t v, Tryz.f6.params[j]? = some t → args[j]? = some v → Value.okWide Tryz.prog W .any base t v := hval0
  have hW' := hW
  obtain ⟨p, q, hA0, hV, rfl, hfz, hnd⟩ := hW
  have hA : DataW.TrodAll enc Tryz.prog W 0 (fun _ => true) true Tryz.f6.params.toList args.toList ds p := hA0
  rw [Tryz.params6] at hA hval
  obtain ⟨v0, vs0, d0, ds0, p0, q0, hargs, rfl, rfl, h0, r0⟩ := trodAll_cons hA
  obtain ⟨v1, vs1, d1, ds1, p1, q1, rfl, rfl, rfl, h1, r1⟩ := trodAll_cons r0
  obtain ⟨rfl, rfl, rfl⟩ := trodAll_nil r1
  obtain rfl : args = #[v0, v1] := by cases args; simp_all
  obtain ⟨rfl, rfl⟩ := trodVars_none hV
  have k0 := h0
  have lt0 : ∀ x ∈ p0, x.block < W.heap.size := by obtain ⟨m, hm⟩ := k0; exact DataW.trod_lt m _ _ _ hm
  obtain ⟨x0, rfl, _, _, w0⟩ := Go.ChangeMaps.open_string Tryz.underlying9 (hval 0 9 v0 rfl rfl) h0
  have k1 := h1
  have lt1 : ∀ x ∈ p1, x.block < W.heap.size := by obtain ⟨m, hm⟩ := k1; exact DataW.trod_lt m _ _ _ hm
  obtain ⟨A1, cap1, xs1, rfl, hR1, hx1, hc1, hm1⟩ : ∃ A cap xs, v1 = .slice A xs.length cap ∧ B.RdS (Ct.KO) (fun k => W.heap[k]?) A xs ∧ (∀ y ∈ xs, (fun _ => True) y) ∧ xs.length ≤ cap ∧ cap ≤ maxLen := by
    obtain ⟨a, l, c, rfl⟩ := okWide_slice Tryz.underlying22 (hval 1 22 v1 rfl rfl)
    obtain ⟨fuel, hf⟩ := h1
    obtain ⟨A, cap, xs, hcs, h2, h3, h4, h5⟩ := B.open_rd (Ct.KO) (fun _ => True) Tryz.underlying22 (by kernel_rfl) (fun n cs x hl hx => by
      obtain ⟨aq0, eq0, wq0⟩ := B.fld_int (i := 0) hx Tryz.underlying38 rfl cc3 Tryz.underlying3
      obtain ⟨fuq1, yq1, hsq1⟩ := B.fld_sub (i := 1) (n := 2) hx Tryz.underlying38 rfl cc36
      obtain ⟨Aq2, nq2, xsq2, eq2, hRq2, hxq2, hcq2, hmq2⟩ := B.fld_rd (i := 0) (B.Kd.int .i64) (fun _ => True) hsq1 Tryz.underlying36 rfl cc33 Tryz.underlying33 cc3 (fun n cs x hl hx => by
        obtain ⟨m, h1, _, _⟩ := DataW.trod_int Tryz.underlying3 hx
        exact ⟨m, h1, trivial⟩)
      obtain ⟨Aq3, nq3, xsq3, eq3, hRq3, hxq3, hcq3, hmq3⟩ := B.fld_rd (i := 1) (Dg.KS) (fun _ => True) hsq1 Tryz.underlying36 rfl cc34 Tryz.underlying34 cc68 (fun n cs x hl hx => by
        obtain ⟨aq0, eq0, wq0⟩ := B.fld_int (i := 0) hx Tryz.underlying68 rfl cc3 Tryz.underlying3
        obtain ⟨aq1, eq1, wq1⟩ := B.fld_int (i := 1) hx Tryz.underlying68 rfl cc3 Tryz.underlying3
        obtain ⟨aq2, eq2, wq2⟩ := B.fld_int (i := 2) hx Tryz.underlying68 rfl cc3 Tryz.underlying3
        obtain ⟨aq3, eq3, wq3⟩ := B.fld_int (i := 3) hx Tryz.underlying68 rfl cc3 Tryz.underlying3
        obtain ⟨Aq4, nq4, xsq4, eq4, hRq4, hxq4, hcq4, hmq4⟩ := B.fld_rd (i := 4) (Dg.KE) (fun _ => True) hx Tryz.underlying68 rfl cc66 Tryz.underlying66 cc115 (fun n cs x hl hx => by
          obtain ⟨aq0, eq0, wq0⟩ := B.fld_int (i := 0) hx Tryz.underlying115 rfl cc3 Tryz.underlying3
          obtain ⟨aq1, eq1, wq1⟩ := B.fld_int (i := 1) hx Tryz.underlying115 rfl cc3 Tryz.underlying3
          exact ⟨⟨aq0, aq1⟩, neq2 hl eq0 eq1, trivial⟩)
        exact ⟨⟨aq0, aq1, aq2, aq3, xsq4⟩, ⟨Aq4, nq4, neq5 hl eq0 eq1 eq2 eq3 eq4, hRq4⟩, trivial⟩)
      obtain ⟨aq4, eq4, wq4⟩ := B.fld_int (i := 2) hx Tryz.underlying38 rfl cc3 Tryz.underlying3
      obtain ⟨aq5, eq5, wq5⟩ := B.fld_str (i := 3) hx Tryz.underlying38 rfl cc9 Tryz.underlying9
      obtain ⟨aq6, eq6, wq6⟩ := B.fld_int (i := 4) hx Tryz.underlying38 rfl cc3 Tryz.underlying3
      exact ⟨⟨aq0, xsq2, xsq3, aq4, aq5.data.toList, aq6⟩, ⟨Aq2, nq2, Aq3, nq3, (by unfold Ct.O.cs; rw [B.bs_of]; exact neq6 hl eq0 (B.sub_at eq2) (B.sub_at eq3) eq4 eq5 eq6), hRq2, hRq3, Nat.le_trans hcq3 hmq3⟩, trivial⟩) hf
    simp [Value.cells] at hcs
    obtain ⟨rfl, rfl, rfl⟩ := hcs
    exact ⟨_, _, xs, rfl, h2, h3, h4, h5⟩
  clear hA0 hval0
  refine (Ct.scripts_row (cs := []) W (B.St.start W) hR1 (Nat.le_trans hc1 hm1)).mono fun e W' ⟨he, hs⟩ => ?_
  have bel := hs.bel
  subst he
  exact ⟨_, rfl, _, _, _, [], _, [], hW', trodAll_mk1 (shut_bool Tryz.underlying4 _), (trodAll_cons_mk (Below.trod laidOut (by kernel_rfl) (of_decide_eq_true (by kernel_rfl)) k0 bel lt0) (trodAll_cons_mk (Below.trod laidOut (by kernel_rfl) (of_decide_eq_true (by kernel_rfl)) k1 bel lt1) trodAll_mk0)), rfl, bel.frame _, fun h => by cases h⟩

theorem over : Rows.ctlScriptsRow.holds Tryz.pinned (OpenSpec.ofChange Rows.ctlScriptsSpec) :=
  OpenClaim.holds_of_wide 6 Tryz.f6 rfl rfl rfl rfl rfl rfl rfl ⟨rfl, rfl, rfl, rfl, rfl⟩ rfl rfl rfl rfl rfl (by kernel_rfl) Tryz.func6 (by kernel_rfl)
    (of_decide_eq_true (by kernel_rfl)) (by unfold Func.isWrapper; first | (rw [if_pos (by decide +kernel)]; kernel_rfl) | (rw [if_neg (by decide +kernel)]; exact ⟨rfl, rfl⟩))
    (fun os started H enc _ => lifted os started H enc)

theorem proved : Rows.CtlScriptsSaid := over
#print axioms proved
end Go.Proofs.YtifdpllfbaogcaaGreat.ctlScripts
