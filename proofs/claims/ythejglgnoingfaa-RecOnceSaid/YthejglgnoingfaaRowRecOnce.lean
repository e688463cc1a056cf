/- The row of RecOnce. -/
import Derived.Test.YthejglgnoingfaaRows
import Derived.WalkKit
import Derived.ChangeOld
import Derived.Below
import Derived.ProofKit
import Derived.OpenShut
import Derived.ShutString
import Derived.Lib.SmallJoins
import Derived.ChangeArms
import Derived.Test.YthejglgnoingfaaMBaseAH
import Derived.Test.YthejglgnoingfaaME8
namespace Go.Proofs.Ythejglgnoingfaa.recOnce
open Go.ChangeShapes Go.WideShapes Go.ChangeAt Go.RowKit Go.Joins
set_option linter.unusedVariables false
set_option linter.unusedSimpArgs false
theorem own : ownKnob Try.prog.godebug = none := by kernel_rfl
theorem laidOut : laidOutB Try.prog = true := by kernel_rfl
theorem neq3 {α : Type} {l : List α} {a0 a1 a2 : α} (hl : l.length = 3) (h0 : l[0]? = some a0) (h1 : l[1]? = some a1) (h2 : l[2]? = some a2) : l = [a0, a1, a2] := B.list_eq hl fun j hj => by
  have : j = 0 ∨ j = 1 ∨ j = 2 := by simp at hj; omega
  rcases this with rfl | rfl | rfl <;> assumption
theorem neq6 {α : Type} {l : List α} {a0 a1 a2 a3 a4 a5 : α} (hl : l.length = 6) (h0 : l[0]? = some a0) (h1 : l[1]? = some a1) (h2 : l[2]? = some a2) (h3 : l[3]? = some a3) (h4 : l[4]? = some a4) (h5 : l[5]? = some a5) : l = [a0, a1, a2, a3, a4, a5] := B.list_eq hl fun j hj => by
  have : j = 0 ∨ j = 1 ∨ j = 2 ∨ j = 3 ∨ j = 4 ∨ j = 5 := by simp at hj; omega
  rcases this with rfl | rfl | rfl | rfl | rfl | rfl <;> assumption
theorem cc3 : Try.prog.cellsOf 3 = 1 := by kernel_rfl
theorem cc4 : Try.prog.cellsOf 4 = 1 := by kernel_rfl
theorem cc22 : Try.prog.cellsOf 22 = 1 := by kernel_rfl
theorem cc24 : Try.prog.cellsOf 24 = 6 := by kernel_rfl
theorem cc32 : Try.prog.cellsOf 32 = 1 := by kernel_rfl
theorem cc33 : Try.prog.cellsOf 33 = 1 := by kernel_rfl
theorem cc35 : Try.prog.cellsOf 35 = 3 := by kernel_rfl
theorem cc50 : Try.prog.cellsOf 50 = 3 := by kernel_rfl
theorem cc57 : Try.prog.cellsOf 57 = 6 := by kernel_rfl
set_option maxHeartbeats 4000000 in
set_option maxRecDepth 100000 in
theorem lifted (os : Os) (started : os.Started) (H : Type) (enc : TypeId × Value → H) :
    ReturnsInHanded {} Try.checked os 6 .any (Rows.recOnceSpec.pre6 enc Try.prog Try.f6 Rows.recOnceRow.domain false) (Rows.recOnceSpec.post enc Try.prog Try.f6 false true false false) := by
  refine returnsInHanded_of_change (C := Try.checked) own started (by kernel_rfl) Try.func6
    (ChangeSpec.witness6 (enc := enc) (C := Try.checked) false ⟨#[], #[.slice none 0 0], []⟩ 8 (by kernel_rfl) (by kernel_rfl) (by kernel_rfl) (by kernel_rfl)) ?_
  intro W base args ds gs before hval0 hW hcnd _
  have hval : ∀ (j : Nat) t v, Try.f6.params[j]? = some t → args[j]? = some v → Value.okWide Try.prog W .any base t v := hval0
  have hW' := hW
  obtain ⟨p, q, hA0, hV, rfl, hfz, hnd⟩ := hW
  have hA : DataW.TrodAll enc Try.prog W 0 (fun _ => true) true Try.f6.params.toList args.toList ds p := hA0
  rw [Try.params6] at hA hval
  obtain ⟨v0, vs0, d0, ds0, p0, q0, hargs, rfl, rfl, h0, r0⟩ := trodAll_cons hA
  obtain ⟨rfl, rfl, rfl⟩ := trodAll_nil r0
  obtain rfl : args = #[v0] := by cases args; simp_all
  obtain ⟨rfl, rfl⟩ := trodVars_none hV
  have k0 := h0
  have lt0 : ∀ x ∈ p0, x.block < W.heap.size := by obtain ⟨m, hm⟩ := k0; exact DataW.trod_lt m _ _ _ hm
  obtain ⟨A0, cap0, xs0, rfl, hR0, hx0, hc0, hm0⟩ : ∃ A cap xs, v0 = .slice A xs.length cap ∧ B.RdS (Rc.KR) (fun k => W.heap[k]?) A xs ∧ (∀ y ∈ xs, (fun _ => True) y) ∧ xs.length ≤ cap ∧ cap ≤ maxLen := by
    obtain ⟨a, l, c, rfl⟩ := okWide_slice Try.underlying65 (hval 0 65 v0 rfl rfl)
    obtain ⟨fuel, hf⟩ := h0
    obtain ⟨A, cap, xs, hcs, h2, h3, h4, h5⟩ := B.open_rd (Rc.KR) (fun _ => True) Try.underlying65 (by kernel_rfl) (fun n cs x hl hx => by
      obtain ⟨aq0, eq0, wq0⟩ := B.fld_int (i := 0) hx Try.underlying24 rfl cc3 Try.underlying3
      obtain ⟨aq1, eq1, wq1⟩ := B.fld_int (i := 1) hx Try.underlying24 rfl cc3 Try.underlying3
      obtain ⟨aq2, eq2, wq2⟩ := B.fld_int (i := 2) hx Try.underlying24 rfl cc3 Try.underlying3
      obtain ⟨aq3, eq3, wq3⟩ := B.fld_int (i := 3) hx Try.underlying24 rfl cc3 Try.underlying3
      obtain ⟨aq4, eq4, wq4⟩ := B.fld_int (i := 4) hx Try.underlying24 rfl cc3 Try.underlying3
      obtain ⟨Aq5, nq5, xsq5, eq5, hRq5, hxq5, hcq5, hmq5⟩ := B.fld_rd (i := 5) (B.Kd.int .i64) (fun _ => True) hx Try.underlying24 rfl cc22 Try.underlying22 cc3 (fun n cs x hl hx => by
        obtain ⟨m, h1, _, _⟩ := DataW.trod_int Try.underlying3 hx
        exact ⟨m, h1, trivial⟩)
      exact ⟨⟨aq0, aq1, aq2, aq3, aq4, xsq5⟩, ⟨Aq5, nq5, neq6 hl eq0 eq1 eq2 eq3 eq4 eq5, hRq5⟩, trivial⟩) hf
    simp [Value.cells] at hcs
    obtain ⟨rfl, rfl, rfl⟩ := hcs
    exact ⟨_, _, xs, rfl, h2, h3, h4, h5⟩
  clear hA0 hval0
  refine (Rc.once_law (cs := []) W (B.St.start W) hR0 (Nat.le_trans hc0 hm0)).mono fun e W' ⟨he, hs⟩ => ?_
  have bel := hs.bel
  subst he
  exact ⟨_, rfl, _, _, _, [], _, [], hW', trodAll_mk1 (shut_bool Try.underlying4 _), (trodAll_cons_mk (Below.trod laidOut (by kernel_rfl) (of_decide_eq_true (by kernel_rfl)) k0 bel lt0) trodAll_mk0), rfl, bel.frame _, fun h => by cases h⟩

theorem over : Rows.recOnceRow.holds Try.pinned (OpenSpec.ofChange Rows.recOnceSpec) :=
  OpenClaim.holds_of_wide 6 Try.f6 rfl rfl rfl rfl rfl rfl rfl ⟨rfl, rfl, rfl, rfl, rfl⟩ rfl rfl rfl rfl rfl (by kernel_rfl) Try.func6 (by kernel_rfl)
    (of_decide_eq_true (by kernel_rfl)) (by unfold Func.isWrapper; first | (rw [if_pos (by decide +kernel)]; kernel_rfl) | (rw [if_neg (by decide +kernel)]; exact ⟨rfl, rfl⟩))
    (fun os started H enc _ => lifted os started H enc)

theorem proved : Rows.RecOnceSaid := over
#print axioms proved
end Go.Proofs.Ythejglgnoingfaa.recOnce
