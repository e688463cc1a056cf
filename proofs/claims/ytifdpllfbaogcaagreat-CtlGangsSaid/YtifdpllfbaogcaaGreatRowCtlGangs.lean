/- The row of CtlGangs. -/
import Derived.Test.YtifdpllfbaogcaaGreatRows
import Derived.WalkKit
import Derived.ChangeOld
import Derived.Below
import Derived.ProofKit
import Derived.OpenShut
import Derived.ShutString
import Derived.Lib.SmallJoins
import Derived.ChangeArms
import Derived.Test.YtifdpllfbaogcaaGreatP6
namespace Go.Proofs.YtifdpllfbaogcaaGreat.ctlGangs
open Go.ChangeShapes Go.WideShapes Go.ChangeAt Go.RowKit Go.Joins
set_option linter.unusedVariables false
set_option linter.unusedSimpArgs false
theorem own : ownKnob Tryz.prog.godebug = none := by kernel_rfl
theorem laidOut : laidOutB Tryz.prog = true := by kernel_rfl
theorem neq2 {α : Type} {l : List α} {a0 a1 : α} (hl : l.length = 2) (h0 : l[0]? = some a0) (h1 : l[1]? = some a1) : l = [a0, a1] := B.list_eq hl fun j hj => by
  have : j = 0 ∨ j = 1 := by simp at hj; omega
  rcases this with rfl | rfl <;> assumption
theorem neq5 {α : Type} {l : List α} {a0 a1 a2 a3 a4 : α} (hl : l.length = 5) (h0 : l[0]? = some a0) (h1 : l[1]? = some a1) (h2 : l[2]? = some a2) (h3 : l[3]? = some a3) (h4 : l[4]? = some a4) : l = [a0, a1, a2, a3, a4] := B.list_eq hl fun j hj => by
  have : j = 0 ∨ j = 1 ∨ j = 2 ∨ j = 3 ∨ j = 4 := by simp at hj; omega
  rcases this with rfl | rfl | rfl | rfl | rfl <;> assumption
theorem cc3 : Tryz.prog.cellsOf 3 = 1 := by kernel_rfl
theorem cc33 : Tryz.prog.cellsOf 33 = 1 := by kernel_rfl
theorem cc34 : Tryz.prog.cellsOf 34 = 1 := by kernel_rfl
theorem cc36 : Tryz.prog.cellsOf 36 = 2 := by kernel_rfl
theorem cc66 : Tryz.prog.cellsOf 66 = 1 := by kernel_rfl
theorem cc68 : Tryz.prog.cellsOf 68 = 5 := by kernel_rfl
theorem cc115 : Tryz.prog.cellsOf 115 = 2 := by kernel_rfl
set_option maxHeartbeats 4000000 in
set_option maxRecDepth 100000 in
theorem lifted (os : Os) (started : os.Started) (H : Type) (enc : TypeId × Value → H) :
    ReturnsInHanded {} Tryz.checked os 7 .any (Rows.ctlGangsSpec.pre6 enc Tryz.prog Tryz.f7 Rows.ctlGangsRow.domain false) (Rows.ctlGangsSpec.post enc Tryz.prog Tryz.f7 false true false false) := by
  refine returnsInHanded_of_change (C := Tryz.checked) own started (by kernel_rfl) Tryz.func7
    (ChangeSpec.witness6 (enc := enc) (C := Tryz.checked) false ⟨#[], #[.agg #[.slice none 0 0, .slice none 0 0], .slice none 0 0], []⟩ 8 (by kernel_rfl) (by kernel_rfl) (by kernel_rfl) (by kernel_rfl)) ?_
  intro W base args ds gs before hval0 hW hcnd _
  have hval : ∀ (j : Nat) t v, Tryz.f7.params[j]? = some t → args[j]? = some v → Value.okWide Tryz.prog W .any base t v := hval0
  have hW' := hW
  obtain ⟨p, q, hA0, hV, rfl, hfz, hnd⟩ := hW
  have hA : DataW.TrodAll enc Tryz.prog W 0 (fun _ => true) true Tryz.f7.params.toList args.toList ds p := hA0
  rw [Tryz.params7] at hA hval
  obtain ⟨v0, vs0, d0, ds0, p0, q0, hargs, rfl, rfl, h0, r0⟩ := trodAll_cons hA
  obtain ⟨v1, vs1, d1, ds1, p1, q1, rfl, rfl, rfl, h1, r1⟩ := trodAll_cons r0
  obtain ⟨rfl, rfl, rfl⟩ := trodAll_nil r1
  obtain rfl : args = #[v0, v1] := by cases args; simp_all
  obtain ⟨rfl, rfl⟩ := trodVars_none hV
  have k0 := h0
  have lt0 : ∀ x ∈ p0, x.block < W.heap.size := by obtain ⟨m, hm⟩ := k0; exact DataW.trod_lt m _ _ _ hm
  obtain ⟨A0, xs0, na0, B0, ss0, nb0, rfl, hA0, hB0, hl0, hs0⟩ : ∃ (A0 : Option Addr) (xs0 : List Int) (na0 : Nat) (B0 : Option Addr) (ss0 : List Dg.S) (nb0 : Nat), v0 = .agg #[.slice A0 xs0.length na0, .slice B0 ss0.length nb0] ∧ B.RdS (B.Kd.int .i64) (fun k => W.heap[k]?) A0 xs0 ∧ B.RdS Dg.KS (fun k => W.heap[k]?) B0 ss0 ∧ xs0.length ≤ maxLen ∧ ss0.length ≤ maxLen := by
    obtain ⟨fuel, hf⟩ := h0
    obtain ⟨cl, rfl, hsz⟩ := okWide_struct Tryz.underlying36 (hval 0 36 v0 rfl rfl)
    have hsz' : cl.toList.length = 2 := by rw [Array.length_toList, hsz]; exact cc36
    have hf' : DataW.trod enc Tryz.prog W _ _ _ fuel 36 cl.toList = some _ := hf
    obtain ⟨Ap0, np0, xsp0, ep0, hRp0, hxp0, hcp0, hmp0⟩ := B.fld_rd (i := 0) (B.Kd.int .i64) (fun _ => True) hf' Tryz.underlying36 rfl cc33 Tryz.underlying33 cc3 (fun n cs x hl hx => by
      obtain ⟨m, h1, _, _⟩ := DataW.trod_int Tryz.underlying3 hx
      exact ⟨m, h1, trivial⟩)
    obtain ⟨Ap1, np1, xsp1, ep1, hRp1, hxp1, hcp1, hmp1⟩ := B.fld_rd (i := 1) (Dg.KS) (fun _ => True) hf' Tryz.underlying36 rfl cc34 Tryz.underlying34 cc68 (fun n cs x hl hx => by
      obtain ⟨aq0, eq0, wq0⟩ := B.fld_int (i := 0) hx Tryz.underlying68 rfl cc3 Tryz.underlying3
      obtain ⟨aq1, eq1, wq1⟩ := B.fld_int (i := 1) hx Tryz.underlying68 rfl cc3 Tryz.underlying3
      obtain ⟨aq2, eq2, wq2⟩ := B.fld_int (i := 2) hx Tryz.underlying68 rfl cc3 Tryz.underlying3
      obtain ⟨aq3, eq3, wq3⟩ := B.fld_int (i := 3) hx Tryz.underlying68 rfl cc3 Tryz.underlying3
      obtain ⟨Aq4, nq4, xsq4, eq4, hRq4, hxq4, hcq4, hmq4⟩ := B.fld_rd (i := 4) (Dg.KE) (fun _ => True) hx Tryz.underlying68 rfl cc66 Tryz.underlying66 cc115 (fun n cs x hl hx => by
        obtain ⟨aq0, eq0, wq0⟩ := B.fld_int (i := 0) hx Tryz.underlying115 rfl cc3 Tryz.underlying3
        obtain ⟨aq1, eq1, wq1⟩ := B.fld_int (i := 1) hx Tryz.underlying115 rfl cc3 Tryz.underlying3
        exact ⟨⟨aq0, aq1⟩, neq2 hl eq0 eq1, trivial⟩)
      exact ⟨⟨aq0, aq1, aq2, aq3, xsq4⟩, ⟨Aq4, nq4, neq5 hl eq0 eq1 eq2 eq3 eq4, hRq4⟩, trivial⟩)
    have e9 : cl = #[.slice Ap0 xsp0.length np0, .slice Ap1 xsp1.length np1] := Array.toList_inj.1 (neq2 hsz' ep0 ep1)
    subst e9
    exact ⟨Ap0, xsp0, np0, Ap1, xsp1, np1, rfl, hRp0, hRp1, Nat.le_trans hcp0 hmp0, Nat.le_trans hcp1 hmp1⟩
  have k1 := h1
  have lt1 : ∀ x ∈ p1, x.block < W.heap.size := by obtain ⟨m, hm⟩ := k1; exact DataW.trod_lt m _ _ _ hm
  obtain ⟨A1, cap1, xs1, rfl, hR1, hx1, hc1, hm1⟩ : ∃ A cap xs, v1 = .slice A xs.length cap ∧ B.RdS (B.Kd.one Ct.sB) (fun k => W.heap[k]?) A xs ∧ (∀ y ∈ xs, (fun x => x.length ≤ maxLen) y) ∧ xs.length ≤ cap ∧ cap ≤ maxLen := by
    obtain ⟨a, l, c, rfl⟩ := okWide_slice Tryz.underlying39 (hval 1 39 v1 rfl rfl)
    obtain ⟨fuel, hf⟩ := h1
    obtain ⟨A, cap, xs, hcs, h2, h3, h4, h5⟩ := B.open_rd (B.Kd.one Ct.sB) (fun x => x.length ≤ maxLen) Tryz.underlying39 (by kernel_rfl) (fun n cs x hl hx => by
      obtain ⟨m, h1, _, w⟩ := DataW.trod_string Tryz.underlying9 hx
      exact ⟨m.data.toList, (by rw [h1]; show _ = [Value.string (B.bs m.data.toList)]; rw [B.bs_of]), (by show m.data.toList.length ≤ _; rw [Array.length_toList]; exact w)⟩) hf
    simp [Value.cells] at hcs
    obtain ⟨rfl, rfl, rfl⟩ := hcs
    exact ⟨_, _, xs, rfl, h2, h3, h4, h5⟩
  clear hA0 hval0
  refine (Ct.gangs_law (cs := []) W (B.St.start W) hA0 hB0 hR1 hl0 hs0 (Nat.le_trans hc1 hm1) hx1).mono fun e W' ⟨he, hs⟩ => ?_
  have bel := hs.bel
  subst he
  exact ⟨_, rfl, _, _, _, [], _, [], hW', trodAll_mk1 (shut_bool Tryz.underlying4 _), (trodAll_cons_mk (Below.trod laidOut (by kernel_rfl) (of_decide_eq_true (by kernel_rfl)) k0 bel lt0) (trodAll_cons_mk (Below.trod laidOut (by kernel_rfl) (of_decide_eq_true (by kernel_rfl)) k1 bel lt1) trodAll_mk0)), rfl, bel.frame _, fun h => by cases h⟩

theorem over : Rows.ctlGangsRow.holds Tryz.pinned (OpenSpec.ofChange Rows.ctlGangsSpec) :=
  OpenClaim.holds_of_wide 7 Tryz.f7 rfl rfl rfl rfl rfl rfl rfl ⟨rfl, rfl, rfl, rfl, rfl⟩ rfl rfl rfl rfl rfl (by kernel_rfl) Tryz.func7 (by kernel_rfl)
    (of_decide_eq_true (by kernel_rfl)) (by unfold Func.isWrapper; first | (rw [if_pos (by decide +kernel)]; kernel_rfl) | (rw [if_neg (by decide +kernel)]; exact ⟨rfl, rfl⟩))
    (fun os started H enc _ => lifted os started H enc)

theorem proved : Rows.CtlGangsSaid := over
#print axioms proved
end Go.Proofs.YtifdpllfbaogcaaGreat.ctlGangs
