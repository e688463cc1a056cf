/- The row of RecTurns. -/
import Derived.Test.YthejglgnoingfaaRows
import Derived.WalkKit
import Derived.ChangeOld
import Derived.Below
import Derived.ProofKit
import Derived.OpenShut
import Derived.ShutString
import Derived.Lib.SmallJoins
import Derived.ChangeArms
import Derived.Test.YthejglgnoingfaaMBaseAH
import Derived.Test.YthejglgnoingfaaME7
namespace Go.Proofs.Ythejglgnoingfaa.recTurns
open Go.ChangeShapes Go.WideShapes Go.ChangeAt Go.RowKit Go.Joins
set_option linter.unusedVariables false
set_option linter.unusedSimpArgs false
theorem own : ownKnob Try.prog.godebug = none := by kernel_rfl
theorem laidOut : laidOutB Try.prog = true := by kernel_rfl
theorem neq3 {α : Type} {l : List α} {a0 a1 a2 : α} (hl : l.length = 3) (h0 : l[0]? = some a0) (h1 : l[1]? = some a1) (h2 : l[2]? = some a2) : l = [a0, a1, a2] := B.list_eq hl fun j hj => by
  have : j = 0 ∨ j = 1 ∨ j = 2 := by simp at hj; omega
  rcases this with rfl | rfl | rfl <;> assumption
theorem neq6 {α : Type} {l : List α} {a0 a1 a2 a3 a4 a5 : α} (hl : l.length = 6) (h0 : l[0]? = some a0) (h1 : l[1]? = some a1) (h2 : l[2]? = some a2) (h3 : l[3]? = some a3) (h4 : l[4]? = some a4) (h5 : l[5]? = some a5) : l = [a0, a1, a2, a3, a4, a5] := B.list_eq hl fun j hj => by
  have : j = 0 ∨ j = 1 ∨ j = 2 ∨ j = 3 ∨ j = 4 ∨ j = 5 := by simp at hj; omega
  rcases this with rfl | rfl | rfl | rfl | rfl | rfl <;> assumption
theorem cc3 : Try.prog.cellsOf 3 = 1 := by kernel_rfl
theorem cc4 : Try.prog.cellsOf 4 = 1 := by kernel_rfl
theorem cc22 : Try.prog.cellsOf 22 = 1 := by kernel_rfl
theorem cc24 : Try.prog.cellsOf 24 = 6 := by kernel_rfl
theorem cc32 : Try.prog.cellsOf 32 = 1 := by kernel_rfl
theorem cc33 : Try.prog.cellsOf 33 = 1 := by kernel_rfl
theorem cc35 : Try.prog.cellsOf 35 = 3 := by kernel_rfl
theorem cc50 : Try.prog.cellsOf 50 = 3 := by kernel_rfl
theorem cc57 : Try.prog.cellsOf 57 = 6 := by kernel_rfl
set_option maxHeartbeats 4000000 in
set_option maxRecDepth 100000 in
theorem lifted (os : Os) (started : os.Started) (H : Type) (enc : TypeId × Value → H) :
    ReturnsInHanded {} Try.checked os 9 .any (Rows.recTurnsSpec.pre6 enc Try.prog Try.f9 Rows.recTurnsRow.domain false) (Rows.recTurnsSpec.post enc Try.prog Try.f9 false true false false) := by
  refine returnsInHanded_of_change (C := Try.checked) own started (by kernel_rfl) Try.func9
    (ChangeSpec.witness6 (enc := enc) (C := Try.checked) false ⟨#[], #[.agg #[.slice none 0 0, .slice none 0 0, .bool false], .agg #[.int .i64 0, .int .i64 0, .int .i64 0, .int .i64 0, .int .i64 0, .slice none 0 0]], []⟩ 8 (by kernel_rfl) (by kernel_rfl) (by kernel_rfl) (by kernel_rfl)) ?_
  intro W base args ds gs before hval0 hW hcnd _
  have hval : ∀ (j : Nat) t v, Try.f9.params[j]? = some t → args[j]? = some v → Value.okWide Try.prog W .any base t v := hval0
  have hW' := hW
  obtain ⟨p, q, hA0, hV, rfl, hfz, hnd⟩ := hW
  have hA : DataW.TrodAll enc Try.prog W 0 (fun _ => true) true Try.f9.params.toList args.toList ds p := hA0
  rw [Try.params9] at hA hval
  obtain ⟨v0, vs0, d0, ds0, p0, q0, hargs, rfl, rfl, h0, r0⟩ := trodAll_cons hA
  obtain ⟨v1, vs1, d1, ds1, p1, q1, rfl, rfl, rfl, h1, r1⟩ := trodAll_cons r0
  obtain ⟨rfl, rfl, rfl⟩ := trodAll_nil r1
  obtain rfl : args = #[v0, v1] := by cases args; simp_all
  obtain ⟨rfl, rfl⟩ := trodVars_none hV
  have k0 := h0
  have lt0 : ∀ x ∈ p0, x.block < W.heap.size := by obtain ⟨m, hm⟩ := k0; exact DataW.trod_lt m _ _ _ hm
  obtain ⟨AJ, AS, cj, cS, z, rfl, hZ, hls⟩ : ∃ (AJ AS : Option Addr) (cj cS : Nat) (z : Rc.Z), v0 = .agg #[.slice AJ z.js.length cj, .slice AS z.ss.length cS, .bool z.dr] ∧ Rc.ZR (fun k => W.heap[k]?) AJ AS z ∧ z.ss.length ≤ 9223372036854775807 := by
    obtain ⟨fuel, hf⟩ := h0
    obtain ⟨cl, rfl, hsz⟩ := okWide_struct Try.underlying35 (hval 0 35 v0 rfl rfl)
    have hsz' : cl.toList.length = 3 := by rw [Array.length_toList, hsz]; exact cc35
    have hf' : DataW.trod enc Try.prog W _ _ _ fuel 35 cl.toList = some _ := hf
    obtain ⟨Ap0, np0, xsp0, ep0, hRp0, hxp0, hcp0, hmp0⟩ := B.fld_rd (i := 0) (Rc.KJ) (fun _ => True) hf' Try.underlying35 rfl cc32 Try.underlying32 cc50 (fun n cs x hl hx => by
      obtain ⟨aq0, eq0, wq0⟩ := B.fld_int (i := 0) hx Try.underlying50 rfl cc3 Try.underlying3
      obtain ⟨aq1, eq1, wq1⟩ := B.fld_int (i := 1) hx Try.underlying50 rfl cc3 Try.underlying3
      obtain ⟨aq2, eq2, wq2⟩ := B.fld_int (i := 2) hx Try.underlying50 rfl cc3 Try.underlying3
      exact ⟨⟨aq0, aq1, aq2⟩, neq3 hl eq0 eq1 eq2, trivial⟩)
    obtain ⟨Ap1, np1, xsp1, ep1, hRp1, hxp1, hcp1, hmp1⟩ := B.fld_rd (i := 1) (Rc.KS) (fun _ => True) hf' Try.underlying35 rfl cc33 Try.underlying33 cc57 (fun n cs x hl hx => by
      obtain ⟨aq0, eq0, wq0⟩ := B.fld_int (i := 0) hx Try.underlying57 rfl cc3 Try.underlying3
      obtain ⟨aq1, eq1, wq1⟩ := B.fld_int (i := 1) hx Try.underlying57 rfl cc3 Try.underlying3
      obtain ⟨aq2, eq2, wq2⟩ := B.fld_int (i := 2) hx Try.underlying57 rfl cc3 Try.underlying3
      obtain ⟨aq3, eq3, wq3⟩ := B.fld_int (i := 3) hx Try.underlying57 rfl cc3 Try.underlying3
      obtain ⟨aq4, eq4, wq4⟩ := B.fld_int (i := 4) hx Try.underlying57 rfl cc3 Try.underlying3
      obtain ⟨Aq5, nq5, xsq5, eq5, hRq5, hxq5, hcq5, hmq5⟩ := B.fld_rd (i := 5) (B.Kd.int .i64) (fun _ => True) hx Try.underlying57 rfl cc22 Try.underlying22 cc3 (fun n cs x hl hx => by
        obtain ⟨m, h1, _, _⟩ := DataW.trod_int Try.underlying3 hx
        exact ⟨m, h1, trivial⟩)
      exact ⟨⟨aq0, aq1, aq2, aq3, aq4, xsq5⟩, ⟨Aq5, nq5, neq6 hl eq0 eq1 eq2 eq3 eq4 eq5, hRq5⟩, trivial⟩)
    obtain ⟨ap2, ep2⟩ := B.fld_bool (i := 2) hf' Try.underlying35 rfl cc4 Try.underlying4
    have e9 : cl = #[.slice Ap0 xsp0.length np0, .slice Ap1 xsp1.length np1, .bool ap2] := Array.toList_inj.1 (neq3 hsz' ep0 ep1 ep2)
    subst e9
    exact ⟨_, _, _, _, ⟨xsp0, xsp1, ap2⟩, rfl, ⟨hRp0, hRp1⟩, Nat.le_trans hcp1 hmp1⟩
  have k1 := h1
  have lt1 : ∀ x ∈ p1, x.block < W.heap.size := by obtain ⟨m, hm⟩ := k1; exact DataW.trod_lt m _ _ _ hm
  obtain ⟨r, Al, cl, rfl, hl⟩ : ∃ (r : Rc.R) (Al : Option Addr) (cl : Nat), v1 = .agg #[.int .i64 r.kd, .int .i64 r.jb, .int .i64 r.ep, .int .i64 r.st, .int .i64 r.ar, .slice Al r.ls.length cl] ∧ B.RdS (B.Kd.one Rc.Vi) (fun k => W.heap[k]?) Al r.ls := by
    obtain ⟨fuel, hf⟩ := h1
    obtain ⟨cl, rfl, hsz⟩ := okWide_struct Try.underlying24 (hval 1 24 v1 rfl rfl)
    have hsz' : cl.toList.length = 6 := by rw [Array.length_toList, hsz]; exact cc24
    have hf' : DataW.trod enc Try.prog W _ _ _ fuel 24 cl.toList = some _ := hf
    obtain ⟨ap0, ep0, wp0⟩ := B.fld_int (i := 0) hf' Try.underlying24 rfl cc3 Try.underlying3
    obtain ⟨ap1, ep1, wp1⟩ := B.fld_int (i := 1) hf' Try.underlying24 rfl cc3 Try.underlying3
    obtain ⟨ap2, ep2, wp2⟩ := B.fld_int (i := 2) hf' Try.underlying24 rfl cc3 Try.underlying3
    obtain ⟨ap3, ep3, wp3⟩ := B.fld_int (i := 3) hf' Try.underlying24 rfl cc3 Try.underlying3
    obtain ⟨ap4, ep4, wp4⟩ := B.fld_int (i := 4) hf' Try.underlying24 rfl cc3 Try.underlying3
    obtain ⟨Ap5, np5, xsp5, ep5, hRp5, hxp5, hcp5, hmp5⟩ := B.fld_rd (i := 5) (B.Kd.int .i64) (fun _ => True) hf' Try.underlying24 rfl cc22 Try.underlying22 cc3 (fun n cs x hl hx => by
      obtain ⟨m, h1, _, _⟩ := DataW.trod_int Try.underlying3 hx
      exact ⟨m, h1, trivial⟩)
    have e9 : cl = #[.int .i64 ap0, .int .i64 ap1, .int .i64 ap2, .int .i64 ap3, .int .i64 ap4, .slice Ap5 xsp5.length np5] := Array.toList_inj.1 (neq6 hsz' ep0 ep1 ep2 ep3 ep4 ep5)
    subst e9
    exact ⟨⟨ap0, ap1, ap2, ap3, ap4, xsp5⟩, _, _, rfl, hRp5⟩
  clear hA0 hval0
  refine (Rc.turns_law (cs := []) W hls hZ hl (B.St.start W)).mono fun e W' ⟨he, hs⟩ => ?_
  have bel := hs.bel
  subst he
  exact ⟨_, rfl, _, _, _, [], _, [], hW', trodAll_mk1 (shut_bool Try.underlying4 _), (trodAll_cons_mk (Below.trod laidOut (by kernel_rfl) (of_decide_eq_true (by kernel_rfl)) k0 bel lt0) (trodAll_cons_mk (Below.trod laidOut (by kernel_rfl) (of_decide_eq_true (by kernel_rfl)) k1 bel lt1) trodAll_mk0)), rfl, bel.frame _, fun h => by cases h⟩

theorem over : Rows.recTurnsRow.holds Try.pinned (OpenSpec.ofChange Rows.recTurnsSpec) :=
  OpenClaim.holds_of_wide 9 Try.f9 rfl rfl rfl rfl rfl rfl rfl ⟨rfl, rfl, rfl, rfl, rfl⟩ rfl rfl rfl rfl rfl (by kernel_rfl) Try.func9 (by kernel_rfl)
    (of_decide_eq_true (by kernel_rfl)) (by unfold Func.isWrapper; first | (rw [if_pos (by decide +kernel)]; kernel_rfl) | (rw [if_neg (by decide +kernel)]; exact ⟨rfl, rfl⟩))
    (fun os started H enc _ => lifted os started H enc)

theorem proved : Rows.RecTurnsSaid := over
#print axioms proved
end Go.Proofs.Ythejglgnoingfaa.recTurns
