/- The row of JournalWrites. -/
import Derived.Test.YthjcfhfbaeokeaaRows
import Derived.WalkKit
import Derived.ChangeOld
import Derived.Below
import Derived.ProofKit
import Derived.OpenShut
import Derived.ShutString
import Derived.Lib.SmallJoins
import Derived.ChangeArms
import Derived.Test.YthjcfhfbaeokeaaMBaseAE
import Derived.Test.YthjcfhfbaeokeaaMJ13
namespace Go.Proofs.Ythjcfhfbaeokeaa.journalWrites
open Go.ChangeShapes Go.WideShapes Go.ChangeAt Go.RowKit Go.Joins
set_option linter.unusedVariables false
set_option linter.unusedSimpArgs false
theorem own : ownKnob Try.prog.godebug = none := by kernel_rfl
theorem laidOut : laidOutB Try.prog = true := by kernel_rfl
theorem c2 : Try.prog.cellsOf 45 = 2 := by kernel_rfl
theorem c4 : Try.prog.cellsOf 23 = 4 := by kernel_rfl
theorem cI : Try.prog.cellsOf 3 = 1 := by kernel_rfl
theorem cS : Try.prog.cellsOf 9 = 1 := by kernel_rfl
set_option maxHeartbeats 4000000 in
set_option maxRecDepth 100000 in
theorem lifted (os : Os) (started : os.Started) (H : Type) (enc : TypeId × Value → H) :
    ReturnsInHanded {} Try.checked os 3 .any (Rows.journalWritesSpec.pre6 enc Try.prog Try.f3 Rows.journalWritesRow.domain false) (Rows.journalWritesSpec.post enc Try.prog Try.f3 false true false false) := by
  refine returnsInHanded_of_change (C := Try.checked) own started (by kernel_rfl) Try.func3
    (ChangeSpec.witness6 (enc := enc) (C := Try.checked) false ⟨#[], #[.agg #[.string ⟨#[]⟩, .int .i64 0, .string ⟨#[]⟩, .int .i64 0]], []⟩ 8 (by kernel_rfl) (by kernel_rfl) (by kernel_rfl) (by kernel_rfl)) ?_
  intro W base args ds gs before hval0 hW hcnd _
  have hval : ∀ (j : Nat) t v, Try.f3.params[j]? = some t → args[j]? = some v → Value.okWide Try.prog W .any base t v := hval0
  have hW' := hW
  obtain ⟨p, q, hA0, hV, rfl, hfz, hnd⟩ := hW
  have hA : DataW.TrodAll enc Try.prog W 0 (fun _ => true) true Try.f3.params.toList args.toList ds p := hA0
  rw [Try.params3] at hA hval
  obtain ⟨v0, vs0, d0, ds0, p0, q0, hargs, rfl, rfl, h0, r0⟩ := trodAll_cons hA
  obtain ⟨rfl, rfl, rfl⟩ := trodAll_nil r0
  obtain rfl : args = #[v0] := by cases args; simp_all
  obtain ⟨rfl, rfl⟩ := trodVars_none hV
  have k0 := h0
  have lt0 : ∀ x ∈ p0, x.block < W.heap.size := by obtain ⟨m, hm⟩ := k0; exact DataW.trod_lt m _ _ _ hm
  obtain ⟨l, k, s, n, rfl, hl9, hs9⟩ : ∃ l k s n, v0 = .agg #[.string (B.bs l), .int .i64 k, .string (B.bs s), .int .i64 n] ∧ l.length ≤ maxLen ∧ s.length ≤ maxLen := by
    obtain ⟨fuel, hf⟩ := h0
    obtain ⟨cl, rfl, hsz⟩ := okWide_struct Try.underlying23 (hval 0 23 v0 rfl rfl)
    have hl : cl.toList.length = 4 := by rw [Array.length_toList, hsz]; exact c4
    have hx : DataW.trod enc Try.prog W _ _ _ fuel 23 cl.toList = some _ := hf
    obtain ⟨e0, g0, z0⟩ := B.fld_str (i := 0) hx Try.underlying23 rfl cS Try.underlying9
    obtain ⟨e1, g1, _⟩ := B.fld_int (i := 1) hx Try.underlying23 rfl cI Try.underlying3
    obtain ⟨e2, g2, z2⟩ := B.fld_str (i := 2) hx Try.underlying23 rfl cS Try.underlying9
    obtain ⟨e3, g3, _⟩ := B.fld_int (i := 3) hx Try.underlying23 rfl cI Try.underlying3
    have g0 : cl.toList[0]? = some (.string e0) := g0
    have g2 : cl.toList[2]? = some (.string e2) := g2
    rw [← B.bs_of e0] at g0 z0
    rw [← B.bs_of e2] at g2 z2
    refine ⟨e0.data.toList, e1, e2.data.toList, e3, ?_, z0, z2⟩
    have e9 : cl = #[.string (B.bs e0.data.toList), .int .i64 e1, .string (B.bs e2.data.toList), .int .i64 e3] := Array.toList_inj.1 (B.four_ hl g0 g1 g2 g3)
    rw [e9]
  clear hA0 hval0
  refine (Jo.writes_law (cs := []) W (B.St.start W) hl9 hs9).mono fun e W' ⟨he, hs⟩ => ?_
  have bel := hs.bel
  subst he
  exact ⟨_, rfl, _, _, _, [], _, [], hW', trodAll_mk1 (shut_bool Try.underlying4 _), (trodAll_cons_mk (Below.trod laidOut (by kernel_rfl) (of_decide_eq_true (by kernel_rfl)) k0 bel lt0) trodAll_mk0), rfl, bel.frame _, fun h => by cases h⟩

theorem over : Rows.journalWritesRow.holds Try.pinned (OpenSpec.ofChange Rows.journalWritesSpec) :=
  OpenClaim.holds_of_wide 3 Try.f3 rfl rfl rfl rfl rfl rfl rfl ⟨rfl, rfl, rfl, rfl, rfl⟩ rfl rfl rfl rfl rfl (by kernel_rfl) Try.func3 (by kernel_rfl)
    (of_decide_eq_true (by kernel_rfl)) (by unfold Func.isWrapper; first | (rw [if_pos (by decide +kernel)]; kernel_rfl) | (rw [if_neg (by decide +kernel)]; exact ⟨rfl, rfl⟩))
    (fun os started H enc _ => lifted os started H enc)

theorem proved : Rows.JournalWritesSaid := over
#print axioms proved
end Go.Proofs.Ythjcfhfbaeokeaa.journalWrites
