/- The row of WireBack. -/
import Derived.Test.YtfiknofmniiehaaRows
import Derived.WalkKit
import Derived.ChangeOld
import Derived.Below
import Derived.ProofKit
import Derived.OpenShut
import Derived.ShutString
import Derived.Lib.SmallJoins
import Derived.ChangeArms
import Derived.Test.YtfiknofmniiehaaBaseY
import Derived.Test.YtfiknofmniiehaaW13
namespace Go.Proofs.Ytfiknofmniiehaa.wireBack
open Go.ChangeShapes Go.WideShapes Go.ChangeAt Go.RowKit Go.Joins
set_option linter.unusedVariables false
set_option linter.unusedSimpArgs false
theorem own : ownKnob Try.prog.godebug = none := by kernel_rfl
theorem laidOut : laidOutB Try.prog = true := by kernel_rfl
theorem c8 : Try.prog.cellsOf 24 = 8 := by kernel_rfl
theorem cI : Try.prog.cellsOf 3 = 1 := by kernel_rfl
theorem cS : Try.prog.cellsOf 9 = 1 := by kernel_rfl
set_option maxHeartbeats 4000000 in
set_option maxRecDepth 100000 in
theorem lifted (os : Os) (started : os.Started) (H : Type) (enc : TypeId × Value → H) :
    ReturnsInHanded {} Try.checked os 5 .any (Rows.wireBackSpec.pre6 enc Try.prog Try.f5 Rows.wireBackRow.domain false) (Rows.wireBackSpec.post enc Try.prog Try.f5 false true false false) := by
  refine returnsInHanded_of_change (C := Try.checked) own started (by kernel_rfl) Try.func5
    (ChangeSpec.witness6 (enc := enc) (C := Try.checked) false ⟨#[], #[.agg #[.int .i64 0, .int .i64 0, .int .i64 0, .int .i64 0, .int .i64 0, .int .i64 0, .int .i64 0, .string ⟨#[]⟩], .string ⟨#[]⟩], []⟩ 8 (by kernel_rfl) (by kernel_rfl) (by kernel_rfl) (by kernel_rfl)) ?_
  intro W base args ds gs before hval0 hW hcnd _
  have hval : ∀ (j : Nat) t v, Try.f5.params[j]? = some t → args[j]? = some v → Value.okWide Try.prog W .any base t v := hval0
  have hW' := hW
  obtain ⟨p, q, hA0, hV, rfl, hfz, hnd⟩ := hW
  have hA : DataW.TrodAll enc Try.prog W 0 (fun _ => true) true Try.f5.params.toList args.toList ds p := hA0
  rw [Try.params5] at hA hval
  obtain ⟨v0, vs0, d0, ds0, p0, q0, hargs, rfl, rfl, h0, r0⟩ := trodAll_cons hA
  obtain ⟨v1, vs1, d1, ds1, p1, q1, rfl, rfl, rfl, h1, r1⟩ := trodAll_cons r0
  obtain ⟨rfl, rfl, rfl⟩ := trodAll_nil r1
  obtain rfl : args = #[v0, v1] := by cases args; simp_all
  obtain ⟨rfl, rfl⟩ := trodVars_none hV
  have k0 := h0
  have lt0 : ∀ x ∈ p0, x.block < W.heap.size := by obtain ⟨m, hm⟩ := k0; exact DataW.trod_lt m _ _ _ hm
  obtain ⟨m0, rfl⟩ : ∃ m : Wir.M, v0 = m.val := by
    obtain ⟨fuel, hf⟩ := h0
    obtain ⟨cl, rfl, hsz⟩ := okWide_struct Try.underlying24 (hval 0 24 v0 rfl rfl)
    have hsz' : cl.toList.length = 8 := by rw [Array.length_toList, hsz]; exact c8
    have hf' : DataW.trod enc Try.prog W _ _ _ fuel 24 cl.toList = some _ := hf
    obtain ⟨a0, e0, _⟩ := B.fld_int (i := 0) hf' Try.underlying24 rfl cI Try.underlying3
    obtain ⟨a1, e1, _⟩ := B.fld_int (i := 1) hf' Try.underlying24 rfl cI Try.underlying3
    obtain ⟨a2, e2, _⟩ := B.fld_int (i := 2) hf' Try.underlying24 rfl cI Try.underlying3
    obtain ⟨a3, e3, _⟩ := B.fld_int (i := 3) hf' Try.underlying24 rfl cI Try.underlying3
    obtain ⟨a4, e4, _⟩ := B.fld_int (i := 4) hf' Try.underlying24 rfl cI Try.underlying3
    obtain ⟨a5, e5, _⟩ := B.fld_int (i := 5) hf' Try.underlying24 rfl cI Try.underlying3
    obtain ⟨a6, e6, _⟩ := B.fld_int (i := 6) hf' Try.underlying24 rfl cI Try.underlying3
    obtain ⟨s7, e7, _⟩ := B.fld_str (i := 7) hf' Try.underlying24 rfl cS Try.underlying9
    refine ⟨⟨a0, a1, a2, a3, a4, a5, a6, s7.data.toList⟩, ?_⟩
    have := B.eight hsz' e0 e1 e2 e3 e4 e5 e6 e7
    have e9 : cl = #[.int .i64 a0, .int .i64 a1, .int .i64 a2, .int .i64 a3, .int .i64 a4, .int .i64 a5, .int .i64 a6, .string s7] := Array.toList_inj.1 this
    rw [e9]
    unfold Wir.M.val
    rw [B.bs_of]
  have k1 := h1
  have lt1 : ∀ x ∈ p1, x.block < W.heap.size := by obtain ⟨m, hm⟩ := k1; exact DataW.trod_lt m _ _ _ hm
  obtain ⟨x1, rfl, _, _, w1⟩ := Go.ChangeMaps.open_string Try.underlying9 (hval 1 9 v1 rfl rfl) h1
  obtain ⟨l1, rfl⟩ : ∃ l, x1 = B.bs l := ⟨_, (B.bs_of _).symm⟩
  clear hA0 hval0
  refine (Wir.back_law (cs := []) W m0 l1 (B.St.start W)).mono fun e W' ⟨he, hs⟩ => ?_
  have bel := hs.bel
  subst he
  exact ⟨_, rfl, _, _, _, [], _, [], hW', trodAll_mk1 (shut_bool Try.underlying4 _), (trodAll_cons_mk (Below.trod laidOut (by kernel_rfl) (of_decide_eq_true (by kernel_rfl)) k0 bel lt0) (trodAll_cons_mk (Below.trod laidOut (by kernel_rfl) (of_decide_eq_true (by kernel_rfl)) k1 bel lt1) trodAll_mk0)), rfl, bel.frame _, fun h => by cases h⟩

theorem over : Rows.wireBackRow.holds Try.pinned (OpenSpec.ofChange Rows.wireBackSpec) :=
  OpenClaim.holds_of_wide 5 Try.f5 rfl rfl rfl rfl rfl rfl rfl ⟨rfl, rfl, rfl, rfl, rfl⟩ rfl rfl rfl rfl rfl (by kernel_rfl) Try.func5 (by kernel_rfl)
    (of_decide_eq_true (by kernel_rfl)) (by unfold Func.isWrapper; first | (rw [if_pos (by decide +kernel)]; kernel_rfl) | (rw [if_neg (by decide +kernel)]; exact ⟨rfl, rfl⟩))
    (fun os started H enc _ => lifted os started H enc)

theorem proved : Rows.WireBackSaid := over
#print axioms proved
end Go.Proofs.Ytfiknofmniiehaa.wireBack
