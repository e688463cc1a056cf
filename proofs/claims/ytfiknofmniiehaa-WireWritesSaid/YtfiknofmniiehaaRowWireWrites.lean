/- The row of WireWrites. -/
import Derived.Test.YtfiknofmniiehaaRows
import Derived.WalkKit
import Derived.ChangeOld
import Derived.Below
import Derived.ProofKit
import Derived.OpenShut
import Derived.ShutString
import Derived.Lib.SmallJoins
import Derived.ChangeArms
import Derived.Test.YtfiknofmniiehaaBaseY
import Derived.Test.YtfiknofmniiehaaW15
namespace Go.Proofs.Ytfiknofmniiehaa.wireWrites
open Go.ChangeShapes Go.WideShapes Go.ChangeAt Go.RowKit Go.Joins
set_option linter.unusedVariables false
set_option linter.unusedSimpArgs false
theorem own : ownKnob Try.prog.godebug = none := by kernel_rfl
theorem laidOut : laidOutB Try.prog = true := by kernel_rfl
theorem c8 : Try.prog.cellsOf 24 = 8 := by kernel_rfl
theorem cI : Try.prog.cellsOf 3 = 1 := by kernel_rfl
theorem cS : Try.prog.cellsOf 9 = 1 := by kernel_rfl
set_option maxHeartbeats 4000000 in
set_option maxRecDepth 100000 in
theorem lifted (os : Os) (started : os.Started) (H : Type) (enc : TypeId × Value → H) :
    ReturnsInHanded {} Try.checked os 3 .any (Rows.wireWritesSpec.pre6 enc Try.prog Try.f3 Rows.wireWritesRow.domain false) (Rows.wireWritesSpec.post enc Try.prog Try.f3 false true false false) := by
  refine returnsInHanded_of_change (C := Try.checked) own started (by kernel_rfl) Try.func3
    (ChangeSpec.witness6 (enc := enc) (C := Try.checked) false ⟨#[], #[.int .i64 0, .slice none 0 0, .agg #[.int .i64 0, .int .i64 0, .int .i64 0, .int .i64 0, .int .i64 0, .int .i64 0, .int .i64 0, .string ⟨#[]⟩]], []⟩ 8 (by kernel_rfl) (by kernel_rfl) (by kernel_rfl) (by kernel_rfl)) ?_
  intro W base args ds gs before hval0 hW hcnd _
  have hval : ∀ (j : Nat) t v, Try.f3.params[j]? = some t → args[j]? = some v → Value.okWide Try.prog W .any base t v := hval0
  have hW' := hW
  obtain ⟨p, q, hA0, hV, rfl, hfz, hnd⟩ := hW
  have hA : DataW.TrodAll enc Try.prog W 0 (fun _ => true) true Try.f3.params.toList args.toList ds p := hA0
  rw [Try.params3] at hA hval
  obtain ⟨v0, vs0, d0, ds0, p0, q0, hargs, rfl, rfl, h0, r0⟩ := trodAll_cons hA
  obtain ⟨v1, vs1, d1, ds1, p1, q1, rfl, rfl, rfl, h1, r1⟩ := trodAll_cons r0
  obtain ⟨v2, vs2, d2, ds2, p2, q2, rfl, rfl, rfl, h2, r2⟩ := trodAll_cons r1
  obtain ⟨rfl, rfl, rfl⟩ := trodAll_nil r2
  obtain rfl : args = #[v0, v1, v2] := by cases args; simp_all
  obtain ⟨rfl, rfl⟩ := trodVars_none hV
  have k0 := h0
  have lt0 : ∀ x ∈ p0, x.block < W.heap.size := by obtain ⟨m, hm⟩ := k0; exact DataW.trod_lt m _ _ _ hm
  obtain ⟨x0, rfl, _, _, w0⟩ := open_int Try.underlying3 (hval 0 3 v0 rfl rfl) h0
  have k1 := h1
  have lt1 : ∀ x ∈ p1, x.block < W.heap.size := by obtain ⟨m, hm⟩ := k1; exact DataW.trod_lt m _ _ _ hm
  obtain ⟨A1, cap1, xs1, rfl, hR1, hx1, hc1, hm1⟩ : ∃ A cap xs, v1 = .slice A xs.length cap ∧ B.RdS (B.Kd.one Wir.Vi) (fun k => W.heap[k]?) A xs ∧ (∀ y ∈ xs, (fun _ => True) y) ∧ xs.length ≤ cap ∧ cap ≤ maxLen := by
    obtain ⟨a, l, c, rfl⟩ := okWide_slice Try.underlying22 (hval 1 22 v1 rfl rfl)
    obtain ⟨fuel, hf⟩ := h1
    obtain ⟨A, cap, xs, hcs, h2, h3, h4, h5⟩ := B.open_rd (B.Kd.one Wir.Vi) (fun _ => True) Try.underlying22 (by kernel_rfl) (fun n cs x hl hx => by
      obtain ⟨m, h1, _, _⟩ := DataW.trod_int Try.underlying3 hx
      exact ⟨m, h1, trivial⟩) hf
    simp [Value.cells] at hcs
    obtain ⟨rfl, rfl, rfl⟩ := hcs
    exact ⟨_, _, xs, rfl, h2, h3, h4, h5⟩
  have k2 := h2
  have lt2 : ∀ x ∈ p2, x.block < W.heap.size := by obtain ⟨m, hm⟩ := k2; exact DataW.trod_lt m _ _ _ hm
  obtain ⟨m2, rfl⟩ : ∃ m : Wir.M, v2 = m.val := by
    obtain ⟨fuel, hf⟩ := h2
    obtain ⟨cl, rfl, hsz⟩ := okWide_struct Try.underlying24 (hval 2 24 v2 rfl rfl)
    have hsz' : cl.toList.length = 8 := by rw [Array.length_toList, hsz]; exact c8
    have hf' : DataW.trod enc Try.prog W _ _ _ fuel 24 cl.toList = some _ := hf
    obtain ⟨a0, e0, _⟩ := B.fld_int (i := 0) hf' Try.underlying24 rfl cI Try.underlying3
    obtain ⟨a1, e1, _⟩ := B.fld_int (i := 1) hf' Try.underlying24 rfl cI Try.underlying3
    obtain ⟨a2, e2, _⟩ := B.fld_int (i := 2) hf' Try.underlying24 rfl cI Try.underlying3
    obtain ⟨a3, e3, _⟩ := B.fld_int (i := 3) hf' Try.underlying24 rfl cI Try.underlying3
    obtain ⟨a4, e4, _⟩ := B.fld_int (i := 4) hf' Try.underlying24 rfl cI Try.underlying3
    obtain ⟨a5, e5, _⟩ := B.fld_int (i := 5) hf' Try.underlying24 rfl cI Try.underlying3
    obtain ⟨a6, e6, _⟩ := B.fld_int (i := 6) hf' Try.underlying24 rfl cI Try.underlying3
    obtain ⟨s7, e7, _⟩ := B.fld_str (i := 7) hf' Try.underlying24 rfl cS Try.underlying9
    refine ⟨⟨a0, a1, a2, a3, a4, a5, a6, s7.data.toList⟩, ?_⟩
    have := B.eight hsz' e0 e1 e2 e3 e4 e5 e6 e7
    have e9 : cl = #[.int .i64 a0, .int .i64 a1, .int .i64 a2, .int .i64 a3, .int .i64 a4, .int .i64 a5, .int .i64 a6, .string s7] := Array.toList_inj.1 this
    rw [e9]
    unfold Wir.M.val
    rw [B.bs_of]
  clear hA0 hval0
  refine (Wir.writes_law (cs := []) W x0 m2 (B.St.start W) hR1).mono fun e W' ⟨he, hs⟩ => ?_
  have bel := hs.bel
  subst he
  exact ⟨_, rfl, _, _, _, [], _, [], hW', trodAll_mk1 (shut_bool Try.underlying4 _), (trodAll_cons_mk (Below.trod laidOut (by kernel_rfl) (of_decide_eq_true (by kernel_rfl)) k0 bel lt0) (trodAll_cons_mk (Below.trod laidOut (by kernel_rfl) (of_decide_eq_true (by kernel_rfl)) k1 bel lt1) (trodAll_cons_mk (Below.trod laidOut (by kernel_rfl) (of_decide_eq_true (by kernel_rfl)) k2 bel lt2) trodAll_mk0))), rfl, bel.frame _, fun h => by cases h⟩

theorem over : Rows.wireWritesRow.holds Try.pinned (OpenSpec.ofChange Rows.wireWritesSpec) :=
  OpenClaim.holds_of_wide 3 Try.f3 rfl rfl rfl rfl rfl rfl rfl ⟨rfl, rfl, rfl, rfl, rfl⟩ rfl rfl rfl rfl rfl (by kernel_rfl) Try.func3 (by kernel_rfl)
    (of_decide_eq_true (by kernel_rfl)) (by unfold Func.isWrapper; first | (rw [if_pos (by decide +kernel)]; kernel_rfl) | (rw [if_neg (by decide +kernel)]; exact ⟨rfl, rfl⟩))
    (fun os started H enc _ => lifted os started H enc)

theorem proved : Rows.WireWritesSaid := over
#print axioms proved
end Go.Proofs.Ytfiknofmniiehaa.wireWrites
