/- The row of CredWindow. -/
import Derived.Test.YtbkfjedecepfoaaRows
import Derived.WalkKit
import Derived.ChangeOld
import Derived.Below
import Derived.ProofKit
import Derived.OpenShut
import Derived.ShutString
import Derived.Lib.SmallJoins
import Derived.ChangeArms
import Derived.Test.YtbkfjedecepfoaaMBaseAE
import Derived.Test.YtbkfjedecepfoaaMC12
namespace Go.Proofs.Ytbkfjedecepfoaa.credWindow
open Go.ChangeShapes Go.WideShapes Go.ChangeAt Go.RowKit Go.Joins
set_option linter.unusedVariables false
set_option linter.unusedSimpArgs false
theorem own : ownKnob Try.prog.godebug = none := by kernel_rfl
theorem laidOut : laidOutB Try.prog = true := by kernel_rfl
theorem c7 : Try.prog.cellsOf 24 = 7 := by kernel_rfl
theorem c6 : Try.prog.cellsOf 37 = 6 := by kernel_rfl
theorem cI : Try.prog.cellsOf 3 = 1 := by kernel_rfl
theorem cLi : Try.prog.cellsOf 22 = 1 := by kernel_rfl
theorem okArr {P : Program} {w : World} {r : Reach} {base : Nat} {t e : TypeId} {n : Nat} {v : Value} (ht : P.underlying t = some (.array n e)) (h : Value.okWide P w r base t v) : ∃ cs, v = .agg cs ∧ cs.size = P.cellsOf t := by
  simp only [Value.okWide, ht] at h
  obtain ⟨cs, h1, h2, _⟩ := h
  exact ⟨cs, h1, h2⟩
theorem cA : Try.prog.cellsOf 43 = 2 := by kernel_rfl
set_option maxHeartbeats 4000000 in
set_option maxRecDepth 100000 in
theorem lifted (os : Os) (started : os.Started) (H : Type) (enc : TypeId × Value → H) :
    ReturnsInHanded {} Try.checked os 6 .any (Rows.credWindowSpec.pre6 enc Try.prog Try.f6 Rows.credWindowRow.domain false) (Rows.credWindowSpec.post enc Try.prog Try.f6 false true false false) := by
  refine returnsInHanded_of_change (C := Try.checked) own started (by kernel_rfl) Try.func6
    (ChangeSpec.witness6 (enc := enc) (C := Try.checked) false ⟨#[], #[.agg #[.int .i64 0, .int .i64 0, .int .i64 0, .int .i64 0, .int .i64 0, .slice none 0 0, .int .i64 0], .agg #[.int .i64 0, .int .i64 0, .int .i64 0, .int .i64 0, .int .i64 0, .int .i64 0], .agg #[.int .i64 0, .int .i64 0]], []⟩ 8 (by kernel_rfl) (by kernel_rfl) (by kernel_rfl) (by kernel_rfl)) ?_
  intro W base args ds gs before hval0 hW hcnd _
  have hval : ∀ (j : Nat) t v, Try.f6.params[j]? = some t → args[j]? = some v → Value.okWide Try.prog W .any base t v := hval0
  have hW' := hW
  obtain ⟨p, q, hA0, hV, rfl, hfz, hnd⟩ := hW
  have hA : DataW.TrodAll enc Try.prog W 0 (fun _ => true) true Try.f6.params.toList args.toList ds p := hA0
  rw [Try.params6] at hA hval
  obtain ⟨v0, vs0, d0, ds0, p0, q0, hargs, rfl, rfl, h0, r0⟩ := trodAll_cons hA
  obtain ⟨v1, vs1, d1, ds1, p1, q1, rfl, rfl, rfl, h1, r1⟩ := trodAll_cons r0
  obtain ⟨v2, vs2, d2, ds2, p2, q2, rfl, rfl, rfl, h2, r2⟩ := trodAll_cons r1
  obtain ⟨rfl, rfl, rfl⟩ := trodAll_nil r2
  obtain rfl : args = #[v0, v1, v2] := by cases args; simp_all
  obtain ⟨rfl, rfl⟩ := trodVars_none hV
  have k0 := h0
  have lt0 : ∀ x ∈ p0, x.block < W.heap.size := by obtain ⟨m, hm⟩ := k0; exact DataW.trod_lt m _ _ _ hm
  obtain ⟨c, A0, cap0, rfl, hR0, hm0⟩ : ∃ (c : Cr.C) (A : Option Addr) (cap : Nat), v0 = c.val A cap ∧ B.RdS (B.Kd.one Wir.Vi) (fun k => W.heap[k]?) A c.nd ∧ c.nd.length ≤ maxLen := by
    obtain ⟨fuel, hf⟩ := h0
    obtain ⟨cl, rfl, hsz⟩ := okWide_struct Try.underlying24 (hval 0 24 v0 rfl rfl)
    have hsz' : cl.toList.length = 7 := by rw [Array.length_toList, hsz]; exact c7
    have hf' : DataW.trod enc Try.prog W _ _ _ fuel 24 cl.toList = some _ := hf
    obtain ⟨a0, e0, _⟩ := B.fld_int (i := 0) hf' Try.underlying24 rfl cI Try.underlying3
    obtain ⟨a1, e1, _⟩ := B.fld_int (i := 1) hf' Try.underlying24 rfl cI Try.underlying3
    obtain ⟨a2, e2, _⟩ := B.fld_int (i := 2) hf' Try.underlying24 rfl cI Try.underlying3
    obtain ⟨a3, e3, _⟩ := B.fld_int (i := 3) hf' Try.underlying24 rfl cI Try.underlying3
    obtain ⟨a4, e4, _⟩ := B.fld_int (i := 4) hf' Try.underlying24 rfl cI Try.underlying3
    obtain ⟨A5, n5, xs, e5, hR, _, hc, hm⟩ := B.fld_rd (i := 5) (B.Kd.one Wir.Vi) (fun _ => True) hf' Try.underlying24 rfl cLi Try.underlying22 cI (fun n cs x hl hx => by
      obtain ⟨m, h1, _, _⟩ := DataW.trod_int Try.underlying3 hx
      exact ⟨m, h1, trivial⟩)
    obtain ⟨a6, e6, _⟩ := B.fld_int (i := 6) hf' Try.underlying24 rfl cI Try.underlying3
    refine ⟨⟨a0, a1, a2, a3, a4, xs, a6⟩, A5, n5, ?_, hR, Nat.le_trans hc hm⟩
    have e9 : cl = #[.int .i64 a0, .int .i64 a1, .int .i64 a2, .int .i64 a3, .int .i64 a4, .slice A5 xs.length n5, .int .i64 a6] := Array.toList_inj.1 (Cr.seven_ hsz' e0 e1 e2 e3 e4 e5 e6)
    rw [e9]; rfl
  have k1 := h1
  have lt1 : ∀ x ∈ p1, x.block < W.heap.size := by obtain ⟨m, hm⟩ := k1; exact DataW.trod_lt m _ _ _ hm
  obtain ⟨a, rfl⟩ : ∃ a : Cr.Q, v1 = a.val := by
    obtain ⟨fuel, hf⟩ := h1
    obtain ⟨cl, rfl, hsz⟩ := okWide_struct Try.underlying37 (hval 1 37 v1 rfl rfl)
    have hsz' : cl.toList.length = 6 := by rw [Array.length_toList, hsz]; exact c6
    have hf' : DataW.trod enc Try.prog W _ _ _ fuel 37 cl.toList = some _ := hf
    obtain ⟨a0, e0, _⟩ := B.fld_int (i := 0) hf' Try.underlying37 rfl cI Try.underlying3
    obtain ⟨a1, e1, _⟩ := B.fld_int (i := 1) hf' Try.underlying37 rfl cI Try.underlying3
    obtain ⟨a2, e2, _⟩ := B.fld_int (i := 2) hf' Try.underlying37 rfl cI Try.underlying3
    obtain ⟨a3, e3, _⟩ := B.fld_int (i := 3) hf' Try.underlying37 rfl cI Try.underlying3
    obtain ⟨a4, e4, _⟩ := B.fld_int (i := 4) hf' Try.underlying37 rfl cI Try.underlying3
    obtain ⟨a5, e5, _⟩ := B.fld_int (i := 5) hf' Try.underlying37 rfl cI Try.underlying3
    refine ⟨⟨a0, a1, a2, a3, a4, a5⟩, ?_⟩
    have e9 : cl = #[.int .i64 a0, .int .i64 a1, .int .i64 a2, .int .i64 a3, .int .i64 a4, .int .i64 a5] := Array.toList_inj.1 (Cr.six_ hsz' e0 e1 e2 e3 e4 e5)
    rw [e9]; rfl
  have k2 := h2
  have lt2 : ∀ x ∈ p2, x.block < W.heap.size := by obtain ⟨m, hm⟩ := k2; exact DataW.trod_lt m _ _ _ hm
  obtain ⟨x0, x1, rfl⟩ : ∃ p q : Int, v2 = .agg #[.int .i64 p, .int .i64 q] := by
    obtain ⟨fuel, hf⟩ := h2
    obtain ⟨cl, rfl, hsz⟩ := okArr Try.underlying43 (hval 2 43 v2 rfl rfl)
    have hsz' : cl.toList.length = 2 := by rw [Array.length_toList, hsz]; exact cA
    have hf' : DataW.trod enc Try.prog W _ _ _ fuel 43 cl.toList = some _ := hf
    obtain ⟨xs, m, _, _, _, hl, hx⟩ := DataW.trod_array Try.underlying43 hf'
    have g0 := hx 0 (by decide)
    have g1 := hx 1 (by decide)
    rw [cI, List.getElem?_eq_getElem (by omega)] at g0 g1
    obtain ⟨p, e0, _, _⟩ := DataW.trod_int Try.underlying3 g0
    obtain ⟨q, e1, _, _⟩ := DataW.trod_int Try.underlying3 g1
    refine ⟨p, q, ?_⟩
    have e9 : cl = #[.int .i64 p, .int .i64 q] := Array.toList_inj.1 (B.two_ hsz' (B.one_at e0) (B.one_at e1))
    rw [e9]
  clear hA0 hval0
  refine (Cr.window_law (cs := []) W a x0 x1 (B.St.start W) hR0 hm0).mono fun e W' ⟨he, hs⟩ => ?_
  have bel := hs.bel
  subst he
  exact ⟨_, rfl, _, _, _, [], _, [], hW', trodAll_mk1 (shut_bool Try.underlying4 _), (trodAll_cons_mk (Below.trod laidOut (by kernel_rfl) (of_decide_eq_true (by kernel_rfl)) k0 bel lt0) (trodAll_cons_mk (Below.trod laidOut (by kernel_rfl) (of_decide_eq_true (by kernel_rfl)) k1 bel lt1) (trodAll_cons_mk (Below.trod laidOut (by kernel_rfl) (of_decide_eq_true (by kernel_rfl)) k2 bel lt2) trodAll_mk0))), rfl, bel.frame _, fun h => by cases h⟩

theorem over : Rows.credWindowRow.holds Try.pinned (OpenSpec.ofChange Rows.credWindowSpec) :=
  OpenClaim.holds_of_wide 6 Try.f6 rfl rfl rfl rfl rfl rfl rfl ⟨rfl, rfl, rfl, rfl, rfl⟩ rfl rfl rfl rfl rfl (by kernel_rfl) Try.func6 (by kernel_rfl)
    (of_decide_eq_true (by kernel_rfl)) (by unfold Func.isWrapper; first | (rw [if_pos (by decide +kernel)]; kernel_rfl) | (rw [if_neg (by decide +kernel)]; exact ⟨rfl, rfl⟩))
    (fun os started H enc _ => lifted os started H enc)

theorem proved : Rows.CredWindowSaid := over
#print axioms proved
end Go.Proofs.Ytbkfjedecepfoaa.credWindow
