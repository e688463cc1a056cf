/- The row of CredKeys. -/
import Derived.Test.YtbkfjedecepfoaaRows
import Derived.WalkKit
import Derived.ChangeOld
import Derived.Below
import Derived.ProofKit
import Derived.OpenShut
import Derived.ShutString
import Derived.Lib.SmallJoins
import Derived.ChangeArms
import Derived.Test.YtbkfjedecepfoaaMBaseAE
import Derived.Test.YtbkfjedecepfoaaMC12
namespace Go.Proofs.Ytbkfjedecepfoaa.credKeys
open Go.ChangeShapes Go.WideShapes Go.ChangeAt Go.RowKit Go.Joins
set_option linter.unusedVariables false
set_option linter.unusedSimpArgs false
theorem own : ownKnob Try.prog.godebug = none := by kernel_rfl
theorem laidOut : laidOutB Try.prog = true := by kernel_rfl
theorem c7 : Try.prog.cellsOf 24 = 7 := by kernel_rfl
theorem c6 : Try.prog.cellsOf 37 = 6 := by kernel_rfl
theorem cI : Try.prog.cellsOf 3 = 1 := by kernel_rfl
theorem cLi : Try.prog.cellsOf 22 = 1 := by kernel_rfl
set_option maxHeartbeats 4000000 in
set_option maxRecDepth 100000 in
theorem lifted (os : Os) (started : os.Started) (H : Type) (enc : TypeId × Value → H) :
    ReturnsInHanded {} Try.checked os 7 .any (Rows.credKeysSpec.pre6 enc Try.prog Try.f7 Rows.credKeysRow.domain false) (Rows.credKeysSpec.post enc Try.prog Try.f7 false true false false) := by
  refine returnsInHanded_of_change (C := Try.checked) own started (by kernel_rfl) Try.func7
    (ChangeSpec.witness6 (enc := enc) (C := Try.checked) false ⟨#[], #[.string ⟨#[]⟩, .agg #[.int .i64 0, .int .i64 0, .int .i64 0, .int .i64 0, .int .i64 0, .slice none 0 0, .int .i64 0], .int .i64 0], []⟩ 8 (by kernel_rfl) (by kernel_rfl) (by kernel_rfl) (by kernel_rfl)) ?_
  intro W base args ds gs before hval0 hW hcnd _
  have hval : ∀ (j : Nat) t v, Try.f7.params[j]? = some t → args[j]? = some v → Value.okWide Try.prog W .any base t v := hval0
  have hW' := hW
  obtain ⟨p, q, hA0, hV, rfl, hfz, hnd⟩ := hW
  have hA : DataW.TrodAll enc Try.prog W 0 (fun _ => true) true Try.f7.params.toList args.toList ds p := hA0
  rw [Try.params7] at hA hval
  obtain ⟨v0, vs0, d0, ds0, p0, q0, hargs, rfl, rfl, h0, r0⟩ := trodAll_cons hA
  obtain ⟨v1, vs1, d1, ds1, p1, q1, rfl, rfl, rfl, h1, r1⟩ := trodAll_cons r0
  obtain ⟨v2, vs2, d2, ds2, p2, q2, rfl, rfl, rfl, h2, r2⟩ := trodAll_cons r1
  obtain ⟨rfl, rfl, rfl⟩ := trodAll_nil r2
  obtain rfl : args = #[v0, v1, v2] := by cases args; simp_all
  obtain ⟨rfl, rfl⟩ := trodVars_none hV
  have k0 := h0
  have lt0 : ∀ x ∈ p0, x.block < W.heap.size := by obtain ⟨m, hm⟩ := k0; exact DataW.trod_lt m _ _ _ hm
  obtain ⟨x0, rfl, _, _, w0⟩ := Go.ChangeMaps.open_string Try.underlying9 (hval 0 9 v0 rfl rfl) h0
  obtain ⟨l0, rfl⟩ : ∃ l, x0 = B.bs l := ⟨_, (B.bs_of _).symm⟩
  have k1 := h1
  have lt1 : ∀ x ∈ p1, x.block < W.heap.size := by obtain ⟨m, hm⟩ := k1; exact DataW.trod_lt m _ _ _ hm
  obtain ⟨c, A1, cap1, rfl, hR1, hm1⟩ : ∃ (c : Cr.C) (A : Option Addr) (cap : Nat), v1 = c.val A cap ∧ B.RdS (B.Kd.one Wir.Vi) (fun k => W.heap[k]?) A c.nd ∧ c.nd.length ≤ maxLen := by
    obtain ⟨fuel, hf⟩ := h1
    obtain ⟨cl, rfl, hsz⟩ := okWide_struct Try.underlying24 (hval 1 24 v1 rfl rfl)
    have hsz' : cl.toList.length = 7 := by rw [Array.length_toList, hsz]; exact c7
    have hf' : DataW.trod enc Try.prog W _ _ _ fuel 24 cl.toList = some _ := hf
    obtain ⟨a0, e0, _⟩ := B.fld_int (i := 0) hf' Try.underlying24 rfl cI Try.underlying3
    obtain ⟨a1, e1, _⟩ := B.fld_int (i := 1) hf' Try.underlying24 rfl cI Try.underlying3
    obtain ⟨a2, e2, _⟩ := B.fld_int (i := 2) hf' Try.underlying24 rfl cI Try.underlying3
    obtain ⟨a3, e3, _⟩ := B.fld_int (i := 3) hf' Try.underlying24 rfl cI Try.underlying3
    obtain ⟨a4, e4, _⟩ := B.fld_int (i := 4) hf' Try.underlying24 rfl cI Try.underlying3
    obtain ⟨A5, n5, xs, e5, hR, _, hc, hm⟩ := B.fld_rd (i := 5) (B.Kd.one Wir.Vi) (fun _ => True) hf' Try.underlying24 rfl cLi Try.underlying22 cI (fun n cs x hl hx => by
      obtain ⟨m, h1, _, _⟩ := DataW.trod_int Try.underlying3 hx
      exact ⟨m, h1, trivial⟩)
    obtain ⟨a6, e6, _⟩ := B.fld_int (i := 6) hf' Try.underlying24 rfl cI Try.underlying3
    refine ⟨⟨a0, a1, a2, a3, a4, xs, a6⟩, A5, n5, ?_, hR, Nat.le_trans hc hm⟩
    have e9 : cl = #[.int .i64 a0, .int .i64 a1, .int .i64 a2, .int .i64 a3, .int .i64 a4, .slice A5 xs.length n5, .int .i64 a6] := Array.toList_inj.1 (Cr.seven_ hsz' e0 e1 e2 e3 e4 e5 e6)
    rw [e9]; rfl
  have k2 := h2
  have lt2 : ∀ x ∈ p2, x.block < W.heap.size := by obtain ⟨m, hm⟩ := k2; exact DataW.trod_lt m _ _ _ hm
  obtain ⟨x2, rfl, _, _, w2⟩ := open_int Try.underlying3 (hval 2 3 v2 rfl rfl) h2
  clear hA0 hval0
  refine (Cr.keys_law (cs := []) W l0 x2 (B.St.start W) hR1 hm1 w0).mono fun e W' ⟨he, hs⟩ => ?_
  have bel := hs.bel
  subst he
  exact ⟨_, rfl, _, _, _, [], _, [], hW', trodAll_mk1 (shut_bool Try.underlying4 _), (trodAll_cons_mk (Below.trod laidOut (by kernel_rfl) (of_decide_eq_true (by kernel_rfl)) k0 bel lt0) (trodAll_cons_mk (Below.trod laidOut (by kernel_rfl) (of_decide_eq_true (by kernel_rfl)) k1 bel lt1) (trodAll_cons_mk (Below.trod laidOut (by kernel_rfl) (of_decide_eq_true (by kernel_rfl)) k2 bel lt2) trodAll_mk0))), rfl, bel.frame _, fun h => by cases h⟩

theorem over : Rows.credKeysRow.holds Try.pinned (OpenSpec.ofChange Rows.credKeysSpec) :=
  OpenClaim.holds_of_wide 7 Try.f7 rfl rfl rfl rfl rfl rfl rfl ⟨rfl, rfl, rfl, rfl, rfl⟩ rfl rfl rfl rfl rfl (by kernel_rfl) Try.func7 (by kernel_rfl)
    (of_decide_eq_true (by kernel_rfl)) (by unfold Func.isWrapper; first | (rw [if_pos (by decide +kernel)]; kernel_rfl) | (rw [if_neg (by decide +kernel)]; exact ⟨rfl, rfl⟩))
    (fun os started H enc _ => lifted os started H enc)

theorem proved : Rows.CredKeysSaid := over
#print axioms proved
end Go.Proofs.Ytbkfjedecepfoaa.credKeys
