/- The row of JournalSince. -/
import Derived.Test.YthjcfhfbaeokeaaRows
import Derived.WalkKit
import Derived.ChangeOld
import Derived.Below
import Derived.ProofKit
import Derived.OpenShut
import Derived.ShutString
import Derived.Lib.SmallJoins
import Derived.ChangeArms
import Derived.Test.YthjcfhfbaeokeaaMBaseAE
import Derived.Test.YthjcfhfbaeokeaaMJ16
namespace Go.Proofs.Ythjcfhfbaeokeaa.journalSince
open Go.ChangeShapes Go.WideShapes Go.ChangeAt Go.RowKit Go.Joins
set_option linter.unusedVariables false
set_option linter.unusedSimpArgs false
theorem own : ownKnob Try.prog.godebug = none := by kernel_rfl
theorem laidOut : laidOutB Try.prog = true := by kernel_rfl
theorem c2 : Try.prog.cellsOf 45 = 2 := by kernel_rfl
theorem c4 : Try.prog.cellsOf 23 = 4 := by kernel_rfl
theorem cI : Try.prog.cellsOf 3 = 1 := by kernel_rfl
theorem cS : Try.prog.cellsOf 9 = 1 := by kernel_rfl
set_option maxHeartbeats 4000000 in
set_option maxRecDepth 100000 in
theorem lifted (os : Os) (started : os.Started) (H : Type) (enc : TypeId × Value → H) :
    ReturnsInHanded {} Try.checked os 6 .any (Rows.journalSinceSpec.pre6 enc Try.prog Try.f6 Rows.journalSinceRow.domain false) (Rows.journalSinceSpec.post enc Try.prog Try.f6 false true false false) := by
  refine returnsInHanded_of_change (C := Try.checked) own started (by kernel_rfl) Try.func6
    (ChangeSpec.witness6 (enc := enc) (C := Try.checked) false ⟨#[], #[.slice none 0 0, .string ⟨#[]⟩, .slice none 0 0], []⟩ 8 (by kernel_rfl) (by kernel_rfl) (by kernel_rfl) (by kernel_rfl)) ?_
  intro W base args ds gs before hval0 hW hcnd _
  have hval : ∀ (j : Nat) t v, Try.f6.params[j]? = some t → args[j]? = some v → Value.okWide Try.prog W .any base t v := hval0
  have hW' := hW
  obtain ⟨p, q, hA0, hV, rfl, hfz, hnd⟩ := hW
  have hA : DataW.TrodAll enc Try.prog W 0 (fun _ => true) true Try.f6.params.toList args.toList ds p := hA0
  rw [Try.params6] at hA hval
  obtain ⟨v0, vs0, d0, ds0, p0, q0, hargs, rfl, rfl, h0, r0⟩ := trodAll_cons hA
  obtain ⟨v1, vs1, d1, ds1, p1, q1, rfl, rfl, rfl, h1, r1⟩ := trodAll_cons r0
  obtain ⟨v2, vs2, d2, ds2, p2, q2, rfl, rfl, rfl, h2, r2⟩ := trodAll_cons r1
  obtain ⟨rfl, rfl, rfl⟩ := trodAll_nil r2
  obtain rfl : args = #[v0, v1, v2] := by cases args; simp_all
  obtain ⟨rfl, rfl⟩ := trodVars_none hV
  have k0 := h0
  have lt0 : ∀ x ∈ p0, x.block < W.heap.size := by obtain ⟨m, hm⟩ := k0; exact DataW.trod_lt m _ _ _ hm
  obtain ⟨A0, cap0, xs0, rfl, hR0, hx0, hc0, hm0⟩ : ∃ A cap xs, v0 = .slice A xs.length cap ∧ B.RdS (Jo.KEn) (fun k => W.heap[k]?) A xs ∧ (∀ y ∈ xs, (fun _ => True) y) ∧ xs.length ≤ cap ∧ cap ≤ maxLen := by
    obtain ⟨a, l, c, rfl⟩ := okWide_slice Try.underlying35 (hval 0 35 v0 rfl rfl)
    obtain ⟨fuel, hf⟩ := h0
    obtain ⟨A, cap, xs, hcs, h2, h3, h4, h5⟩ := B.open_rd (Jo.KEn) (fun _ => True) Try.underlying35 (by kernel_rfl) (fun n cs x hl hx => by
      obtain ⟨e0, g0, _⟩ := B.fld_int (i := 0) hx Try.underlying45 rfl cI Try.underlying3
      obtain ⟨e1, g1, _⟩ := B.fld_str (i := 1) hx Try.underlying45 rfl cS Try.underlying9
      have g1 : cs[1]? = some (.string e1) := g1
      rw [← B.bs_of e1] at g1
      exact ⟨(e0, e1.data.toList), B.two_ hl g0 g1, trivial⟩) hf
    simp [Value.cells] at hcs
    obtain ⟨rfl, rfl, rfl⟩ := hcs
    exact ⟨_, _, xs, rfl, h2, h3, h4, h5⟩
  have k1 := h1
  have lt1 : ∀ x ∈ p1, x.block < W.heap.size := by obtain ⟨m, hm⟩ := k1; exact DataW.trod_lt m _ _ _ hm
  obtain ⟨x1, rfl, _, _, w1⟩ := Go.ChangeMaps.open_string Try.underlying9 (hval 1 9 v1 rfl rfl) h1
  obtain ⟨l1, rfl⟩ : ∃ l, x1 = B.bs l := ⟨_, (B.bs_of _).symm⟩
  have k2 := h2
  have lt2 : ∀ x ∈ p2, x.block < W.heap.size := by obtain ⟨m, hm⟩ := k2; exact DataW.trod_lt m _ _ _ hm
  obtain ⟨A2, cap2, xs2, rfl, hR2, hx2, hc2, hm2⟩ : ∃ A cap xs, v2 = .slice A xs.length cap ∧ B.RdS (Jo.KEn) (fun k => W.heap[k]?) A xs ∧ (∀ y ∈ xs, (fun _ => True) y) ∧ xs.length ≤ cap ∧ cap ≤ maxLen := by
    obtain ⟨a, l, c, rfl⟩ := okWide_slice Try.underlying35 (hval 2 35 v2 rfl rfl)
    obtain ⟨fuel, hf⟩ := h2
    obtain ⟨A, cap, xs, hcs, h2, h3, h4, h5⟩ := B.open_rd (Jo.KEn) (fun _ => True) Try.underlying35 (by kernel_rfl) (fun n cs x hl hx => by
      obtain ⟨e0, g0, _⟩ := B.fld_int (i := 0) hx Try.underlying45 rfl cI Try.underlying3
      obtain ⟨e1, g1, _⟩ := B.fld_str (i := 1) hx Try.underlying45 rfl cS Try.underlying9
      have g1 : cs[1]? = some (.string e1) := g1
      rw [← B.bs_of e1] at g1
      exact ⟨(e0, e1.data.toList), B.two_ hl g0 g1, trivial⟩) hf
    simp [Value.cells] at hcs
    obtain ⟨rfl, rfl, rfl⟩ := hcs
    exact ⟨_, _, xs, rfl, h2, h3, h4, h5⟩
  clear hA0 hval0
  refine (Jo.since_law (cs := []) W (B.St.start W) hR0 (Nat.le_trans hc0 hm0) w1 hR2 (Nat.le_trans hc2 hm2)).mono fun e W' ⟨he, hs⟩ => ?_
  have bel := hs.bel
  subst he
  exact ⟨_, rfl, _, _, _, [], _, [], hW', trodAll_mk1 (shut_bool Try.underlying4 _), (trodAll_cons_mk (Below.trod laidOut (by kernel_rfl) (of_decide_eq_true (by kernel_rfl)) k0 bel lt0) (trodAll_cons_mk (Below.trod laidOut (by kernel_rfl) (of_decide_eq_true (by kernel_rfl)) k1 bel lt1) (trodAll_cons_mk (Below.trod laidOut (by kernel_rfl) (of_decide_eq_true (by kernel_rfl)) k2 bel lt2) trodAll_mk0))), rfl, bel.frame _, fun h => by cases h⟩

theorem over : Rows.journalSinceRow.holds Try.pinned (OpenSpec.ofChange Rows.journalSinceSpec) :=
  OpenClaim.holds_of_wide 6 Try.f6 rfl rfl rfl rfl rfl rfl rfl ⟨rfl, rfl, rfl, rfl, rfl⟩ rfl rfl rfl rfl rfl (by kernel_rfl) Try.func6 (by kernel_rfl)
    (of_decide_eq_true (by kernel_rfl)) (by unfold Func.isWrapper; first | (rw [if_pos (by decide +kernel)]; kernel_rfl) | (rw [if_neg (by decide +kernel)]; exact ⟨rfl, rfl⟩))
    (fun os started H enc _ => lifted os started H enc)

theorem proved : Rows.JournalSinceSaid := over
#print axioms proved
end Go.Proofs.Ythjcfhfbaeokeaa.journalSince
