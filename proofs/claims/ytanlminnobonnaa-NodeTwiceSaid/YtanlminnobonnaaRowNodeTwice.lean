/- The row of NodeTwice. -/
import Derived.Test.YtanlminnobonnaaRows
import Derived.WalkKit
import Derived.ChangeOld
import Derived.Below
import Derived.ProofKit
import Derived.OpenShut
import Derived.ShutString
import Derived.Lib.SmallJoins
import Derived.ChangeArms
import Derived.Test.YtanlminnobonnaaMBaseAH
import Derived.Test.YtanlminnobonnaaMN13
namespace Go.Proofs.Ytanlminnobonnaa.nodeTwice
open Go.ChangeShapes Go.WideShapes Go.ChangeAt Go.RowKit Go.Joins
set_option linter.unusedVariables false
set_option linter.unusedSimpArgs false
theorem own : ownKnob Try.prog.godebug = none := by kernel_rfl
theorem laidOut : laidOutB Try.prog = true := by kernel_rfl
theorem neq3 {α : Type} {l : List α} {a0 a1 a2 : α} (hl : l.length = 3) (h0 : l[0]? = some a0) (h1 : l[1]? = some a1) (h2 : l[2]? = some a2) : l = [a0, a1, a2] := B.list_eq hl fun j hj => by
  have : j = 0 ∨ j = 1 ∨ j = 2 := by simp at hj; omega
  rcases this with rfl | rfl | rfl <;> assumption
theorem neq6 {α : Type} {l : List α} {a0 a1 a2 a3 a4 a5 : α} (hl : l.length = 6) (h0 : l[0]? = some a0) (h1 : l[1]? = some a1) (h2 : l[2]? = some a2) (h3 : l[3]? = some a3) (h4 : l[4]? = some a4) (h5 : l[5]? = some a5) : l = [a0, a1, a2, a3, a4, a5] := B.list_eq hl fun j hj => by
  have : j = 0 ∨ j = 1 ∨ j = 2 ∨ j = 3 ∨ j = 4 ∨ j = 5 := by simp at hj; omega
  rcases this with rfl | rfl | rfl | rfl | rfl | rfl <;> assumption
theorem neq16 {α : Type} {l : List α} {a0 a1 a2 a3 a4 a5 a6 a7 a8 a9 a10 a11 a12 a13 a14 a15 : α} (hl : l.length = 16) (h0 : l[0]? = some a0) (h1 : l[1]? = some a1) (h2 : l[2]? = some a2) (h3 : l[3]? = some a3) (h4 : l[4]? = some a4) (h5 : l[5]? = some a5) (h6 : l[6]? = some a6) (h7 : l[7]? = some a7) (h8 : l[8]? = some a8) (h9 : l[9]? = some a9) (h10 : l[10]? = some a10) (h11 : l[11]? = some a11) (h12 : l[12]? = some a12) (h13 : l[13]? = some a13) (h14 : l[14]? = some a14) (h15 : l[15]? = some a15) : l = [a0, a1, a2, a3, a4, a5, a6, a7, a8, a9, a10, a11, a12, a13, a14, a15] := B.list_eq hl fun j hj => by
  have : j = 0 ∨ j = 1 ∨ j = 2 ∨ j = 3 ∨ j = 4 ∨ j = 5 ∨ j = 6 ∨ j = 7 ∨ j = 8 ∨ j = 9 ∨ j = 10 ∨ j = 11 ∨ j = 12 ∨ j = 13 ∨ j = 14 ∨ j = 15 := by simp at hj; omega
  rcases this with rfl | rfl | rfl | rfl | rfl | rfl | rfl | rfl | rfl | rfl | rfl | rfl | rfl | rfl | rfl | rfl <;> assumption
theorem cc3 : Try.prog.cellsOf 3 = 1 := by kernel_rfl
theorem cc4 : Try.prog.cellsOf 4 = 1 := by kernel_rfl
theorem cc9 : Try.prog.cellsOf 9 = 1 := by kernel_rfl
theorem cc22 : Try.prog.cellsOf 22 = 1 := by kernel_rfl
theorem cc23 : Try.prog.cellsOf 23 = 1 := by kernel_rfl
theorem cc25 : Try.prog.cellsOf 25 = 3 := by kernel_rfl
theorem cc27 : Try.prog.cellsOf 27 = 8 := by kernel_rfl
theorem cc28 : Try.prog.cellsOf 28 = 1 := by kernel_rfl
theorem cc29 : Try.prog.cellsOf 29 = 1 := by kernel_rfl
theorem cc31 : Try.prog.cellsOf 31 = 4 := by kernel_rfl
theorem cc33 : Try.prog.cellsOf 33 = 16 := by kernel_rfl
theorem cc76 : Try.prog.cellsOf 76 = 3 := by kernel_rfl
theorem cc79 : Try.prog.cellsOf 79 = 6 := by kernel_rfl
set_option maxHeartbeats 4000000 in
set_option maxRecDepth 100000 in
theorem lifted (os : Os) (started : os.Started) (H : Type) (enc : TypeId × Value → H) :
    ReturnsInHanded {} Try.checked os 6 .any (Rows.nodeTwiceSpec.pre6 enc Try.prog Try.f6 Rows.nodeTwiceRow.domain false) (Rows.nodeTwiceSpec.post enc Try.prog Try.f6 false true false false) := by
  refine returnsInHanded_of_change (C := Try.checked) own started (by kernel_rfl) Try.func6
    (ChangeSpec.witness6 (enc := enc) (C := Try.checked) false ⟨#[], #[.slice none 0 0, .agg #[.int .i64 0, .slice none 0 0, .slice none 0 0, .bool false, .int .i64 0, .int .i64 0, .int .i64 0, .int .i64 0, .int .i64 0, .int .i64 0, .int .i64 0, .string ⟨#[]⟩, .int .i64 0, .slice none 0 0, .int .i64 0, .bool false]], []⟩ 8 (by kernel_rfl) (by kernel_rfl) (by kernel_rfl) (by kernel_rfl)) ?_
  intro W base args ds gs before hval0 hW hcnd _
  have hval : ∀ (j : Nat) t v, Try.f6.params[j]? = some t → args[j]? = some v → Value.okWide Try.prog W .any base t v := hval0
  have hW' := hW
  obtain ⟨p, q, hA0, hV, rfl, hfz, hnd⟩ := hW
  have hA : DataW.TrodAll enc Try.prog W 0 (fun _ => true) true Try.f6.params.toList args.toList ds p := hA0
  rw [Try.params6] at hA hval
  obtain ⟨v0, vs0, d0, ds0, p0, q0, hargs, rfl, rfl, h0, r0⟩ := trodAll_cons hA
  obtain ⟨v1, vs1, d1, ds1, p1, q1, rfl, rfl, rfl, h1, r1⟩ := trodAll_cons r0
  obtain ⟨rfl, rfl, rfl⟩ := trodAll_nil r1
  obtain rfl : args = #[v0, v1] := by cases args; simp_all
  obtain ⟨rfl, rfl⟩ := trodVars_none hV
  have k0 := h0
  have lt0 : ∀ x ∈ p0, x.block < W.heap.size := by obtain ⟨m, hm⟩ := k0; exact DataW.trod_lt m _ _ _ hm
  obtain ⟨A0, cap0, xs0, rfl, hR0, hx0, hc0, hm0⟩ : ∃ A cap xs, v0 = .slice A xs.length cap ∧ B.RdS (Rc.KR) (fun k => W.heap[k]?) A xs ∧ (∀ y ∈ xs, (fun _ => True) y) ∧ xs.length ≤ cap ∧ cap ≤ maxLen := by
    obtain ⟨a, l, c, rfl⟩ := okWide_slice Try.underlying59 (hval 0 59 v0 rfl rfl)
    obtain ⟨fuel, hf⟩ := h0
    obtain ⟨A, cap, xs, hcs, h2, h3, h4, h5⟩ := B.open_rd (Rc.KR) (fun _ => True) Try.underlying59 (by kernel_rfl) (fun n cs x hl hx => by
      obtain ⟨aq0, eq0, wq0⟩ := B.fld_int (i := 0) hx Try.underlying37 rfl cc3 Try.underlying3
      obtain ⟨aq1, eq1, wq1⟩ := B.fld_int (i := 1) hx Try.underlying37 rfl cc3 Try.underlying3
      obtain ⟨aq2, eq2, wq2⟩ := B.fld_int (i := 2) hx Try.underlying37 rfl cc3 Try.underlying3
      obtain ⟨aq3, eq3, wq3⟩ := B.fld_int (i := 3) hx Try.underlying37 rfl cc3 Try.underlying3
      obtain ⟨aq4, eq4, wq4⟩ := B.fld_int (i := 4) hx Try.underlying37 rfl cc3 Try.underlying3
      obtain ⟨Aq5, nq5, xsq5, eq5, hRq5, hxq5, hcq5, hmq5⟩ := B.fld_rd (i := 5) (B.Kd.int .i64) (fun _ => True) hx Try.underlying37 rfl cc29 Try.underlying29 cc3 (fun n cs x hl hx => by
        obtain ⟨m, h1, _, _⟩ := DataW.trod_int Try.underlying3 hx
        exact ⟨m, h1, trivial⟩)
      exact ⟨⟨aq0, aq1, aq2, aq3, aq4, xsq5⟩, ⟨Aq5, nq5, neq6 hl eq0 eq1 eq2 eq3 eq4 eq5, hRq5⟩, trivial⟩) hf
    simp [Value.cells] at hcs
    obtain ⟨rfl, rfl, rfl⟩ := hcs
    exact ⟨_, _, xs, rfl, h2, h3, h4, h5⟩
  have k1 := h1
  have lt1 : ∀ x ∈ p1, x.block < W.heap.size := by obtain ⟨m, hm⟩ := k1; exact DataW.trod_lt m _ _ _ hm
  obtain ⟨id, AJ, AS, cj, cS, z, m, Ap, cp, f, rfl, hZ, hls, hfp, hfl⟩ : ∃ (id : Int) (AJ AS : Option Addr) (cj cS : Nat) (z : Rc.Z) (m : Rc.M) (Ap : Option Addr) (cp : Nat) (f : Rc.Fc), v1 = .agg #[.int .i64 id, .slice AJ z.js.length cj, .slice AS z.ss.length cS, .bool z.dr, .int .i64 m.kd, .int .i64 m.fr, .int .i64 m.to, .int .i64 m.jb, .int .i64 m.ep, .int .i64 m.st, .int .i64 m.ar, .string m.tx, .int .i64 f.cr, .slice Ap f.ps.length cp, .int .i64 f.cd, .bool f.bz] ∧ Rc.ZR (fun k => W.heap[k]?) AJ AS z ∧ z.ss.length ≤ 9223372036854775807 ∧ B.RdS (B.Kd.one Rc.Vi) (fun k => W.heap[k]?) Ap f.ps ∧ f.ps.length ≤ 9223372036854775807 := by
    obtain ⟨fuel, hf⟩ := h1
    obtain ⟨cl, rfl, hsz⟩ := okWide_struct Try.underlying33 (hval 1 33 v1 rfl rfl)
    have hsz' : cl.toList.length = 16 := by rw [Array.length_toList, hsz]; exact cc33
    have hf' : DataW.trod enc Try.prog W _ _ _ fuel 33 cl.toList = some _ := hf
    obtain ⟨ap0, ep0, wp0⟩ := B.fld_int (i := 0) hf' Try.underlying33 rfl cc3 Try.underlying3
    obtain ⟨fup1, yp1, hsp1⟩ := B.fld_sub (i := 1) (n := 3) hf' Try.underlying33 rfl cc25
    obtain ⟨Ap2, np2, xsp2, ep2, hRp2, hxp2, hcp2, hmp2⟩ := B.fld_rd (i := 0) (Rc.KJ) (fun _ => True) hsp1 Try.underlying25 rfl cc22 Try.underlying22 cc76 (fun n cs x hl hx => by
      obtain ⟨aq0, eq0, wq0⟩ := B.fld_int (i := 0) hx Try.underlying76 rfl cc3 Try.underlying3
      obtain ⟨aq1, eq1, wq1⟩ := B.fld_int (i := 1) hx Try.underlying76 rfl cc3 Try.underlying3
      obtain ⟨aq2, eq2, wq2⟩ := B.fld_int (i := 2) hx Try.underlying76 rfl cc3 Try.underlying3
      exact ⟨⟨aq0, aq1, aq2⟩, neq3 hl eq0 eq1 eq2, trivial⟩)
    obtain ⟨Ap3, np3, xsp3, ep3, hRp3, hxp3, hcp3, hmp3⟩ := B.fld_rd (i := 1) (Rc.KS) (fun _ => True) hsp1 Try.underlying25 rfl cc23 Try.underlying23 cc79 (fun n cs x hl hx => by
      obtain ⟨aq0, eq0, wq0⟩ := B.fld_int (i := 0) hx Try.underlying79 rfl cc3 Try.underlying3
      obtain ⟨aq1, eq1, wq1⟩ := B.fld_int (i := 1) hx Try.underlying79 rfl cc3 Try.underlying3
      obtain ⟨aq2, eq2, wq2⟩ := B.fld_int (i := 2) hx Try.underlying79 rfl cc3 Try.underlying3
      obtain ⟨aq3, eq3, wq3⟩ := B.fld_int (i := 3) hx Try.underlying79 rfl cc3 Try.underlying3
      obtain ⟨aq4, eq4, wq4⟩ := B.fld_int (i := 4) hx Try.underlying79 rfl cc3 Try.underlying3
      obtain ⟨Aq5, nq5, xsq5, eq5, hRq5, hxq5, hcq5, hmq5⟩ := B.fld_rd (i := 5) (B.Kd.int .i64) (fun _ => True) hx Try.underlying79 rfl cc29 Try.underlying29 cc3 (fun n cs x hl hx => by
        obtain ⟨m, h1, _, _⟩ := DataW.trod_int Try.underlying3 hx
        exact ⟨m, h1, trivial⟩)
      exact ⟨⟨aq0, aq1, aq2, aq3, aq4, xsq5⟩, ⟨Aq5, nq5, neq6 hl eq0 eq1 eq2 eq3 eq4 eq5, hRq5⟩, trivial⟩)
    obtain ⟨ap4, ep4⟩ := B.fld_bool (i := 2) hsp1 Try.underlying25 rfl cc4 Try.underlying4
    obtain ⟨fup5, yp5, hsp5⟩ := B.fld_sub (i := 2) (n := 8) hf' Try.underlying33 rfl cc27
    obtain ⟨ap6, ep6, wp6⟩ := B.fld_int (i := 0) hsp5 Try.underlying27 rfl cc3 Try.underlying3
    obtain ⟨ap7, ep7, wp7⟩ := B.fld_int (i := 1) hsp5 Try.underlying27 rfl cc3 Try.underlying3
    obtain ⟨ap8, ep8, wp8⟩ := B.fld_int (i := 2) hsp5 Try.underlying27 rfl cc3 Try.underlying3
    obtain ⟨ap9, ep9, wp9⟩ := B.fld_int (i := 3) hsp5 Try.underlying27 rfl cc3 Try.underlying3
    obtain ⟨ap10, ep10, wp10⟩ := B.fld_int (i := 4) hsp5 Try.underlying27 rfl cc3 Try.underlying3
    obtain ⟨ap11, ep11, wp11⟩ := B.fld_int (i := 5) hsp5 Try.underlying27 rfl cc3 Try.underlying3
    obtain ⟨ap12, ep12, wp12⟩ := B.fld_int (i := 6) hsp5 Try.underlying27 rfl cc3 Try.underlying3
    obtain ⟨ap13, ep13, wp13⟩ := B.fld_str (i := 7) hsp5 Try.underlying27 rfl cc9 Try.underlying9
    obtain ⟨fup14, yp14, hsp14⟩ := B.fld_sub (i := 3) (n := 4) hf' Try.underlying33 rfl cc31
    obtain ⟨ap15, ep15, wp15⟩ := B.fld_int (i := 0) hsp14 Try.underlying31 rfl cc28 Try.underlying28
    obtain ⟨Ap16, np16, xsp16, ep16, hRp16, hxp16, hcp16, hmp16⟩ := B.fld_rd (i := 1) (B.Kd.int .i64) (fun _ => True) hsp14 Try.underlying31 rfl cc29 Try.underlying29 cc3 (fun n cs x hl hx => by
      obtain ⟨m, h1, _, _⟩ := DataW.trod_int Try.underlying3 hx
      exact ⟨m, h1, trivial⟩)
    obtain ⟨ap17, ep17, wp17⟩ := B.fld_int (i := 2) hsp14 Try.underlying31 rfl cc3 Try.underlying3
    obtain ⟨ap18, ep18⟩ := B.fld_bool (i := 3) hsp14 Try.underlying31 rfl cc4 Try.underlying4
    have e9 : cl = #[.int .i64 ap0, .slice Ap2 xsp2.length np2, .slice Ap3 xsp3.length np3, .bool ap4, .int .i64 ap6, .int .i64 ap7, .int .i64 ap8, .int .i64 ap9, .int .i64 ap10, .int .i64 ap11, .int .i64 ap12, .string ap13, .int .i64 ap15, .slice Ap16 xsp16.length np16, .int .i64 ap17, .bool ap18] := Array.toList_inj.1 (neq16 hsz' ep0 (B.sub_at ep2) (B.sub_at ep3) (B.sub_at ep4) (B.sub_at ep6) (B.sub_at ep7) (B.sub_at ep8) (B.sub_at ep9) (B.sub_at ep10) (B.sub_at ep11) (B.sub_at ep12) (B.sub_at ep13) (B.sub_at ep15) (B.sub_at ep16) (B.sub_at ep17) (B.sub_at ep18))
    subst e9
    exact ⟨ap0, _, _, _, _, ⟨xsp2, xsp3, ap4⟩, ⟨ap6, ap7, ap8, ap9, ap10, ap11, ap12, ap13⟩, _, _, ⟨ap15, xsp16, ap17, ap18⟩, rfl, ⟨hRp2, hRp3⟩, Nat.le_trans hcp3 hmp3, hRp16, Nat.le_trans hcp16 hmp16⟩
  clear hA0 hval0
  refine (Rc.twice_law (cs := []) W (B.St.start W) hR0 (Nat.le_trans hc0 hm0) hfp hfl).mono fun e W' ⟨he, hs⟩ => ?_
  have bel := hs.bel
  subst he
  exact ⟨_, rfl, _, _, _, [], _, [], hW', trodAll_mk1 (shut_bool Try.underlying4 _), (trodAll_cons_mk (Below.trod laidOut (by kernel_rfl) (of_decide_eq_true (by kernel_rfl)) k0 bel lt0) (trodAll_cons_mk (Below.trod laidOut (by kernel_rfl) (of_decide_eq_true (by kernel_rfl)) k1 bel lt1) trodAll_mk0)), rfl, bel.frame _, fun h => by cases h⟩

theorem over : Rows.nodeTwiceRow.holds Try.pinned (OpenSpec.ofChange Rows.nodeTwiceSpec) :=
  OpenClaim.holds_of_wide 6 Try.f6 rfl rfl rfl rfl rfl rfl rfl ⟨rfl, rfl, rfl, rfl, rfl⟩ rfl rfl rfl rfl rfl (by kernel_rfl) Try.func6 (by kernel_rfl)
    (of_decide_eq_true (by kernel_rfl)) (by unfold Func.isWrapper; first | (rw [if_pos (by decide +kernel)]; kernel_rfl) | (rw [if_neg (by decide +kernel)]; exact ⟨rfl, rfl⟩))
    (fun os started H enc _ => lifted os started H enc)

theorem proved : Rows.NodeTwiceSaid := over
#print axioms proved
end Go.Proofs.Ytanlminnobonnaa.nodeTwice
