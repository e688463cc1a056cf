/- Walks of the reference of chapter 14: exits; both sides by side. -/
import Derived.Test.YtkgmlngmojnpmaaProg
import Derived.Test.YtkgmlngmojnpmaaTal10
namespace Go.Proofs.Ytkgmlngmojnpmaa
open Go Go.RowKit B
set_option linter.unusedVariables false
set_option linter.unusedSimpArgs false
namespace Tal


theorem eC_some {o : Option Int} {c : Int} (hc : c ≠ -1) (h : eC o = c) : o = some c := by
  cases o with
  | none => exact absurd h.symm hc
  | some x => exact congrArg some h
set_option maxRecDepth 100000 in
set_option maxHeartbeats 2000000 in
theorem rexit_b {W : World} {F : Snap} {cs : List Res} (w : World) (n c : Int) {b i j bv bc : Nat} {zv zc : List Value} {fv fc : Nat × Nat} {t : T} (h : St W F cs w) (hr : RR F cs b i j bv bc zv zc fv fc t) (hb : c < 0 ∨ 255 < c) : Calls Try.prog 28 #[.pointer (some ⟨b, 0, none⟩), Vi n, Vi c] w fun e w' => e = .returned (Vi (t.exit n c).1) ∧ RR F (cs.set j [(bc, .cells (((t.exit n c).2.cs.map eC).map Vi ++ zc).toArray 3 fc)]) b i j bv bc zv zc fv fc (t.exit n c).2 ∧ St W F (cs.set j [(bc, .cells (((t.exit n c).2.cs.map eC).map Vi ++ zc).toArray 3 fc)]) w'  := by
  refine enter (P := Try.prog) (args := [.pointer (some ⟨b, 0, none⟩), Vi n, Vi c]) Try.func28 rfl rfl rfl ?_
  obtain ⟨A0, cap0, hs0, hR0⟩ := hr.s0
  have hlv := hr.lv
  have hlc := hr.lc
  have hsm := hr.small
  refine WC.seq ?_
  refine WC.reg ?_
  refine WL.v (Runs.assign rfl) rfl ?_
  refine WL.nil ?_
  refine WN.thn ?_
  refine WC.seq ?_
  refine WC.reg ?_
  refine WL.v (Runs.move rfl) rfl ?_
  refine WL.v (Runs.move rfl) rfl ?_
  refine WL.call can35 rfl rfl (at_c _ n h hs0 hR0 (by omega)) ?_
  rintro _ w1 ⟨v, rfl, hat, h1⟩
  refine ⟨_, rfl, ?_⟩
  refine WL.v (Runs.assign rfl) rfl ?_
  refine WL.nil ?_
  refine WN.thn ?_
  refine WC.seq ?_
  refine WC.seq ?_
  have hcase : v < 0 ∨ (0 ≤ v ∧ c < 0) ∨ (0 ≤ v ∧ 0 ≤ c ∧ 255 < c) := by omega
  rcases hcase with hA | hB | hC
  · skip
    refine WC.reg ?_
    refine WL.v (Runs.move rfl) rfl ?_
    refine WL.v (Runs.boolT (c := true) (Runs.lss rfl rfl) (by rw [decide_eq_true_eq]; omega)) rfl ?_
    refine WL.v (Runs.move rfl) rfl ?_
    refine WL.goff rfl rfl rfl rfl ?_
    refine WL.goff rfl rfl rfl rfl ?_
    refine WL.v (Runs.pick rfl rfl rfl) rfl ?_
    refine WL.v (Runs.move rfl) rfl ?_
    refine WL.goff rfl rfl rfl rfl ?_
    refine WL.goff rfl rfl rfl rfl ?_
    refine WL.v (Runs.pick rfl rfl rfl) rfl ?_
    refine WL.nil ?_
    refine WN.thn ?_
    refine WC.condT rfl (rfl) ?_
    refine WC.seq ?_
    refine WC.reg ?_
    refine WL.v (Runs.assign rfl) rfl ?_
    refine WL.nil ?_
    refine WN.thn ?_
    refine WC.ret ?_
    rw [exit_no hb]
    refine ret1 rfl rfl ⟨rfl, ?_, ?_⟩
    · rw [set_self hr.ic]; exact hr
    · rw [set_self hr.ic]; exact h1
  · skip
    refine WC.reg ?_
    refine WL.v (Runs.move rfl) rfl ?_
    refine WL.v (Runs.boolT (c := false) (Runs.lss rfl rfl) (by rw [decide_eq_false_iff_not]; omega)) rfl ?_
    refine WL.v (Runs.move rfl) rfl ?_
    refine WL.gon rfl rfl rfl ?_
    refine WL.v (Runs.move rfl) rfl ?_
    refine WL.gon rfl rfl rfl ?_
    refine WL.v (Runs.boolT (c := true) (Runs.lss rfl rfl) (by rw [decide_eq_true_eq]; omega)) rfl ?_
    refine WL.v (Runs.pick rfl rfl rfl) rfl ?_
    refine WL.v (Runs.move rfl) rfl ?_
    refine WL.goff rfl rfl rfl rfl ?_
    refine WL.goff rfl rfl rfl rfl ?_
    refine WL.v (Runs.pick rfl rfl rfl) rfl ?_
    refine WL.nil ?_
    refine WN.thn ?_
    refine WC.condT rfl (rfl) ?_
    refine WC.seq ?_
    refine WC.reg ?_
    refine WL.v (Runs.assign rfl) rfl ?_
    refine WL.nil ?_
    refine WN.thn ?_
    refine WC.ret ?_
    rw [exit_no hb]
    refine ret1 rfl rfl ⟨rfl, ?_, ?_⟩
    · rw [set_self hr.ic]; exact hr
    · rw [set_self hr.ic]; exact h1
  · skip
    refine WC.reg ?_
    refine WL.v (Runs.move rfl) rfl ?_
    refine WL.v (Runs.boolT (c := false) (Runs.lss rfl rfl) (by rw [decide_eq_false_iff_not]; omega)) rfl ?_
    refine WL.v (Runs.move rfl) rfl ?_
    refine WL.gon rfl rfl rfl ?_
    refine WL.v (Runs.move rfl) rfl ?_
    refine WL.gon rfl rfl rfl ?_
    refine WL.v (Runs.boolT (c := false) (Runs.lss rfl rfl) (by rw [decide_eq_false_iff_not]; omega)) rfl ?_
    refine WL.v (Runs.pick rfl rfl rfl) rfl ?_
    refine WL.v (Runs.move rfl) rfl ?_
    refine WL.gon rfl rfl rfl ?_
    refine WL.v (Runs.move rfl) rfl ?_
    refine WL.gon rfl rfl rfl ?_
    refine WL.v (Runs.boolT (c := true) (Runs.gtr rfl rfl) (by rw [decide_eq_true_eq]; omega)) rfl ?_
    refine WL.v (Runs.pick rfl rfl rfl) rfl ?_
    refine WL.nil ?_
    refine WN.thn ?_
    refine WC.condT rfl (rfl) ?_
    refine WC.seq ?_
    refine WC.reg ?_
    refine WL.v (Runs.assign rfl) rfl ?_
    refine WL.nil ?_
    refine WN.thn ?_
    refine WC.ret ?_
    rw [exit_no hb]
    refine ret1 rfl rfl ⟨rfl, ?_, ?_⟩
    · rw [set_self hr.ic]; exact hr
    · rw [set_self hr.ic]; exact h1
set_option maxRecDepth 100000 in
set_option maxHeartbeats 2000000 in
theorem rexit_g {W : World} {F : Snap} {cs : List Res} (w : World) (n c : Int) {b i j bv bc : Nat} {zv zc : List Value} {fv fc : Nat × Nat} {t : T} (h : St W F cs w) (hr : RR F cs b i j bv bc zv zc fv fc t) (h0 : 0 ≤ c) (h1 : c ≤ 255) : Calls Try.prog 28 #[.pointer (some ⟨b, 0, none⟩), Vi n, Vi c] w fun e w' => e = .returned (Vi (t.exit n c).1) ∧ RR F (cs.set j [(bc, .cells (((t.exit n c).2.cs.map eC).map Vi ++ zc).toArray 3 fc)]) b i j bv bc zv zc fv fc (t.exit n c).2 ∧ St W F (cs.set j [(bc, .cells (((t.exit n c).2.cs.map eC).map Vi ++ zc).toArray 3 fc)]) w'  := by
  refine enter (P := Try.prog) (args := [.pointer (some ⟨b, 0, none⟩), Vi n, Vi c]) Try.func28 rfl rfl rfl ?_
  obtain ⟨A0, cap0, hs0, hR0⟩ := hr.s0
  have hlv := hr.lv
  have hlc := hr.lc
  have hsm := hr.small
  refine WC.seq ?_
  refine WC.reg ?_
  refine WL.v (Runs.assign rfl) rfl ?_
  refine WL.nil ?_
  refine WN.thn ?_
  refine WC.seq ?_
  refine WC.reg ?_
  refine WL.v (Runs.move rfl) rfl ?_
  refine WL.v (Runs.move rfl) rfl ?_
  refine WL.call can35 rfl rfl (at_c _ n h hs0 hR0 (by omega)) ?_
  rintro _ w1 ⟨v, rfl, hat, h1⟩
  refine ⟨_, rfl, ?_⟩
  refine WL.v (Runs.assign rfl) rfl ?_
  refine WL.nil ?_
  refine WN.thn ?_
  refine WC.seq ?_
  refine WC.seq ?_
  have hb : ¬ (c < 0 ∨ 255 < c) := by omega
  have hcase : v < 0 ∨ 0 ≤ v := by omega
  rcases hcase with hA | hB
  · skip
    refine WC.reg ?_
    refine WL.v (Runs.move rfl) rfl ?_
    refine WL.v (Runs.boolT (c := true) (Runs.lss rfl rfl) (by rw [decide_eq_true_eq]; omega)) rfl ?_
    refine WL.v (Runs.move rfl) rfl ?_
    refine WL.goff rfl rfl rfl rfl ?_
    refine WL.goff rfl rfl rfl rfl ?_
    refine WL.v (Runs.pick rfl rfl rfl) rfl ?_
    refine WL.v (Runs.move rfl) rfl ?_
    refine WL.goff rfl rfl rfl rfl ?_
    refine WL.goff rfl rfl rfl rfl ?_
    refine WL.v (Runs.pick rfl rfl rfl) rfl ?_
    refine WL.nil ?_
    refine WN.thn ?_
    refine WC.condT rfl (rfl) ?_
    refine WC.seq ?_
    refine WC.reg ?_
    refine WL.v (Runs.assign rfl) rfl ?_
    refine WL.nil ?_
    refine WN.thn ?_
    refine WC.ret ?_
    have hno : n ∉ t.ns := by
      rcases hat with ⟨_, h⟩ | ⟨k, rfl, _⟩
      · exact h
      · omega
    rw [exit_none hno]
    refine ret1 rfl rfl ⟨rfl, ?_, ?_⟩
    · rw [set_self hr.ic]; exact hr
    · rw [set_self hr.ic]; exact h1
  · skip
    refine WC.reg ?_
    refine WL.v (Runs.move rfl) rfl ?_
    refine WL.v (Runs.boolT (c := false) (Runs.lss rfl rfl) (by rw [decide_eq_false_iff_not]; omega)) rfl ?_
    refine WL.v (Runs.move rfl) rfl ?_
    refine WL.gon rfl rfl rfl ?_
    refine WL.v (Runs.move rfl) rfl ?_
    refine WL.gon rfl rfl rfl ?_
    refine WL.v (Runs.boolT (c := false) (Runs.lss rfl rfl) (by rw [decide_eq_false_iff_not]; omega)) rfl ?_
    refine WL.v (Runs.pick rfl rfl rfl) rfl ?_
    refine WL.v (Runs.move rfl) rfl ?_
    refine WL.gon rfl rfl rfl ?_
    refine WL.v (Runs.move rfl) rfl ?_
    refine WL.gon rfl rfl rfl ?_
    refine WL.v (Runs.boolT (c := false) (Runs.gtr rfl rfl) (by rw [decide_eq_false_iff_not]; omega)) rfl ?_
    refine WL.v (Runs.pick rfl rfl rfl) rfl ?_
    refine WL.nil ?_
    refine WN.thn ?_
    refine WC.condF rfl (rfl) ?_
    refine WC.skip ?_
    refine WN.thn ?_
    refine WC.seq ?_
    refine WC.seq ?_
    obtain ⟨k, rfl, hk, rfl⟩ : ∃ k : Nat, v = (k : Int) ∧ k < t.ns.length ∧ t.ns.getD k 0 = n := by
      rcases hat with ⟨rfl, _⟩ | hat
      · omega
      · exact hat
    have hkv : k < (t.vs.map eV).length := by rw [List.length_map]; omega
    have hkc : k < (t.cs.map eC).length := by rw [List.length_map]; omega
    have hkv2 : k < t.vs.length := by omega
    have hkc2 : k < t.cs.length := by omega
    refine WC.reg ?_
    refine WL.v (Runs.move rfl) rfl ?_
    refine WL.v (Runs.nilCheckP rfl) rfl ?_
    refine WL.v (Runs.fld fld51_2 rfl) rfl ?_
    refine WL.v (Runs.load1 Try.underlying22 rfl rfl (h1.cell hr.s2)) rfl ?_
    refine WL.v (Runs.move rfl) rfl ?_
    refine WL.v (Runs.valT (u := .pointer (some ⟨bc, k, none⟩)) (Runs.lidx Try.underlying22 inf3 rfl rfl ⟨by omega, by omega⟩) (by rw [add_mk, Nat.mul_one, Nat.zero_add]; rfl)) rfl ?_
    refine WL.v (Runs.intT (n := eC (t.cs.getD k none)) (Runs.load1 Try.underlying3 rfl rfl (h1.ocell hr.ic (rowI_at eC t.cs none zc hkc2))) rfl) rfl ?_
    refine WL.v (Runs.move rfl) rfl ?_
    refine WL.v (Runs.eql rfl rfl) rfl ?_
    refine WL.nil ?_
    refine WN.thn ?_
    refine WC.cond rfl (fun c2 => ?_) (fun c2 => ?_)
    · try simp only [decide_eq_true_eq, decide_eq_false_iff_not, Bool.not_eq_true', Bool.not_eq_false', Bool.and_eq_true, Int.not_lt, Int.not_le] at c2
      first
      | (exfalso; omega)
      | skip
        refine WC.seq ?_
        refine WC.reg ?_
        refine WL.v (Runs.assign rfl) rfl ?_
        refine WL.nil ?_
        refine WN.thn ?_
        refine WC.ret ?_
        have ho1 : t.cs.getD k none = some c := eC_some (by omega) c2
        rw [exit_same hb hr.nd hlc hk ho1]
        refine ret1 rfl rfl ⟨rfl, ?_, ?_⟩
        · rw [set_self hr.ic]; exact hr
        · rw [set_self hr.ic]; exact h1
    · try simp only [decide_eq_true_eq, decide_eq_false_iff_not, Bool.not_eq_true', Bool.not_eq_false', Bool.and_eq_true, Int.not_lt, Int.not_le] at c2
      first
      | (exfalso; omega)
      | skip
        refine WC.skip ?_
        refine WN.thn ?_
        refine WC.seq ?_
        refine WC.seq ?_
        by_cases ho : t.cs.getD k none = none
        · skip
          refine WC.reg ?_
          refine WL.v (Runs.move rfl) rfl ?_
          refine WL.v (Runs.nilCheckP rfl) rfl ?_
          refine WL.v (Runs.fld fld51_2 rfl) rfl ?_
          refine WL.v (Runs.load1 Try.underlying22 rfl rfl (h1.cell hr.s2)) rfl ?_
          refine WL.v (Runs.move rfl) rfl ?_
          refine WL.v (Runs.valT (u := .pointer (some ⟨bc, k, none⟩)) (Runs.lidx Try.underlying22 inf3 rfl rfl ⟨by omega, by omega⟩) (by rw [add_mk, Nat.mul_one, Nat.zero_add]; rfl)) rfl ?_
          refine WL.v (Runs.intT (n := eC (t.cs.getD k none)) (Runs.load1 Try.underlying3 rfl rfl (h1.ocell hr.ic (rowI_at eC t.cs none zc hkc2))) rfl) rfl ?_
          refine WL.v (Runs.boolT (c := false) (Runs.neq rfl rfl) (by rw [ho]; rfl)) rfl ?_
          refine WL.v (Runs.move rfl) rfl ?_
          refine WL.gon rfl rfl rfl ?_
          refine WL.v (Runs.move rfl) rfl ?_
          refine WL.gon rfl rfl rfl ?_
          refine WL.call can14 rfl rfl (rstate_r _ h1 hr) ?_
          rintro _ w3 ⟨rfl, h3⟩
          refine ⟨_, rfl, ?_⟩
          refine WL.gon rfl rfl rfl ?_
          refine WL.v (Runs.neq rfl rfl) rfl ?_
          refine WL.v (Runs.pick rfl rfl rfl) rfl ?_
          refine WL.nil ?_
          refine WN.thn ?_
          refine WC.cond rfl (fun c4 => ?_) (fun c4 => ?_)
          · try simp only [decide_eq_true_eq, decide_eq_false_iff_not, Bool.not_eq_true', Bool.not_eq_false', Bool.and_eq_true, Int.not_lt, Int.not_le] at c4
            first
            | (exfalso; omega)
            | skip
              refine WC.seq ?_
              refine WC.reg ?_
              refine WL.v (Runs.assign rfl) rfl ?_
              refine WL.nil ?_
              refine WN.thn ?_
              refine WC.ret ?_
              have ho1 : t.cs.getD k none ≠ some c := fun e => c2 (by rw [e]; rfl)
              have hbad := exit_bad (c := c) hb hr.nd hlc hk ho1 (.inr c4)
              rw [hbad]
              refine ret1 rfl rfl ⟨rfl, ?_, ?_⟩
              · rw [set_self hr.ic]; exact hr
              · rw [set_self hr.ic]; exact h3
          · try simp only [decide_eq_true_eq, decide_eq_false_iff_not, Bool.not_eq_true', Bool.not_eq_false', Bool.and_eq_true, Int.not_lt, Int.not_le] at c4
            first
            | (exfalso; omega)
            | skip
              refine WC.skip ?_
              refine WN.thn ?_
              refine WC.seq ?_
              refine WC.reg ?_
              refine WL.v (Runs.move rfl) rfl ?_
              refine WL.v (Runs.nilCheckP rfl) rfl ?_
              refine WL.v (Runs.fld fld51_2 rfl) rfl ?_
              refine WL.v (Runs.load1 Try.underlying22 rfl rfl (h3.cell hr.s2)) rfl ?_
              refine WL.v (Runs.move rfl) rfl ?_
              refine WL.v (Runs.move rfl) rfl ?_
              refine WL.v (Runs.valT (u := .pointer (some ⟨bc, k, none⟩)) (Runs.lidx Try.underlying22 inf3 rfl rfl ⟨by omega, by omega⟩) (by rw [add_mk, Nat.mul_one, Nat.zero_add]; rfl)) rfl ?_
              refine WL.storeRow h3 j (f := Vi) (xs := t.cs.map eC) (u := eC (some c)) (zs := zc) hr.ic rfl rfl inf3 rfl hr.hc hkc ?_
              intro  w5 h5
              try simp only [List.set_cons_zero, List.set_cons_succ, List.eraseIdx_cons_zero, List.eraseIdx_cons_succ] at h5
              refine WL.nil ?_
              refine WN.thn ?_
              refine WC.seq ?_
              refine WC.reg ?_
              refine WL.v (Runs.assign rfl) rfl ?_
              refine WL.nil ?_
              refine WN.thn ?_
              refine WC.ret ?_
              have hok := exit_ok (c := c) hb hr.nd hlc hk ho c4
              rw [hok]
              have hS := h5
              rw [getD_set_map eC] at hS
              refine ret1 rfl rfl ⟨rfl, hr.exit (by simp) (fun c' hc' => ?_), hS⟩
              rcases List.mem_or_eq_of_mem_set hc' with h' | h'
              · exact hr.ok c' h'
              · injection h' with h'; omega
        · have ho3 := eC_ne hr.ok hkc2 ho
          refine WC.reg ?_
          refine WL.v (Runs.move rfl) rfl ?_
          refine WL.v (Runs.nilCheckP rfl) rfl ?_
          refine WL.v (Runs.fld fld51_2 rfl) rfl ?_
          refine WL.v (Runs.load1 Try.underlying22 rfl rfl (h1.cell hr.s2)) rfl ?_
          refine WL.v (Runs.move rfl) rfl ?_
          refine WL.v (Runs.valT (u := .pointer (some ⟨bc, k, none⟩)) (Runs.lidx Try.underlying22 inf3 rfl rfl ⟨by omega, by omega⟩) (by rw [add_mk, Nat.mul_one, Nat.zero_add]; rfl)) rfl ?_
          refine WL.v (Runs.intT (n := eC (t.cs.getD k none)) (Runs.load1 Try.underlying3 rfl rfl (h1.ocell hr.ic (rowI_at eC t.cs none zc hkc2))) rfl) rfl ?_
          refine WL.v (Runs.boolT (c := true) (Runs.neq rfl rfl) (by rw [decide_eq_false ho3]; rfl)) rfl ?_
          refine WL.v (Runs.move rfl) rfl ?_
          refine WL.goff rfl rfl rfl rfl ?_
          refine WL.goff rfl rfl rfl rfl ?_
          refine WL.goff rfl rfl rfl rfl ?_
          refine WL.v (Runs.pick rfl rfl rfl) rfl ?_
          refine WL.nil ?_
          refine WN.thn ?_
          refine WC.condT rfl (rfl) ?_
          refine WC.seq ?_
          refine WC.reg ?_
          refine WL.v (Runs.assign rfl) rfl ?_
          refine WL.nil ?_
          refine WN.thn ?_
          refine WC.ret ?_
          have ho1 : t.cs.getD k none ≠ some c := fun e => c2 (by rw [e]; rfl)
          have hbad := exit_bad (c := c) hb hr.nd hlc hk ho1 (.inl ho)
          rw [hbad]
          refine ret1 rfl rfl ⟨rfl, ?_, ?_⟩
          · rw [set_self hr.ic]; exact hr
          · rw [set_self hr.ic]; exact h1
theorem rexit_r {W : World} {F : Snap} {cs : List Res} (w : World) (n c : Int) {b i j bv bc : Nat} {zv zc : List Value} {fv fc : Nat × Nat} {t : T} (h : St W F cs w) (hr : RR F cs b i j bv bc zv zc fv fc t) : Calls Try.prog 28 #[.pointer (some ⟨b, 0, none⟩), Vi n, Vi c] w fun e w' => e = .returned (Vi (t.exit n c).1) ∧ RR F (cs.set j [(bc, .cells (((t.exit n c).2.cs.map eC).map Vi ++ zc).toArray 3 fc)]) b i j bv bc zv zc fv fc (t.exit n c).2 ∧ St W F (cs.set j [(bc, .cells (((t.exit n c).2.cs.map eC).map Vi ++ zc).toArray 3 fc)]) w' := by
  by_cases hb : c < 0 ∨ 255 < c
  · exact rexit_b w n c h hr hb
  · exact rexit_g w n c h hr (by omega) (by omega)
/-- an op: a vote of a node, or an exit by a code -/
structure Op' where
  v : Bool
  n : Int
  y : Bool
  c : Int
def T.does (t : T) (o : Op') : T := if o.v then (t.vote o.n o.y).2 else (t.exit o.n o.c).2
def Op'.val (o : Op') : Value := .agg #[.bool o.v, Vi o.n, .bool o.y, Vi o.c]
/-- both sides hold the same tally: four resources -/
def Pr (F : Snap) (p : List Res) (a b : Nat) (t : T) : Prop := ∃ mv mc lv lc bv bc zv zc fv fc, p = [[(mv, mobj lv)], [(mc, mobj lc)], [(bv, .cells ((t.vs.map eV).map Vi ++ zv).toArray 3 fv)], [(bc, .cells ((t.cs.map eC).map Vi ++ zc).toArray 3 fc)]] ∧ TR F p a 0 1 mv mc lv lc t ∧ RR F p b 2 3 bv bc zv zc fv fc t
theorem TR.app {F : Snap} {cs : List Res} {bt i j mv mc : Nat} {lv lc : List (Int × Value)} {t : T} (h : TR F cs bt i j mv mc lv lc t) (q : List Res) : TR F (cs ++ q) bt i j mv mc lv lc t := by
  obtain ⟨h1, h3, h4, h5, h6, h7, h8, h9, h10, h11, h12⟩ := h
  exact ⟨h1, h3, h4, by rw [List.getElem?_append_left (List.getElem?_eq_some_iff.1 h5).1]; exact h5, by rw [List.getElem?_append_left (List.getElem?_eq_some_iff.1 h6).1]; exact h6, h7, h8, h9, h10, h11, h12⟩
theorem RR.app {F : Snap} {cs : List Res} {b i j bv bc : Nat} {zv zc : List Value} {fv fc : Nat × Nat} {t : T} (h : RR F cs b i j bv bc zv zc fv fc t) (q : List Res) : RR F (cs ++ q) b i j bv bc zv zc fv fc t := by
  obtain ⟨h1, h3, h4, h5, h6, h7, h8, h9, h10, h11, h12, h13, h14, h15⟩ := h
  exact ⟨h1, h3, h4, by rw [List.getElem?_append_left (List.getElem?_eq_some_iff.1 h5).1]; exact h5, by rw [List.getElem?_append_left (List.getElem?_eq_some_iff.1 h6).1]; exact h6, h7, h8, h9, h10, h11, h12, h13, h14, h15⟩
theorem RR.other {F : Snap} {cs : List Res} {r : Res} {k : Nat} {b i j bv bc : Nat} {zv zc : List Value} {fv fc : Nat × Nat} {t : T} (h : RR F cs b i j bv bc zv zc fv fc t) (hi : k ≠ i) (hj : k ≠ j) : RR F (cs.set k r) b i j bv bc zv zc fv fc t := by
  obtain ⟨h1, h3, h4, h5, h6, h7, h8, h9, h10, h11, h12, h13, h14, h15⟩ := h
  exact ⟨h1, h3, h4, by rw [List.getElem?_set_ne hi]; exact h5, by rw [List.getElem?_set_ne hj]; exact h6, h7, h8, h9, h10, h11, h12, h13, h14, h15⟩
theorem TR.pre {F : Snap} {cs : List Res} {bt i j mv mc : Nat} {lv lc : List (Int × Value)} {t : T} (q : List Res) (h : TR F (cs ++ q) bt i j mv mc lv lc t) (hi : i < cs.length) (hj : j < cs.length) : TR F cs bt i j mv mc lv lc t := by
  obtain ⟨h1, h3, h4, h5, h6, h7, h8, h9, h10, h11, h12⟩ := h
  exact ⟨h1, h3, h4, by rw [List.getElem?_append_left hi] at h5; exact h5, by rw [List.getElem?_append_left hj] at h6; exact h6, h7, h8, h9, h10, h11, h12⟩
theorem RR.pre {F : Snap} {cs : List Res} {b i j bv bc : Nat} {zv zc : List Value} {fv fc : Nat × Nat} {t : T} (q : List Res) (h : RR F (cs ++ q) b i j bv bc zv zc fv fc t) (hi : i < cs.length) (hj : j < cs.length) : RR F cs b i j bv bc zv zc fv fc t := by
  obtain ⟨h1, h3, h4, h5, h6, h7, h8, h9, h10, h11, h12, h13, h14, h15⟩ := h
  exact ⟨h1, h3, h4, by rw [List.getElem?_append_left hi] at h5; exact h5, by rw [List.getElem?_append_left hj] at h6; exact h6, h7, h8, h9, h10, h11, h12, h13, h14, h15⟩
theorem Pr.mono {F G : Snap} {p : List Res} {a b : Nat} {t : T} (hle : Le F G) (h : Pr F p a b t) : Pr G p a b t := by
  obtain ⟨mv, mc, lv, lc, bv, bc, zv, zc, fv, fc, e, h1, h2⟩ := h
  exact ⟨mv, mc, lv, lc, bv, bc, zv, zc, fv, fc, e, h1.mono hle, h2.mono hle⟩

end Tal
end Go.Proofs.Ytkgmlngmojnpmaa
