/- Walks of package dag: whether a step may be. -/
import Derived.Test.YtkfkdenikkadhaaD1
namespace Go.Proofs.Ytkfkdenikkadhaa
open Go Go.RowKit B
set_option linter.unusedVariables false
set_option linter.unusedSimpArgs false
namespace Dg

theorem inf40 : Inf Try.prog 40 (.agg #[.int .i64 0, .int .i64 0]) 2 16 := by unfold Inf; kernel_rfl
theorem fld38_0 : fldB Try.prog 38 0 0 = true := by kernel_rfl
theorem fld38_1 : fldB Try.prog 38 1 1 = true := by kernel_rfl
theorem fld38_2 : fldB Try.prog 38 2 2 = true := by kernel_rfl
theorem fld38_3 : fldB Try.prog 38 3 3 = true := by kernel_rfl
theorem fld38_4 : fldB Try.prog 38 4 4 = true := by kernel_rfl
theorem fld40_0 : fldB Try.prog 40 0 0 = true := by kernel_rfl
theorem fld40_1 : fldB Try.prog 40 1 1 = true := by kernel_rfl
theorem can23 : B.Can Try.prog 23 := ⟨_, Try.func23, by kernel_rfl, rfl⟩   -- roundhouse/dag.in
theorem can36 : B.Can Try.prog 36 := ⟨_, Try.func36, by kernel_rfl, rfl⟩   -- slices.Contains[[]int,int]
theorem five (a b c d : Bool) : a = false ∨ (a = true ∧ b = false) ∨ (a = true ∧ b = true ∧ c = false) ∨ (a = true ∧ b = true ∧ c = true ∧ d = false) ∨ (a = true ∧ b = true ∧ c = true ∧ d = true) := by
  cases a <;> cases b <;> cases c <;> cases d <;> simp
def okE (a : Int) (n : Nat) (af : List E) (k : Nat) : Prop := inB (af.getD k E0).st 0 ((n : Int) - 1) = true ∧ inB (af.getD k E0).kd 0 2 = true ∧ (af.getD k E0).st ∉ a :: (af.take k).map E.st
instance (a : Int) (n : Nat) (af : List E) (k : Nat) : Decidable (okE a n af k) := inferInstanceAs (Decidable (_ ∧ _ ∧ _))
def okS (s : S) (a : Int) (n : Nat) : Prop := (inB s.rk 1 32 = true ∧ inB s.per 1 256 = true ∧ inB s.ds 0 1 = true ∧ inB s.lim 1 1073741824 = true) ∧ ∀ k, k < s.af.length → okE a n s.af k
instance (s : S) (a : Int) (n : Nat) : Decidable (okS s a n) := inferInstanceAs (Decidable ((_ ∧ _ ∧ _ ∧ _) ∧ _))
theorem take_st {af : List E} {k : Nat} (a : Int) (h : k < af.length) : (a :: (af.take k).map E.st) ++ [(af.getD k E0).st] = a :: (af.take (k + 1)).map E.st := by
  have e : af.take (k + 1) = af.take k ++ [af.getD k E0] := by rw [List.take_add_one, List.getElem?_eq_getElem h, List.getD_eq_getElem?_getD, List.getElem?_eq_getElem h]; rfl
  rw [e, List.map_append]; rfl
theorem three (a b : Bool) (P : Prop) : a = false ∨ (a = true ∧ b = false) ∨ (a = true ∧ b = true ∧ P) ∨ (a = true ∧ b = true ∧ ¬ P) := by
  by_cases h : P <;> cases a <;> cases b <;> simp [h]
set_option maxRecDepth 100000 in
set_option maxHeartbeats 4000000 in
theorem step_c {W : World} {F : Snap} {cs : List Res} (w : World) {A : Option Addr} {cap : Nat} (s : S) (a : Int) (n : Nat) (h : St W F cs w) (hR : RdS KE F A s.af) (hn : n ≤ 100000) (ha : s.af.length ≤ 100000) : Calls Try.prog 24 #[.agg #[Vi s.rk, Vi s.per, Vi s.ds, Vi s.lim, .slice A s.af.length cap], Vi a, Vi (n : Nat)] w fun r w' => r = .returned (.bool (decide (okS s a n))) ∧ St W F cs w'  := by
  refine enter (P := Try.prog) (args := [.agg #[Vi s.rk, Vi s.per, Vi s.ds, Vi s.lim, .slice A s.af.length cap], Vi a, Vi (n : Nat)]) Try.func24 rfl rfl rfl ?_
  refine WC.seq ?_
  refine WC.reg ?_
  refine WL.box rfl h rfl ?_
  intro b3 w1 h1
  refine WL.v (Runs.assign rfl) rfl ?_
  refine WL.nil ?_
  refine WN.thn ?_
  refine WC.seq ?_
  refine WC.seq ?_
  rcases five (inB s.rk 1 32) (inB s.per 1 256) (inB s.ds 0 1) (inB s.lim 1 1073741824) with n0 | ⟨y0, n1⟩ | ⟨y0, y1, n2⟩ | ⟨y0, y1, y2, n3⟩ | ⟨y0, y1, y2, y3⟩
  · skip
    refine WC.reg ?_
    refine WL.v (Runs.fld fld38_0 rfl) rfl ?_
    refine WL.v (Runs.load1 Try.underlying3 rfl rfl (h1.ocell (i := 0) rfl rfl)) rfl ?_
    refine WL.call can23 rfl rfl (in_c _ s.rk 1 32 h1) ?_
    rintro _ w2 ⟨rfl, h2⟩
    refine ⟨_, rfl, ?_⟩
    refine WL.v (Runs.boolT (c := true) (Runs.not rfl) (by rw [n0]; rfl)) rfl ?_
    refine WL.v (Runs.move rfl) rfl ?_
    refine WL.goff rfl rfl rfl rfl ?_
    refine WL.goff rfl rfl rfl rfl ?_
    refine WL.goff rfl rfl rfl rfl ?_
    refine WL.goff rfl rfl rfl rfl ?_
    refine WL.v (Runs.pick rfl rfl rfl) rfl ?_
    refine WL.v (Runs.move rfl) rfl ?_
    refine WL.goff rfl rfl rfl rfl ?_
    refine WL.goff rfl rfl rfl rfl ?_
    refine WL.goff rfl rfl rfl rfl ?_
    refine WL.goff rfl rfl rfl rfl ?_
    refine WL.v (Runs.pick rfl rfl rfl) rfl ?_
    refine WL.v (Runs.move rfl) rfl ?_
    refine WL.goff rfl rfl rfl rfl ?_
    refine WL.goff rfl rfl rfl rfl ?_
    refine WL.goff rfl rfl rfl rfl ?_
    refine WL.goff rfl rfl rfl rfl ?_
    refine WL.v (Runs.pick rfl rfl rfl) rfl ?_
    refine WL.nil ?_
    refine WN.thn ?_
    refine WC.condT rfl (rfl) ?_
    refine WC.seq ?_
    refine WC.reg ?_
    refine WL.v (Runs.assign rfl) rfl ?_
    refine WL.nil ?_
    refine WN.thn ?_
    refine WC.ret ?_
    refine ret1 rfl rfl ⟨?_, h2.drop 0⟩
    rw [decide_eq_false]
    intro hh
    obtain ⟨⟨g0, g1, g2, g3⟩, _⟩ := hh
    rw [n0] at g0
    cases g0
  · skip
    refine WC.reg ?_
    refine WL.v (Runs.fld fld38_0 rfl) rfl ?_
    refine WL.v (Runs.load1 Try.underlying3 rfl rfl (h1.ocell (i := 0) rfl rfl)) rfl ?_
    refine WL.call can23 rfl rfl (in_c _ s.rk 1 32 h1) ?_
    rintro _ w3 ⟨rfl, h3⟩
    refine ⟨_, rfl, ?_⟩
    refine WL.v (Runs.boolT (c := false) (Runs.not rfl) (by rw [y0]; rfl)) rfl ?_
    refine WL.v (Runs.move rfl) rfl ?_
    refine WL.gon rfl rfl rfl ?_
    refine WL.v (Runs.fld fld38_1 rfl) rfl ?_
    refine WL.gon rfl rfl rfl ?_
    refine WL.v (Runs.load1 Try.underlying3 rfl rfl (h3.ocell (i := 0) rfl rfl)) rfl ?_
    refine WL.gon rfl rfl rfl ?_
    refine WL.call can23 rfl rfl (in_c _ s.per 1 256 h3) ?_
    rintro _ w4 ⟨rfl, h4⟩
    refine ⟨_, rfl, ?_⟩
    refine WL.gon rfl rfl rfl ?_
    refine WL.v (Runs.boolT (c := true) (Runs.not rfl) (by rw [n1]; rfl)) rfl ?_
    refine WL.v (Runs.pick rfl rfl rfl) rfl ?_
    refine WL.v (Runs.move rfl) rfl ?_
    refine WL.goff rfl rfl rfl rfl ?_
    refine WL.goff rfl rfl rfl rfl ?_
    refine WL.goff rfl rfl rfl rfl ?_
    refine WL.goff rfl rfl rfl rfl ?_
    refine WL.v (Runs.pick rfl rfl rfl) rfl ?_
    refine WL.v (Runs.move rfl) rfl ?_
    refine WL.goff rfl rfl rfl rfl ?_
    refine WL.goff rfl rfl rfl rfl ?_
    refine WL.goff rfl rfl rfl rfl ?_
    refine WL.goff rfl rfl rfl rfl ?_
    refine WL.v (Runs.pick rfl rfl rfl) rfl ?_
    refine WL.nil ?_
    refine WN.thn ?_
    refine WC.condT rfl (rfl) ?_
    refine WC.seq ?_
    refine WC.reg ?_
    refine WL.v (Runs.assign rfl) rfl ?_
    refine WL.nil ?_
    refine WN.thn ?_
    refine WC.ret ?_
    refine ret1 rfl rfl ⟨?_, h4.drop 0⟩
    rw [decide_eq_false]
    intro hh
    obtain ⟨⟨g0, g1, g2, g3⟩, _⟩ := hh
    rw [n1] at g1
    cases g1
  · skip
    refine WC.reg ?_
    refine WL.v (Runs.fld fld38_0 rfl) rfl ?_
    refine WL.v (Runs.load1 Try.underlying3 rfl rfl (h1.ocell (i := 0) rfl rfl)) rfl ?_
    refine WL.call can23 rfl rfl (in_c _ s.rk 1 32 h1) ?_
    rintro _ w5 ⟨rfl, h5⟩
    refine ⟨_, rfl, ?_⟩
    refine WL.v (Runs.boolT (c := false) (Runs.not rfl) (by rw [y0]; rfl)) rfl ?_
    refine WL.v (Runs.move rfl) rfl ?_
    refine WL.gon rfl rfl rfl ?_
    refine WL.v (Runs.fld fld38_1 rfl) rfl ?_
    refine WL.gon rfl rfl rfl ?_
    refine WL.v (Runs.load1 Try.underlying3 rfl rfl (h5.ocell (i := 0) rfl rfl)) rfl ?_
    refine WL.gon rfl rfl rfl ?_
    refine WL.call can23 rfl rfl (in_c _ s.per 1 256 h5) ?_
    rintro _ w6 ⟨rfl, h6⟩
    refine ⟨_, rfl, ?_⟩
    refine WL.gon rfl rfl rfl ?_
    refine WL.v (Runs.boolT (c := false) (Runs.not rfl) (by rw [y1]; rfl)) rfl ?_
    refine WL.v (Runs.pick rfl rfl rfl) rfl ?_
    refine WL.v (Runs.move rfl) rfl ?_
    refine WL.gon rfl rfl rfl ?_
    refine WL.v (Runs.fld fld38_2 rfl) rfl ?_
    refine WL.gon rfl rfl rfl ?_
    refine WL.v (Runs.load1 Try.underlying3 rfl rfl (h6.ocell (i := 0) rfl rfl)) rfl ?_
    refine WL.gon rfl rfl rfl ?_
    refine WL.call can23 rfl rfl (in_c _ s.ds 0 1 h6) ?_
    rintro _ w7 ⟨rfl, h7⟩
    refine ⟨_, rfl, ?_⟩
    refine WL.gon rfl rfl rfl ?_
    refine WL.v (Runs.boolT (c := true) (Runs.not rfl) (by rw [n2]; rfl)) rfl ?_
    refine WL.v (Runs.pick rfl rfl rfl) rfl ?_
    refine WL.v (Runs.move rfl) rfl ?_
    refine WL.goff rfl rfl rfl rfl ?_
    refine WL.goff rfl rfl rfl rfl ?_
    refine WL.goff rfl rfl rfl rfl ?_
    refine WL.goff rfl rfl rfl rfl ?_
    refine WL.v (Runs.pick rfl rfl rfl) rfl ?_
    refine WL.nil ?_
    refine WN.thn ?_
    refine WC.condT rfl (rfl) ?_
    refine WC.seq ?_
    refine WC.reg ?_
    refine WL.v (Runs.assign rfl) rfl ?_
    refine WL.nil ?_
    refine WN.thn ?_
    refine WC.ret ?_
    refine ret1 rfl rfl ⟨?_, h7.drop 0⟩
    rw [decide_eq_false]
    intro hh
    obtain ⟨⟨g0, g1, g2, g3⟩, _⟩ := hh
    rw [n2] at g2
    cases g2
  · skip
    refine WC.reg ?_
    refine WL.v (Runs.fld fld38_0 rfl) rfl ?_
    refine WL.v (Runs.load1 Try.underlying3 rfl rfl (h1.ocell (i := 0) rfl rfl)) rfl ?_
    refine WL.call can23 rfl rfl (in_c _ s.rk 1 32 h1) ?_
    rintro _ w8 ⟨rfl, h8⟩
    refine ⟨_, rfl, ?_⟩
    refine WL.v (Runs.boolT (c := false) (Runs.not rfl) (by rw [y0]; rfl)) rfl ?_
    refine WL.v (Runs.move rfl) rfl ?_
    refine WL.gon rfl rfl rfl ?_
    refine WL.v (Runs.fld fld38_1 rfl) rfl ?_
    refine WL.gon rfl rfl rfl ?_
    refine WL.v (Runs.load1 Try.underlying3 rfl rfl (h8.ocell (i := 0) rfl rfl)) rfl ?_
    refine WL.gon rfl rfl rfl ?_
    refine WL.call can23 rfl rfl (in_c _ s.per 1 256 h8) ?_
    rintro _ w9 ⟨rfl, h9⟩
    refine ⟨_, rfl, ?_⟩
    refine WL.gon rfl rfl rfl ?_
    refine WL.v (Runs.boolT (c := false) (Runs.not rfl) (by rw [y1]; rfl)) rfl ?_
    refine WL.v (Runs.pick rfl rfl rfl) rfl ?_
    refine WL.v (Runs.move rfl) rfl ?_
    refine WL.gon rfl rfl rfl ?_
    refine WL.v (Runs.fld fld38_2 rfl) rfl ?_
    refine WL.gon rfl rfl rfl ?_
    refine WL.v (Runs.load1 Try.underlying3 rfl rfl (h9.ocell (i := 0) rfl rfl)) rfl ?_
    refine WL.gon rfl rfl rfl ?_
    refine WL.call can23 rfl rfl (in_c _ s.ds 0 1 h9) ?_
    rintro _ w10 ⟨rfl, h10⟩
    refine ⟨_, rfl, ?_⟩
    refine WL.gon rfl rfl rfl ?_
    refine WL.v (Runs.boolT (c := false) (Runs.not rfl) (by rw [y2]; rfl)) rfl ?_
    refine WL.v (Runs.pick rfl rfl rfl) rfl ?_
    refine WL.v (Runs.move rfl) rfl ?_
    refine WL.gon rfl rfl rfl ?_
    refine WL.v (Runs.fld fld38_3 rfl) rfl ?_
    refine WL.gon rfl rfl rfl ?_
    refine WL.v (Runs.load1 Try.underlying3 rfl rfl (h10.ocell (i := 0) rfl rfl)) rfl ?_
    refine WL.gon rfl rfl rfl ?_
    refine WL.call can23 rfl rfl (in_c _ s.lim 1 1073741824 h10) ?_
    rintro _ w11 ⟨rfl, h11⟩
    refine ⟨_, rfl, ?_⟩
    refine WL.gon rfl rfl rfl ?_
    refine WL.v (Runs.boolT (c := true) (Runs.not rfl) (by rw [n3]; rfl)) rfl ?_
    refine WL.v (Runs.pick rfl rfl rfl) rfl ?_
    refine WL.nil ?_
    refine WN.thn ?_
    refine WC.condT rfl (rfl) ?_
    refine WC.seq ?_
    refine WC.reg ?_
    refine WL.v (Runs.assign rfl) rfl ?_
    refine WL.nil ?_
    refine WN.thn ?_
    refine WC.ret ?_
    refine ret1 rfl rfl ⟨?_, h11.drop 0⟩
    rw [decide_eq_false]
    intro hh
    obtain ⟨⟨g0, g1, g2, g3⟩, _⟩ := hh
    rw [n3] at g3
    cases g3
  · skip
    refine WC.reg ?_
    refine WL.v (Runs.fld fld38_0 rfl) rfl ?_
    refine WL.v (Runs.load1 Try.underlying3 rfl rfl (h1.ocell (i := 0) rfl rfl)) rfl ?_
    refine WL.call can23 rfl rfl (in_c _ s.rk 1 32 h1) ?_
    rintro _ w12 ⟨rfl, h12⟩
    refine ⟨_, rfl, ?_⟩
    refine WL.v (Runs.boolT (c := false) (Runs.not rfl) (by rw [y0]; rfl)) rfl ?_
    refine WL.v (Runs.move rfl) rfl ?_
    refine WL.gon rfl rfl rfl ?_
    refine WL.v (Runs.fld fld38_1 rfl) rfl ?_
    refine WL.gon rfl rfl rfl ?_
    refine WL.v (Runs.load1 Try.underlying3 rfl rfl (h12.ocell (i := 0) rfl rfl)) rfl ?_
    refine WL.gon rfl rfl rfl ?_
    refine WL.call can23 rfl rfl (in_c _ s.per 1 256 h12) ?_
    rintro _ w13 ⟨rfl, h13⟩
    refine ⟨_, rfl, ?_⟩
    refine WL.gon rfl rfl rfl ?_
    refine WL.v (Runs.boolT (c := false) (Runs.not rfl) (by rw [y1]; rfl)) rfl ?_
    refine WL.v (Runs.pick rfl rfl rfl) rfl ?_
    refine WL.v (Runs.move rfl) rfl ?_
    refine WL.gon rfl rfl rfl ?_
    refine WL.v (Runs.fld fld38_2 rfl) rfl ?_
    refine WL.gon rfl rfl rfl ?_
    refine WL.v (Runs.load1 Try.underlying3 rfl rfl (h13.ocell (i := 0) rfl rfl)) rfl ?_
    refine WL.gon rfl rfl rfl ?_
    refine WL.call can23 rfl rfl (in_c _ s.ds 0 1 h13) ?_
    rintro _ w14 ⟨rfl, h14⟩
    refine ⟨_, rfl, ?_⟩
    refine WL.gon rfl rfl rfl ?_
    refine WL.v (Runs.boolT (c := false) (Runs.not rfl) (by rw [y2]; rfl)) rfl ?_
    refine WL.v (Runs.pick rfl rfl rfl) rfl ?_
    refine WL.v (Runs.move rfl) rfl ?_
    refine WL.gon rfl rfl rfl ?_
    refine WL.v (Runs.fld fld38_3 rfl) rfl ?_
    refine WL.gon rfl rfl rfl ?_
    refine WL.v (Runs.load1 Try.underlying3 rfl rfl (h14.ocell (i := 0) rfl rfl)) rfl ?_
    refine WL.gon rfl rfl rfl ?_
    refine WL.call can23 rfl rfl (in_c _ s.lim 1 1073741824 h14) ?_
    rintro _ w15 ⟨rfl, h15⟩
    refine ⟨_, rfl, ?_⟩
    refine WL.gon rfl rfl rfl ?_
    refine WL.v (Runs.boolT (c := false) (Runs.not rfl) (by rw [y3]; rfl)) rfl ?_
    refine WL.v (Runs.pick rfl rfl rfl) rfl ?_
    refine WL.nil ?_
    refine WN.thn ?_
    refine WC.condF rfl (rfl) ?_
    refine WC.skip ?_
    refine WN.thn ?_
    refine WC.seq ?_
    refine WC.reg ?_
    refine WL.v (Runs.move rfl) rfl ?_
    refine WL.lit (vs := (([a] : List Int)).map Vi) h15 rfl Try.underlying28 inf3 rfl rfl rfl rfl rfl ?_
    intro lit33 w16 h16
    refine WL.v (Runs.assign rfl) rfl ?_
    refine WL.nil ?_
    refine WN.thn ?_
    refine WC.seq ?_
    refine WC.seq ?_
    refine WC.reg ?_
    refine WL.v (Runs.fld fld38_4 rfl) rfl ?_
    refine WL.v (Runs.load1 Try.underlying36 rfl rfl (h16.ocell (i := 1) rfl rfl)) rfl ?_
    refine WL.v (Runs.intT (n := (s.af.length : Int)) (Runs.llen Try.underlying36 rfl rfl) rfl) rfl ?_
    refine WL.v (Runs.move rfl) rfl ?_
    refine WL.nil ?_
    refine WN.thn ?_
    refine WC.block ?_
    refine WC.loop (σ := Nat × Res × Value) (fun q_ => [(1, Vi a), (2, Vi (n : Nat)), (3, .pointer (some ⟨b3, 0, none⟩)), (7, q_.2.2), (35, .slice A s.af.length cap), (36, .int .i64 (s.af.length : Int)), (37, .int .i64 (q_.1 : Int))]) (fun q_ w => q_.1 ≤ s.af.length ∧ (∀ j, j < q_.1 → okE a n s.af j) ∧ Row 3 Vi q_.2.1 q_.2.2 (a :: (s.af.take q_.1).map E.st) ∧ St W F (q_.2.1 :: [(b3, .cells #[Vi s.rk, Vi s.per, Vi s.ds, Vi s.lim, .slice A s.af.length cap] 38 (0, 0))] :: cs) w) (fun q_ => s.af.length - q_.1) (⟨0, _, _⟩) (by repeat (first | exact trivial | refine ⟨rfl, ?_⟩)) (⟨Nat.zero_le _, fun j hj => absurd hj (Nat.not_lt_zero _), Row.lit (xs := [a]) rfl, h16⟩) ?_
    rintro ⟨k, r, v⟩ w17 ⟨hk, hok, hro, hL⟩
    try dsimp only at hk hok hro hL
    refine WC.sub (s := [(1, Vi a), (2, Vi (n : Nat)), (3, .pointer (some ⟨b3, 0, none⟩)), (7, v), (35, .slice A s.af.length cap), (36, .int .i64 (s.af.length : Int)), (37, .int .i64 (k : Int))]) (by repeat (first | exact trivial | refine ⟨rfl, ?_⟩)) ?_
    obtain ⟨B, capr, rfl, hcap⟩ := hro.val
    refine WC.seq ?_
    refine WC.reg ?_
    refine WL.v (Runs.lss rfl rfl) rfl ?_
    refine WL.nil ?_
    refine WN.thn ?_
    refine WC.seq ?_
    refine WC.cond rfl (fun c18 => ?_) (fun c18 => ?_)
    · try simp only [decide_eq_true_eq, decide_eq_false_iff_not, Bool.not_eq_true', Bool.not_eq_false', Bool.and_eq_true, Int.not_lt, Int.not_le] at c18
      first
      | (exfalso; omega)
      | skip
        refine WC.skip ?_
        refine WN.thn ?_
        refine WC.seq ?_
        refine WC.block ?_
        refine WC.seq ?_
        have hk2 : k < s.af.length := by omega
        obtain ⟨ae, rfl⟩ := rdA hR (by omega)
        refine WC.reg ?_
        refine WL.v (Runs.lidxK Try.underlying36 inf40 rfl rfl (n := k) rfl (by omega)) rfl ?_
        refine WL.v (Runs.edgeA hL hR rfl (by omega) Try.underlying40 rfl inf40 rfl) rfl ?_
        refine WL.alloc' rfl hL inf40 ?_
        intro b9 w19 h19
        refine WL.storeAll h19 0 rfl rfl rfl inf40 rfl rfl rfl (Free.zero _) ?_
        intro  w20 h20
        try simp only [List.set_cons_zero, List.set_cons_succ, List.eraseIdx_cons_zero, List.eraseIdx_cons_succ] at h20
        refine WL.nil ?_
        refine WN.thn ?_
        refine WC.seq ?_
        refine WC.seq ?_
        rcases three (inB (s.af.getD k E0).st 0 ((n : Int) - 1)) (inB (s.af.getD k E0).kd 0 2) ((s.af.getD k E0).st ∈ a :: (s.af.take k).map E.st) with n0 | ⟨z0, n1⟩ | ⟨z0, z1, n2⟩ | ⟨z0, z1, z2⟩
        · skip
          refine WC.reg ?_
          refine WL.v (Runs.fld fld40_0 rfl) rfl ?_
          refine WL.v (Runs.load1 Try.underlying3 rfl rfl (h20.ocell (i := 0) rfl rfl)) rfl ?_
          refine WL.v (Runs.move rfl) rfl ?_
          refine WL.v (Runs.subn rfl rfl (by omega)) rfl ?_
          refine WL.call can23 rfl rfl (in_c _ (s.af.getD k E0).st 0 ((n : Int) - 1) h20) ?_
          rintro _ w21 ⟨rfl, h21⟩
          refine ⟨_, rfl, ?_⟩
          refine WL.v (Runs.boolT (c := true) (Runs.not rfl) (by rw [n0]; rfl)) rfl ?_
          refine WL.v (Runs.move rfl) rfl ?_
          refine WL.goff rfl rfl rfl rfl ?_
          refine WL.goff rfl rfl rfl rfl ?_
          refine WL.goff rfl rfl rfl rfl ?_
          refine WL.goff rfl rfl rfl rfl ?_
          refine WL.v (Runs.pick rfl rfl rfl) rfl ?_
          refine WL.v (Runs.move rfl) rfl ?_
          refine WL.goff rfl rfl rfl rfl ?_
          refine WL.goff rfl rfl rfl rfl ?_
          refine WL.goff rfl rfl rfl rfl ?_
          refine WL.goff rfl rfl rfl rfl ?_
          refine WL.v (Runs.pick rfl rfl rfl) rfl ?_
          refine WL.nil ?_
          refine WN.thn ?_
          refine WC.condT rfl (rfl) ?_
          refine WC.seq ?_
          refine WC.reg ?_
          refine WL.v (Runs.assign rfl) rfl ?_
          refine WL.nil ?_
          refine WN.thn ?_
          refine WC.ret ?_
          refine ret1 rfl rfl ⟨?_, ((h21.drop 0).drop 0).drop 0⟩
          rw [decide_eq_false]
          intro hh
          obtain ⟨g0, g1, g2⟩ := hh.2 k hk2
          rw [n0] at g0; cases g0
        · skip
          refine WC.reg ?_
          refine WL.v (Runs.fld fld40_0 rfl) rfl ?_
          refine WL.v (Runs.load1 Try.underlying3 rfl rfl (h20.ocell (i := 0) rfl rfl)) rfl ?_
          refine WL.v (Runs.move rfl) rfl ?_
          refine WL.v (Runs.subn rfl rfl (by omega)) rfl ?_
          refine WL.call can23 rfl rfl (in_c _ (s.af.getD k E0).st 0 ((n : Int) - 1) h20) ?_
          rintro _ w22 ⟨rfl, h22⟩
          refine ⟨_, rfl, ?_⟩
          refine WL.v (Runs.boolT (c := false) (Runs.not rfl) (by rw [z0]; rfl)) rfl ?_
          refine WL.v (Runs.move rfl) rfl ?_
          refine WL.gon rfl rfl rfl ?_
          refine WL.v (Runs.fld fld40_1 rfl) rfl ?_
          refine WL.gon rfl rfl rfl ?_
          refine WL.v (Runs.load1 Try.underlying3 rfl rfl (h22.ocell (i := 0) rfl rfl)) rfl ?_
          refine WL.gon rfl rfl rfl ?_
          refine WL.call can23 rfl rfl (in_c _ (s.af.getD k E0).kd 0 2 h22) ?_
          rintro _ w23 ⟨rfl, h23⟩
          refine ⟨_, rfl, ?_⟩
          refine WL.gon rfl rfl rfl ?_
          refine WL.v (Runs.boolT (c := true) (Runs.not rfl) (by rw [n1]; rfl)) rfl ?_
          refine WL.v (Runs.pick rfl rfl rfl) rfl ?_
          refine WL.v (Runs.move rfl) rfl ?_
          refine WL.goff rfl rfl rfl rfl ?_
          refine WL.goff rfl rfl rfl rfl ?_
          refine WL.goff rfl rfl rfl rfl ?_
          refine WL.goff rfl rfl rfl rfl ?_
          refine WL.v (Runs.pick rfl rfl rfl) rfl ?_
          refine WL.nil ?_
          refine WN.thn ?_
          refine WC.condT rfl (rfl) ?_
          refine WC.seq ?_
          refine WC.reg ?_
          refine WL.v (Runs.assign rfl) rfl ?_
          refine WL.nil ?_
          refine WN.thn ?_
          refine WC.ret ?_
          refine ret1 rfl rfl ⟨?_, ((h23.drop 0).drop 0).drop 0⟩
          rw [decide_eq_false]
          intro hh
          obtain ⟨g0, g1, g2⟩ := hh.2 k hk2
          rw [n1] at g1; cases g1
        · skip
          refine WC.reg ?_
          refine WL.v (Runs.fld fld40_0 rfl) rfl ?_
          refine WL.v (Runs.load1 Try.underlying3 rfl rfl (h20.ocell (i := 0) rfl rfl)) rfl ?_
          refine WL.v (Runs.move rfl) rfl ?_
          refine WL.v (Runs.subn rfl rfl (by omega)) rfl ?_
          refine WL.call can23 rfl rfl (in_c _ (s.af.getD k E0).st 0 ((n : Int) - 1) h20) ?_
          rintro _ w24 ⟨rfl, h24⟩
          refine ⟨_, rfl, ?_⟩
          refine WL.v (Runs.boolT (c := false) (Runs.not rfl) (by rw [z0]; rfl)) rfl ?_
          refine WL.v (Runs.move rfl) rfl ?_
          refine WL.gon rfl rfl rfl ?_
          refine WL.v (Runs.fld fld40_1 rfl) rfl ?_
          refine WL.gon rfl rfl rfl ?_
          refine WL.v (Runs.load1 Try.underlying3 rfl rfl (h24.ocell (i := 0) rfl rfl)) rfl ?_
          refine WL.gon rfl rfl rfl ?_
          refine WL.call can23 rfl rfl (in_c _ (s.af.getD k E0).kd 0 2 h24) ?_
          rintro _ w25 ⟨rfl, h25⟩
          refine ⟨_, rfl, ?_⟩
          refine WL.gon rfl rfl rfl ?_
          refine WL.v (Runs.boolT (c := false) (Runs.not rfl) (by rw [z1]; rfl)) rfl ?_
          refine WL.v (Runs.pick rfl rfl rfl) rfl ?_
          refine WL.v (Runs.move rfl) rfl ?_
          refine WL.gon rfl rfl rfl ?_
          refine WL.v (Runs.move rfl) rfl ?_
          refine WL.gon rfl rfl rfl ?_
          refine WL.v (Runs.fld fld40_0 rfl) rfl ?_
          refine WL.gon rfl rfl rfl ?_
          refine WL.v (Runs.load1 Try.underlying3 rfl rfl (h25.ocell (i := 0) rfl rfl)) rfl ?_
          refine WL.gon rfl rfl rfl ?_
          refine WL.call can36 rfl rfl (contains_c _ (s.af.getD k E0).st h25 (RdW.row hro (i := 1) rfl rfl h25) (by rw [List.length_cons, List.length_map, List.length_take]; omega)) ?_
          rintro _ w26 ⟨rfl, h26⟩
          refine ⟨_, rfl, ?_⟩
          refine WL.v (Runs.pick rfl rfl rfl) rfl ?_
          refine WL.nil ?_
          refine WN.thn ?_
          refine WC.condT rfl ((by rw [decide_eq_true n2])) ?_
          refine WC.seq ?_
          refine WC.reg ?_
          refine WL.v (Runs.assign rfl) rfl ?_
          refine WL.nil ?_
          refine WN.thn ?_
          refine WC.ret ?_
          refine ret1 rfl rfl ⟨?_, ((h26.drop 0).drop 0).drop 0⟩
          rw [decide_eq_false]
          intro hh
          obtain ⟨g0, g1, g2⟩ := hh.2 k hk2
          exact g2 n2
        · skip
          refine WC.reg ?_
          refine WL.v (Runs.fld fld40_0 rfl) rfl ?_
          refine WL.v (Runs.load1 Try.underlying3 rfl rfl (h20.ocell (i := 0) rfl rfl)) rfl ?_
          refine WL.v (Runs.move rfl) rfl ?_
          refine WL.v (Runs.subn rfl rfl (by omega)) rfl ?_
          refine WL.call can23 rfl rfl (in_c _ (s.af.getD k E0).st 0 ((n : Int) - 1) h20) ?_
          rintro _ w27 ⟨rfl, h27⟩
          refine ⟨_, rfl, ?_⟩
          refine WL.v (Runs.boolT (c := false) (Runs.not rfl) (by rw [z0]; rfl)) rfl ?_
          refine WL.v (Runs.move rfl) rfl ?_
          refine WL.gon rfl rfl rfl ?_
          refine WL.v (Runs.fld fld40_1 rfl) rfl ?_
          refine WL.gon rfl rfl rfl ?_
          refine WL.v (Runs.load1 Try.underlying3 rfl rfl (h27.ocell (i := 0) rfl rfl)) rfl ?_
          refine WL.gon rfl rfl rfl ?_
          refine WL.call can23 rfl rfl (in_c _ (s.af.getD k E0).kd 0 2 h27) ?_
          rintro _ w28 ⟨rfl, h28⟩
          refine ⟨_, rfl, ?_⟩
          refine WL.gon rfl rfl rfl ?_
          refine WL.v (Runs.boolT (c := false) (Runs.not rfl) (by rw [z1]; rfl)) rfl ?_
          refine WL.v (Runs.pick rfl rfl rfl) rfl ?_
          refine WL.v (Runs.move rfl) rfl ?_
          refine WL.gon rfl rfl rfl ?_
          refine WL.v (Runs.move rfl) rfl ?_
          refine WL.gon rfl rfl rfl ?_
          refine WL.v (Runs.fld fld40_0 rfl) rfl ?_
          refine WL.gon rfl rfl rfl ?_
          refine WL.v (Runs.load1 Try.underlying3 rfl rfl (h28.ocell (i := 0) rfl rfl)) rfl ?_
          refine WL.gon rfl rfl rfl ?_
          refine WL.call can36 rfl rfl (contains_c _ (s.af.getD k E0).st h28 (RdW.row hro (i := 1) rfl rfl h28) (by rw [List.length_cons, List.length_map, List.length_take]; omega)) ?_
          rintro _ w29 ⟨rfl, h29⟩
          refine ⟨_, rfl, ?_⟩
          refine WL.v (Runs.pick rfl rfl rfl) rfl ?_
          refine WL.nil ?_
          refine WN.thn ?_
          refine WC.condF rfl ((by rw [decide_eq_false z2])) ?_
          refine WC.skip ?_
          refine WN.thn ?_
          refine WC.reg ?_
          refine WL.v (Runs.move rfl) rfl ?_
          refine WL.v (Runs.fld fld40_0 rfl) rfl ?_
          refine WL.v (Runs.load1 Try.underlying3 rfl rfl (h29.ocell (i := 0) rfl rfl)) rfl ?_
          refine WL.lit (vs := (([(s.af.getD k E0).st] : List Int)).map Vi) h29 rfl Try.underlying28 inf3 rfl rfl rfl rfl rfl ?_
          intro lit62 w30 h30
          refine WL.app (ys := ([(s.af.getD k E0).st] : List Int)) 2 h30 rfl rfl rfl rfl Try.underlying28 Try.underlying28 (.inr ⟨_, rfl⟩) inf3 rfl hro (Src.lit h30 0 rfl rfl rfl) rfl rfl (by first | omega | (simp []; done) | (simp []; omega)) (by first | omega | (simp []; done) | (simp []; omega)) ?_
          intro r31 v31 w32 hr31 h32
          simp only [List.set_cons_zero, List.set_cons_succ] at h32
          replace h32 := h32.drop 0
          simp only [List.eraseIdx_cons_zero, List.eraseIdx_cons_succ] at h32
          refine WL.v (Runs.assign rfl) rfl ?_
          refine WL.nil ?_
          refine WN.blk ?_
          refine WN.thn ?_
          refine WC.reg ?_
          refine WL.v (Runs.addn rfl rfl (by omega)) rfl ?_
          refine WL.v (Runs.move rfl) rfl ?_
          refine WL.nil ?_
          have h9_ := hr31
          rw [take_st a hk2] at h9_
          exact WN.again (⟨k + 1, _, _⟩ : Nat × Res × Value) (by show s.af.length - (k + 1) < s.af.length - k; omega) ⟨rfl, rfl, rfl, rfl, rfl, rfl, rfl, trivial⟩ ⟨by show k + 1 ≤ _; omega, fun j hj => (by
            have hj : j < k + 1 := hj
            by_cases e : j = k
            · subst e; exact ⟨z0, z1, z2⟩
            · exact hok j (by omega)), h9_, h32.drop 0⟩
    · try simp only [decide_eq_true_eq, decide_eq_false_iff_not, Bool.not_eq_true', Bool.not_eq_false', Bool.and_eq_true, Int.not_lt, Int.not_le] at c18
      first
      | (exfalso; omega)
      | skip
        refine WC.exit ?_
        refine WX.thn ?_
        refine WX.cut ?_
        refine WX.hit ?_
        refine WN.thn ?_
        refine WC.seq ?_
        refine WC.reg ?_
        refine WL.v (Runs.assign rfl) rfl ?_
        refine WL.nil ?_
        refine WN.thn ?_
        refine WC.ret ?_
        refine ret1 rfl rfl ⟨?_, (hL.drop 0).drop 0⟩
        rw [decide_eq_true]
        exact ⟨⟨y0, y1, y2, y3⟩, fun j hj => hok j (by omega)⟩
end Dg
end Go.Proofs.Ytkfkdenikkadhaa
