/- The laws of chapter 15: states handed over and compared; what is little. -/
import Derived.Test.YthejglgnoingfaaProg
import Derived.KernelRfl
import Derived.Test.YthejglgnoingfaaMBaseAH
import Derived.Test.YthejglgnoingfaaME1
namespace Go.Proofs.Ythejglgnoingfaa
open Go Go.RowKit B
set_option linter.unusedVariables false
set_option linter.unusedSimpArgs false
namespace Rc
open Wir (numB listB rdN rdL rdEnd)

theorem can31 : B.Can Try.prog 31 := ⟨_, Try.func31, by kernel_rfl, rfl⟩   -- roundhouse/roundhouseref15.One
theorem can45 : B.Can Try.prog 45 := ⟨_, Try.func45, by kernel_rfl, rfl⟩   -- roundhouse/roundhouseref02.Same
def smallZ (z : Z) : Prop := (∀ i, i < z.ss.length → (z.ss.getD i S0).ps.length ≤ 40) ∧ z.js.length ≤ 40 ∧ z.ss.length ≤ 40
instance (z : Z) : Decidable (smallZ z) := inferInstanceAs (Decidable (_ ∧ _))
theorem smallZ.few {z : Z} (h : smallZ z) : few z := ⟨by have := h.2.1; omega, by have := h.2.2; omega, fun x hx => by
  obtain ⟨i, hi, rfl⟩ := List.getElem_of_mem hx
  have := h.1 i hi
  rw [List.getD_eq_getElem?_getD, List.getElem?_eq_getElem hi] at this
  exact Nat.le_trans this (by decide)⟩
theorem take_at {α : Type} {xs : List α} {i : Nat} (d : α) (h : i < xs.length) : xs.take i ++ [xs.getD i d] = xs.take (i + 1) := by
  rw [List.take_add_one, List.getD_eq_getElem?_getD, List.getElem?_eq_getElem h]; rfl
theorem take_ln {α : Type} {xs : List α} {i : Nat} (h : i ≤ xs.length) : (xs.take i).length = i := by rw [List.length_take]; omega
theorem five (P0 P1 P2 P3 P4 : Prop) : (¬ P0) ∨ (P0 ∧ ¬ P1) ∨ (P0 ∧ P1 ∧ ¬ P2) ∨ (P0 ∧ P1 ∧ P2 ∧ ¬ P3) ∨ (P0 ∧ P1 ∧ P2 ∧ P3 ∧ ¬ P4) ∨ (P0 ∧ P1 ∧ P2 ∧ P3 ∧ P4) := by
  by_cases h0 : P0
  · by_cases h1 : P1
    · by_cases h2 : P2
      · by_cases h3 : P3
        · by_cases h4 : P4
          · exact .inr (.inr (.inr (.inr (.inr (⟨h0, h1, h2, h3, h4⟩)))))
          · exact .inr (.inr (.inr (.inr (.inl ⟨h0, h1, h2, h3, h4⟩))))
        · exact .inr (.inr (.inr (.inl ⟨h0, h1, h2, h3⟩)))
      · exact .inr (.inr (.inl ⟨h0, h1, h2⟩))
    · exact .inr (.inl ⟨h0, h1⟩)
  · exact .inl h0

theorem two' (P Q : Prop) : ¬ P ∨ (P ∧ ¬ Q) ∨ (P ∧ Q) := by
  by_cases h : P <;> by_cases h2 : Q <;> simp [h, h2]
theorem Runs.neqb {sl : Sl} {T T' t : TypeId} {w : World} {x y : Operand} {b c : Bool} (hu : Try.prog.underlying T = some .bool) (hx : evs sl x = some (.bool b)) (hy : evs sl y = some (.bool c)) : Runs Try.prog sl (.binOp .neq T x y T') t w (.bool (!(b == c))) := fun ρ h o ho _ => by
  have := run_neq_bool (P := Try.prog) w T b c hu
  simp only [execOp, ho, h _ _ hx, h _ _ hy, eqGuard]
  simp [this]
theorem lists_eq {xs ys : List Int} (hl : xs.length = ys.length) (h : ∀ j, j < xs.length → xs.getD j 0 = ys.getD j 0) : xs = ys := by
  apply List.ext_getElem hl
  intro j h1 h2
  have := h j h1
  rwa [List.getD_eq_getElem?_getD, List.getElem?_eq_getElem h1, List.getD_eq_getElem?_getD, List.getElem?_eq_getElem h2] at this
theorem eqJob (T : TypeId) (hT : T = 47 ∨ T = 50) (w : World) (m n : J) : (Op.equalIn 10000 T (JV m) (JV n)).run Try.prog w = .ok (decide (m = n)) w := by
  have e : (decide (m.jb = n.jb) && (decide (m.ep = n.ep) && (decide (m.ph = n.ph) && true))) = decide (m = n) := by
    rw [Bool.eq_iff_iff]
    cases m; cases n
    simp
  rw [← e]
  rcases hT with rfl | rfl
  · refine eqA_of (d := 9999) Try.underlying47 (by kernel_rfl) ?_
    exact eqf_int (d := 9998) rfl Try.underlying3 rfl rfl (eqf_int (d := 9998) rfl Try.underlying3 rfl rfl (eqf_int (d := 9998) rfl Try.underlying3 rfl rfl eqf_nil))
  · refine eqA_of (d := 9999) Try.underlying50 (by kernel_rfl) ?_
    exact eqf_int (d := 9998) rfl Try.underlying3 rfl rfl (eqf_int (d := 9998) rfl Try.underlying3 rfl rfl (eqf_int (d := 9998) rfl Try.underlying3 rfl rfl eqf_nil))
theorem S_dec {a b : S} (h0 : a.jb = b.jb) (h1 : a.ep = b.ep) (h2 : a.st = b.st) (h3 : a.ph = b.ph) (h4 : a.cd = b.cd) : decide (a.ps = b.ps) = decide (a = b) := by
  cases a; cases b
  simp only at h0 h1 h2 h3 h4
  subst h0 h1 h2 h3 h4
  simp
def smallL (l : List R) (most : Int) : Prop := (∀ i, i < l.length → (l.getD i R0).ls.length ≤ 40) ∧ (l.length : Int) ≤ most
instance (l : List R) (most : Int) : Decidable (smallL l most) := inferInstanceAs (Decidable (_ ∧ _))
set_option maxRecDepth 100000 in
set_option maxHeartbeats 4000000 in
theorem qsmall_c {W : World} {F : Snap} {cs : List Res} (w : World) {AJ AS : Option Addr} {cj cS : Nat} {z : Z} (h : St W F cs w) (hR : RdS KS F AS z.ss) (hn : z.ss.length ≤ 9223372036854775807) : Calls Try.prog 16 #[.agg #[.slice AJ z.js.length cj, .slice AS z.ss.length cS, .bool z.dr]] w fun e w' => e = .returned (.bool (decide (smallZ z))) ∧ St W F cs w'  := by
  refine enter (P := Try.prog) (args := [.agg #[.slice AJ z.js.length cj, .slice AS z.ss.length cS, .bool z.dr]]) Try.func16 rfl rfl rfl ?_
  refine WC.seq (WC.reg ?_)
  refine WL.box rfl h rfl ?_
  intro b1 w1 h1
  refine WL.v (Runs.assign rfl) rfl ?_
  refine WL.nil (WN.thn (WC.seq (WC.seq (WC.reg ?_))))
  refine WL.v (Runs.assign rfl) rfl ?_
  refine WL.nil (WN.thn (WC.block ?_))
  refine WC.loop (σ := Nat) (fun q_ => [(1, .pointer (some ⟨b1, 0, none⟩)), (3, .int .i64 (q_ : Int))]) (fun q_ w => q_ ≤ z.ss.length ∧ (∀ j, j < q_ → (z.ss.getD j S0).ps.length ≤ 40) ∧ St W F ([(b1, .cells #[.slice AJ z.js.length cj, .slice AS z.ss.length cS, .bool z.dr] 35 (0, 0))] :: cs) w) (fun q_ => z.ss.length - q_) (0) (by repeat (first | exact trivial | refine ⟨rfl, ?_⟩)) (⟨Nat.zero_le _, fun j hj => absurd hj (Nat.not_lt_zero _), h1⟩) ?_
  rintro i w2 ⟨hi, hall, hL⟩
  try dsimp only at hi hall hL
  refine WC.sub (s := [(1, .pointer (some ⟨b1, 0, none⟩)), (3, .int .i64 (i : Int))]) (by repeat (first | exact trivial | refine ⟨rfl, ?_⟩)) ?_
  refine WC.seq (WC.seq (WC.reg ?_))
  refine WL.v (Runs.move rfl) rfl ?_
  refine WL.v (Runs.fld fld35_1 rfl) rfl ?_
  refine WL.v (Runs.load1 Try.underlying33 rfl rfl (hL.ocell (i := 0) rfl rfl)) rfl ?_
  refine WL.v (Runs.llen Try.underlying33 rfl rfl) rfl ?_
  refine WL.v (Runs.lss rfl rfl) rfl ?_
  refine WL.nil (WN.thn ?_)
  refine WC.cond rfl (fun c3 => ?_) (fun c3 => ?_)
  · try simp only [dt, df, nt, nf, ba, il, ie] at c3
    first
    | (exfalso; omega)
    | skip
      refine WC.skip (WN.thn (WC.seq (WC.block (WC.seq ?_))))
      have hi2 : i < z.ss.length := by omega
      obtain ⟨ad, c, rfl, hc, hcell⟩ := hR.atD S0 hi2
      obtain ⟨A1, cap1, rfl, hps⟩ := hc
      
      refine WC.reg ?_
      refine WL.v (Runs.fld fld35_1 rfl) rfl ?_
      refine WL.v (Runs.load1 Try.underlying33 rfl rfl (hL.ocell (i := 0) rfl rfl)) rfl ?_
      refine WL.v (Runs.move rfl) rfl ?_
      refine WL.v (Runs.lidxK Try.underlying33 inf57 rfl rfl (n := i) rfl hi2) rfl ?_
      refine WL.v (Runs.fld fld57_5 rfl) rfl ?_
      refine WL.v (Runs.fldKF (n := i) hL hcell Try.underlying22 rfl rfl rfl) rfl ?_
      refine WL.v (Runs.llen Try.underlying22 rfl rfl) rfl ?_
      refine WL.v (Runs.gtr rfl rfl) rfl ?_
      refine WL.nil (WN.thn ?_)
      refine WC.cond rfl (fun c4 => ?_) (fun c4 => ?_)
      · try simp only [dt, df, nt, nf, ba, il, ie] at c4
        first
        | (exfalso; omega)
        | skip
          refine WC.seq (WC.reg ?_)
          refine WL.v (Runs.assign rfl) rfl ?_
          refine WL.nil (WN.thn (WC.ret ?_))
          exact ret1 rfl rfl ⟨by rw [decide_eq_false (fun hh : smallZ z => by have := hh.1 i hi2; omega)] <;> rfl, hL.drop 0⟩
      · try simp only [dt, df, nt, nf, ba, il, ie] at c4
        first
        | (exfalso; omega)
        | skip
          refine WC.skip (WN.blk (WN.thn (WC.reg ?_)))
          refine WL.v (Runs.move rfl) rfl ?_
          refine WL.v (Runs.addn rfl rfl (by omega)) rfl ?_
          refine WL.v (Runs.assign rfl) rfl ?_
          refine WL.nil ?_
          exact WN.again (i + 1) (by omega) ⟨rfl, rfl, trivial⟩ ⟨by omega, fun j hj => (by
            by_cases e : j = i
            · subst e; omega
            · exact hall j (by omega)), hL⟩
  · try simp only [dt, df, nt, nf, ba, il, ie] at c3
    first
    | (exfalso; omega)
    | skip
      refine WC.exit (WX.thn (WX.cut (WX.hit (WN.thn (WC.seq ?_)))))
      rcases two (z.js.length ≤ 40) (z.ss.length ≤ 40) with q0 | ⟨q0, q1⟩ | ⟨q0, q1⟩
      · skip
        refine WC.reg ?_
        refine WL.v (Runs.fld fld35_0 rfl) rfl ?_
        refine WL.v (Runs.load1 Try.underlying32 rfl rfl (hL.ocell (i := 0) rfl rfl)) rfl ?_
        refine WL.v (Runs.llen Try.underlying32 rfl rfl) rfl ?_
        refine WL.v (Runs.boolT (c := false) (Runs.leq rfl rfl) (by rw [decide_eq_false_iff_not]; omega)) rfl ?_
        refine WL.v (Runs.move rfl) rfl ?_
        refine WL.goff rfl rfl rfl rfl ?_
        refine WL.goff rfl rfl rfl rfl ?_
        refine WL.goff rfl rfl rfl rfl ?_
        refine WL.goff rfl rfl rfl rfl ?_
        refine WL.v (Runs.pick rfl rfl rfl) rfl ?_
        refine WL.v (Runs.assign rfl) rfl ?_
        refine WL.nil (WN.thn (WC.ret ?_))
        exact ret1 rfl rfl ⟨by rw [decide_eq_false (fun hh : smallZ z => q0 hh.2.1)] <;> rfl, hL.drop 0⟩
      · skip
        refine WC.reg ?_
        refine WL.v (Runs.fld fld35_0 rfl) rfl ?_
        refine WL.v (Runs.load1 Try.underlying32 rfl rfl (hL.ocell (i := 0) rfl rfl)) rfl ?_
        refine WL.v (Runs.llen Try.underlying32 rfl rfl) rfl ?_
        refine WL.v (Runs.boolT (c := true) (Runs.leq rfl rfl) (by rw [decide_eq_true_eq]; omega)) rfl ?_
        refine WL.v (Runs.move rfl) rfl ?_
        refine WL.gon rfl rfl rfl ?_
        refine WL.v (Runs.fld fld35_1 rfl) rfl ?_
        refine WL.gon rfl rfl rfl ?_
        refine WL.v (Runs.load1 Try.underlying33 rfl rfl (hL.ocell (i := 0) rfl rfl)) rfl ?_
        refine WL.gon rfl rfl rfl ?_
        refine WL.v (Runs.llen Try.underlying33 rfl rfl) rfl ?_
        refine WL.gon rfl rfl rfl ?_
        refine WL.v (Runs.boolT (c := false) (Runs.leq rfl rfl) (by rw [decide_eq_false_iff_not]; omega)) rfl ?_
        refine WL.v (Runs.pick rfl rfl rfl) rfl ?_
        refine WL.v (Runs.assign rfl) rfl ?_
        refine WL.nil (WN.thn (WC.ret ?_))
        exact ret1 rfl rfl ⟨by rw [decide_eq_false (fun hh : smallZ z => q1 hh.2.2)] <;> rfl, hL.drop 0⟩
      · skip
        refine WC.reg ?_
        refine WL.v (Runs.fld fld35_0 rfl) rfl ?_
        refine WL.v (Runs.load1 Try.underlying32 rfl rfl (hL.ocell (i := 0) rfl rfl)) rfl ?_
        refine WL.v (Runs.llen Try.underlying32 rfl rfl) rfl ?_
        refine WL.v (Runs.boolT (c := true) (Runs.leq rfl rfl) (by rw [decide_eq_true_eq]; omega)) rfl ?_
        refine WL.v (Runs.move rfl) rfl ?_
        refine WL.gon rfl rfl rfl ?_
        refine WL.v (Runs.fld fld35_1 rfl) rfl ?_
        refine WL.gon rfl rfl rfl ?_
        refine WL.v (Runs.load1 Try.underlying33 rfl rfl (hL.ocell (i := 0) rfl rfl)) rfl ?_
        refine WL.gon rfl rfl rfl ?_
        refine WL.v (Runs.llen Try.underlying33 rfl rfl) rfl ?_
        refine WL.gon rfl rfl rfl ?_
        refine WL.v (Runs.boolT (c := true) (Runs.leq rfl rfl) (by rw [decide_eq_true_eq]; omega)) rfl ?_
        refine WL.v (Runs.pick rfl rfl rfl) rfl ?_
        refine WL.v (Runs.assign rfl) rfl ?_
        refine WL.nil (WN.thn (WC.ret ?_))
        exact ret1 rfl rfl ⟨by rw [decide_eq_true (show smallZ z from ⟨fun j hj => hall j (by omega), q0, q1⟩)] <;> rfl, hL.drop 0⟩
set_option maxRecDepth 100000 in
set_option maxHeartbeats 8000000 in
theorem own_c {W : World} {F : Snap} {cs : List Res} (w : World) {AJ AS : Option Addr} {cj cS : Nat} {z : Z} (hz : few z) (hR : ZR F AJ AS z) (h : St W F cs w) : Calls Try.prog 17 #[.agg #[.slice AJ z.js.length cj, .slice AS z.ss.length cS, .bool z.dr]] w fun e w' => ∃ G AJ AS cj cS, Le F G ∧ e = .returned (.agg #[.slice AJ z.js.length cj, .slice AS z.ss.length cS, .bool z.dr]) ∧ ZR G AJ AS z ∧ St W G cs w'  := by
  refine enter (P := Try.prog) (args := [.agg #[.slice AJ z.js.length cj, .slice AS z.ss.length cS, .bool z.dr]]) Try.func17 rfl rfl rfl ?_
  have hzj := hz.j
  have hzs := hz.s
  refine WC.seq (WC.reg ?_)
  refine WL.box rfl h rfl ?_
  intro b1 w1 h1
  refine WL.alloc' rfl h1 inf40 ?_
  intro b2 w2 h2
  refine WL.nil (WN.thn (WC.seq (WC.reg ?_)))
  refine WL.v (Runs.fld fld35_2 rfl) rfl ?_
  refine WL.v (Runs.load1 Try.underlying4 rfl rfl (h2.ocell (i := 1) rfl rfl)) rfl ?_
  refine WL.v (Runs.build (vs := [(2, .bool z.dr)]) (cells := #[.slice none 0 0, .slice none 0 0, .bool z.dr]) rfl (by kernel_rfl)) rfl ?_
  refine WL.alloc' rfl h2 inf40 ?_
  intro b3 w3 h3
  refine WL.storeAll h3 0 rfl rfl rfl inf40 rfl rfl rfl (Free.zero _) ?_
  intro  w4 h4
  try simp only [lz, ls, ez, es'] at h4
  refine WL.nil (WN.thn (WC.seq (WC.seq (WC.reg ?_))))
  refine WL.v (Runs.assign rfl) rfl ?_
  refine WL.nil (WN.thn (WC.block ?_))
  replace h4 := h4.nilRes
  refine WC.loop (σ := Nat × Option Addr × Nat × Res) (fun q_ => [(1, .pointer (some ⟨b1, 0, none⟩)), (2, .pointer (some ⟨b2, 0, none⟩)), (3, .pointer (some ⟨b3, 0, none⟩)), (4, .int .i64 (q_.1 : Int))]) (fun q_ w => q_.1 ≤ z.js.length ∧ RowM 47 3 jc q_.2.2.2 (.slice q_.2.1 (z.js.take q_.1).length q_.2.2.1) (z.js.take q_.1) ∧ St W F (q_.2.2.2 :: [(b3, .cells #[.slice q_.2.1 (z.js.take q_.1).length q_.2.2.1, .slice none 0 0, .bool z.dr] 40 (0, 0))] :: [(b2, .cells #[.slice none 0 0, .slice none 0 0, .bool false] 40 (0, 0))] :: [(b1, .cells #[.slice AJ z.js.length cj, .slice AS z.ss.length cS, .bool z.dr] 35 (0, 0))] :: cs) w) (fun q_ => z.js.length - q_.1) (⟨0, none, 0, []⟩) (by repeat (first | exact trivial | refine ⟨rfl, ?_⟩)) (⟨Nat.zero_le _, RowM.nil _ _ _, h4⟩) ?_
  rintro ⟨i, A0, cap0, r⟩ w5 ⟨hi, hrj, hL⟩
  try dsimp only at hi hrj hL
  refine WC.sub (s := [(1, .pointer (some ⟨b1, 0, none⟩)), (2, .pointer (some ⟨b2, 0, none⟩)), (3, .pointer (some ⟨b3, 0, none⟩)), (4, .int .i64 (i : Int))]) (by repeat (first | exact trivial | refine ⟨rfl, ?_⟩)) ?_
  refine WC.seq (WC.seq (WC.reg ?_))
  refine WL.v (Runs.move rfl) rfl ?_
  refine WL.v (Runs.fld fld35_0 rfl) rfl ?_
  refine WL.v (Runs.load1 Try.underlying32 rfl rfl (hL.ocell (i := 3) rfl rfl)) rfl ?_
  refine WL.v (Runs.llen Try.underlying32 rfl rfl) rfl ?_
  refine WL.v (Runs.lss rfl rfl) rfl ?_
  refine WL.nil (WN.thn ?_)
  refine WC.cond rfl (fun c6 => ?_) (fun c6 => ?_)
  · try simp only [dt, df, nt, nf, ba, il, ie] at c6
    first
    | (exfalso; omega)
    | skip
      refine WC.skip (WN.thn (WC.seq (WC.block (WC.seq ?_))))
      have hi2 : i < z.js.length := by omega
      obtain ⟨ad, c, rfl, hc, hcell⟩ := hR.j.atD J0 hi2
      obtain rfl : c = jc (z.js.getD i J0) := hc
      have htl := take_ln (xs := z.js) hi
      refine WC.reg ?_
      refine WL.v (Runs.fld fld35_0 rfl) rfl ?_
      refine WL.v (Runs.load1 Try.underlying32 rfl rfl (hL.ocell (i := 3) rfl rfl)) rfl ?_
      refine WL.v (Runs.move rfl) rfl ?_
      refine WL.v (Runs.lidxK Try.underlying32 inf50 rfl rfl (n := i) rfl hi2) rfl ?_
      refine WL.v (Runs.loadKF hL hcell Try.underlying50 rfl inf50 rfl rfl) rfl ?_
      refine WL.alloc' rfl hL inf50 ?_
      intro b5 w7 h7
      refine WL.storeAll h7 0 rfl rfl rfl inf50 rfl rfl rfl (Free.zero _) ?_
      intro  w8 h8
      try simp only [lz, ls, ez, es'] at h8
      refine WL.nil (WN.thn (WC.reg ?_))
      refine WL.v (Runs.fld fld40_0 rfl) rfl ?_
      refine WL.v (Runs.load1 Try.underlying37 rfl rfl (h8.ocell (i := 2) rfl rfl)) rfl ?_
      refine WL.v (Runs.fld fld50_0 rfl) rfl ?_
      refine WL.v (Runs.load1 Try.underlying3 rfl rfl (h8.ocell (i := 0) rfl rfl)) rfl ?_
      refine WL.v (Runs.fld fld50_1 rfl) rfl ?_
      refine WL.v (Runs.load1 Try.underlying3 rfl rfl (h8.ocell (i := 0) rfl rfl)) rfl ?_
      refine WL.v (Runs.fld fld50_2 rfl) rfl ?_
      refine WL.v (Runs.load1 Try.underlying3 rfl rfl (h8.ocell (i := 0) rfl rfl)) rfl ?_
      refine WL.v (Runs.build (vs := [(0, Vi (z.js.getD i J0).jb), (1, Vi (z.js.getD i J0).ep), (2, Vi (z.js.getD i J0).ph)]) (cells := #[Vi (z.js.getD i J0).jb, Vi (z.js.getD i J0).ep, Vi (z.js.getD i J0).ph]) rfl (by kernel_rfl)) rfl ?_
      refine WL.buildSlice (vs := [JV (z.js.getD i J0)]) h8 rfl Try.underlying37 (inf47.elem rfl rfl) rfl rfl rfl (by decide) ?_
      intro lit32 w9 h9
      try simp only [lz, ls, ez, es'] at h9
      refine WL.appM (f := jc) (ys := [(z.js.getD i J0)]) 2 h9 rfl rfl rfl rfl Try.underlying37 Try.underlying37 (.inr ⟨_, rfl⟩) (inf47.elem rfl rfl) hrj (Src.litM h9 0 rfl rfl rfl) rfl (by first | omega | (simp; done) | (simp; omega) | (simp only [List.length_nil]; omega)) (by first | omega | (simp; done) | (simp; omega) | (simp only [List.length_nil]; omega)) ?_
      intro r10 v10 w11 hr10 h11
      simp only [lz, ls] at h11
      replace h11 := h11.drop 0
      simp only [ez, es'] at h11
      obtain ⟨A10, cap10, rfl, hcap10⟩ := hr10.val
      refine WL.v (Runs.fld fld40_0 rfl) rfl ?_
      refine WL.store' h11 2 rfl rfl rfl inf37 rfl rfl (Free.zero _) (Nat.le_of_ble_eq_true rfl) ?_
      intro  w12 h12
      try simp only [lz, ls, ez, es'] at h12
      refine WL.nil (WN.blk (WN.thn (WC.reg ?_)))
      refine WL.v (Runs.move rfl) rfl ?_
      refine WL.v (Runs.addn rfl rfl (by omega)) rfl ?_
      refine WL.v (Runs.assign rfl) rfl ?_
      refine WL.nil ?_
      have hr9 := hr10
      have h9 := (h12.drop 0)
      rw [take_at J0 hi2] at hr9
      exact WN.again (⟨i + 1, A10, cap10, r10⟩ : Nat × Option Addr × Nat × Res) (by show z.js.length - (i + 1) < z.js.length - i; omega) ⟨rfl, rfl, rfl, rfl, trivial⟩ ⟨by show i + 1 ≤ _; omega, hr9, by rw [take_at J0 hi2] at h9; exact h9⟩
  · try simp only [dt, df, nt, nf, ba, il, ie] at c6
    first
    | (exfalso; omega)
    | skip
      refine WC.exit (WX.thn (WX.cut (WX.hit (WN.thn (WC.seq ?_)))))
      refine WC.seq (WC.reg ?_)
      refine WL.v (Runs.assign rfl) rfl ?_
      refine WL.nil (WN.thn (WC.block ?_))
      obtain rfl : i = z.js.length := by omega
      rw [List.take_length] at hrj
      replace hL := hL.nilRes
      rw [List.take_length] at hL
      refine WC.loop (σ := Nat × Option Addr × Nat × Res × List E) (fun q_ => [(1, .pointer (some ⟨b1, 0, none⟩)), (2, .pointer (some ⟨b2, 0, none⟩)), (3, .pointer (some ⟨b3, 0, none⟩)), (6, .int .i64 (q_.1 : Int))]) (fun q_ w => q_.1 ≤ z.ss.length ∧ RowM 54 6 sc q_.2.2.2.1 (.slice q_.2.1 q_.2.2.2.2.length q_.2.2.1) q_.2.2.2.2 ∧ q_.2.2.2.2.map (·.s) = (z.ss.take q_.1) ∧ (∀ e ∈ q_.2.2.2.2, RdS (Kd.one Vi) F e.A e.s.ps) ∧ St W F (q_.2.2.2.1 :: r :: [(b3, .cells #[.slice A0 z.js.length cap0, .slice q_.2.1 q_.2.2.2.2.length q_.2.2.1, .bool z.dr] 40 (0, 0))] :: [(b2, .cells #[.slice none 0 0, .slice none 0 0, .bool false] 40 (0, 0))] :: [(b1, .cells #[.slice AJ z.js.length cj, .slice AS z.ss.length cS, .bool z.dr] 35 (0, 0))] :: cs) w) (fun q_ => z.ss.length - q_.1) (⟨0, none, 0, [], []⟩) (by repeat (first | exact trivial | refine ⟨rfl, ?_⟩)) (⟨Nat.zero_le _, RowM.nil _ _ _, rfl, (fun e he => by cases he), hL⟩) ?_
      rintro ⟨i, A, cap, rs, es⟩ w13 ⟨hi, hrs, hes, hps0, hL⟩
      try dsimp only at hi hrs hes hps0 hL
      refine WC.sub (s := [(1, .pointer (some ⟨b1, 0, none⟩)), (2, .pointer (some ⟨b2, 0, none⟩)), (3, .pointer (some ⟨b3, 0, none⟩)), (6, .int .i64 (i : Int))]) (by repeat (first | exact trivial | refine ⟨rfl, ?_⟩)) ?_
      refine WC.seq (WC.seq (WC.reg ?_))
      refine WL.v (Runs.move rfl) rfl ?_
      refine WL.v (Runs.fld fld35_1 rfl) rfl ?_
      refine WL.v (Runs.load1 Try.underlying33 rfl rfl (hL.ocell (i := 4) rfl rfl)) rfl ?_
      refine WL.v (Runs.llen Try.underlying33 rfl rfl) rfl ?_
      refine WL.v (Runs.lss rfl rfl) rfl ?_
      refine WL.nil (WN.thn ?_)
      refine WC.cond rfl (fun c14 => ?_) (fun c14 => ?_)
      · try simp only [dt, df, nt, nf, ba, il, ie] at c14
        first
        | (exfalso; omega)
        | skip
          refine WC.skip (WN.thn (WC.seq (WC.block (WC.seq ?_))))
          have hi2 : i < z.ss.length := by omega
          obtain ⟨ad, c, rfl, hc, hcell⟩ := hR.s.atD S0 hi2
          obtain ⟨A1, cap1, rfl, hps⟩ := hc
          have htl := take_ln (xs := z.ss) hi
          have hel : es.length = i := by rw [← htl, ← hes, List.length_map]
          refine WC.reg ?_
          refine WL.v (Runs.fld fld35_1 rfl) rfl ?_
          refine WL.v (Runs.load1 Try.underlying33 rfl rfl (hL.ocell (i := 4) rfl rfl)) rfl ?_
          refine WL.v (Runs.move rfl) rfl ?_
          refine WL.v (Runs.lidxK Try.underlying33 inf57 rfl rfl (n := i) rfl hi2) rfl ?_
          refine WL.v (Runs.loadKF hL hcell Try.underlying57 rfl inf57 rfl rfl) rfl ?_
          refine WL.alloc' rfl hL inf57 ?_
          intro b7 w15 h15
          refine WL.storeAll h15 0 rfl rfl rfl inf57 rfl rfl rfl (Free.zero _) ?_
          intro  w16 h16
          try simp only [lz, ls, ez, es'] at h16
          refine WL.nil (WN.thn (WC.reg ?_))
          refine WL.v (Runs.fld fld40_1 rfl) rfl ?_
          refine WL.v (Runs.load1 Try.underlying38 rfl rfl (h16.ocell (i := 3) rfl rfl)) rfl ?_
          refine WL.v (Runs.fld fld57_0 rfl) rfl ?_
          refine WL.v (Runs.load1 Try.underlying3 rfl rfl (h16.ocell (i := 0) rfl rfl)) rfl ?_
          refine WL.v (Runs.fld fld57_1 rfl) rfl ?_
          refine WL.v (Runs.load1 Try.underlying3 rfl rfl (h16.ocell (i := 0) rfl rfl)) rfl ?_
          refine WL.v (Runs.fld fld57_2 rfl) rfl ?_
          refine WL.v (Runs.load1 Try.underlying3 rfl rfl (h16.ocell (i := 0) rfl rfl)) rfl ?_
          refine WL.v (Runs.fld fld57_3 rfl) rfl ?_
          refine WL.v (Runs.load1 Try.underlying3 rfl rfl (h16.ocell (i := 0) rfl rfl)) rfl ?_
          refine WL.v (Runs.fld fld57_4 rfl) rfl ?_
          refine WL.v (Runs.load1 Try.underlying3 rfl rfl (h16.ocell (i := 0) rfl rfl)) rfl ?_
          refine WL.v (Runs.fld fld57_5 rfl) rfl ?_
          refine WL.v (Runs.load1 Try.underlying22 rfl rfl (h16.ocell (i := 0) rfl rfl)) rfl ?_
          refine WL.v (Runs.build (vs := [(0, Vi (z.ss.getD i S0).jb), (1, Vi (z.ss.getD i S0).ep), (2, Vi (z.ss.getD i S0).st), (3, Vi (z.ss.getD i S0).ph), (4, Vi (z.ss.getD i S0).cd), (5, .slice A1 (z.ss.getD i S0).ps.length cap1)]) (cells := #[Vi (z.ss.getD i S0).jb, Vi (z.ss.getD i S0).ep, Vi (z.ss.getD i S0).st, Vi (z.ss.getD i S0).ph, Vi (z.ss.getD i S0).cd, .slice A1 (z.ss.getD i S0).ps.length cap1]) rfl (by kernel_rfl)) rfl ?_
          refine WL.buildSlice (vs := [SV A1 cap1 (z.ss.getD i S0)]) h16 rfl Try.underlying38 (inf54.elem rfl rfl) rfl rfl rfl (by decide) ?_
          intro lit62 w17 h17
          try simp only [lz, ls, ez, es'] at h17
          refine WL.appM (f := sc) (ys := [E.mk (z.ss.getD i S0) A1 cap1]) 2 h17 rfl rfl rfl rfl Try.underlying38 Try.underlying38 (.inr ⟨_, rfl⟩) (inf54.elem rfl rfl) hrs (Src.litM h17 0 rfl rfl rfl) rfl (by first | omega | (simp; done) | (simp; omega) | (simp only [List.length_nil]; omega)) (by first | omega | (simp; done) | (simp; omega) | (simp only [List.length_nil]; omega)) ?_
          intro r18 v18 w19 hr18 h19
          simp only [lz, ls] at h19
          replace h19 := h19.drop 0
          simp only [ez, es'] at h19
          obtain ⟨A18, cap18, rfl, hcap18⟩ := hr18.val
          refine WL.v (Runs.fld fld40_1 rfl) rfl ?_
          refine WL.store' h19 3 rfl rfl rfl inf38 rfl rfl (Free.zero _) (Nat.le_of_ble_eq_true rfl) ?_
          intro  w20 h20
          try simp only [lz, ls, ez, es'] at h20
          refine WL.nil (WN.blk (WN.thn (WC.reg ?_)))
          refine WL.v (Runs.move rfl) rfl ?_
          refine WL.v (Runs.addn rfl rfl (by omega)) rfl ?_
          refine WL.v (Runs.assign rfl) rfl ?_
          refine WL.nil ?_
          exact WN.again (⟨i + 1, A18, cap18, r18, es ++ [E.mk (z.ss.getD i S0) A1 cap1]⟩ : Nat × Option Addr × Nat × Res × List E) (by show z.ss.length - (i + 1) < z.ss.length - i; omega) ⟨rfl, rfl, rfl, rfl, trivial⟩ ⟨by show i + 1 ≤ _; omega, hr18, by show (es ++ [_]).map _ = z.ss.take (i + 1); rw [List.map_append, hes, ← take_at S0 hi2]; rfl, fun e he => (by
            rcases List.mem_append.1 he with he | he
            · exact hps0 e he
            · rw [List.mem_singleton.1 he]; exact hps), (h20.drop 0)⟩
      · try simp only [dt, df, nt, nf, ba, il, ie] at c14
        first
        | (exfalso; omega)
        | skip
          refine WC.exit (WX.thn (WX.cut (WX.hit (WN.thn (WC.seq ?_)))))
          refine WC.reg ?_
          refine WL.v (Runs.loadAll hL 2 rfl Try.underlying40 rfl inf40 rfl rfl) rfl ?_
          refine WL.storeAll hL 3 rfl rfl rfl inf40 rfl rfl rfl (Free.zero _) ?_
          intro  w21 h21
          try simp only [lz, ls, ez, es'] at h21
          refine WL.nil (WN.thn (WC.ret ?_))
          obtain rfl : i = z.ss.length := by omega
          rw [List.take_length] at hes
          have hel : es.length = z.ss.length := by rw [← hes, List.length_map]
          rw [hel] at hrs h21
          have hO : OS F r rs A0 A cap0 cap z := ⟨hrj, es, hrs, hes, hps0⟩
          obtain ⟨G9, hG9, hZ9, hS9⟩ := hO.still (cs := _) (((h21.drop 4).drop 3).drop 2 |>.perm (List.Perm.swap _ _ _))
          refine retA rfl (ResOk.blk h21 3 rfl Try.underlying40 rfl inf40 rfl rfl) ⟨G9, A0, A, cap0, cap, hG9, rfl, hZ9, hS9⟩
set_option maxRecDepth 100000 in
set_option maxHeartbeats 8000000 in
theorem told_c {W : World} {F : Snap} {cs : List Res} (w : World) {AJ AS : Option Addr} {cj cS : Nat} {z : Z} (hz : few z) (hR : ZR F AJ AS z) (h : St W F cs w) : Calls Try.prog 25 #[.agg #[.slice AJ z.js.length cj, .slice AS z.ss.length cS, .bool z.dr]] w fun e w' => ∃ G AJ AS cj cS, Le F G ∧ e = .returned (.agg #[.slice AJ z.js.length cj, .slice AS z.ss.length cS, .bool z.dr]) ∧ ZR G AJ AS z ∧ St W G cs w'  := by
  refine enter (P := Try.prog) (args := [.agg #[.slice AJ z.js.length cj, .slice AS z.ss.length cS, .bool z.dr]]) Try.func25 rfl rfl rfl ?_
  have hzj := hz.j
  have hzs := hz.s
  refine WC.seq (WC.reg ?_)
  refine WL.box rfl h rfl ?_
  intro b1 w1 h1
  refine WL.alloc' rfl h1 inf35 ?_
  intro b2 w2 h2
  refine WL.nil (WN.thn (WC.seq (WC.reg ?_)))
  refine WL.v (Runs.fld fld40_2 rfl) rfl ?_
  refine WL.v (Runs.load1 Try.underlying4 rfl rfl (h2.ocell (i := 1) rfl rfl)) rfl ?_
  refine WL.v (Runs.build (vs := [(2, .bool z.dr)]) (cells := #[.slice none 0 0, .slice none 0 0, .bool z.dr]) rfl (by kernel_rfl)) rfl ?_
  refine WL.alloc' rfl h2 inf35 ?_
  intro b3 w3 h3
  refine WL.storeAll h3 0 rfl rfl rfl inf35 rfl rfl rfl (Free.zero _) ?_
  intro  w4 h4
  try simp only [lz, ls, ez, es'] at h4
  refine WL.nil (WN.thn (WC.seq (WC.seq (WC.reg ?_))))
  refine WL.v (Runs.assign rfl) rfl ?_
  refine WL.nil (WN.thn (WC.block ?_))
  replace h4 := h4.nilRes
  refine WC.loop (σ := Nat × Option Addr × Nat × Res) (fun q_ => [(1, .pointer (some ⟨b1, 0, none⟩)), (2, .pointer (some ⟨b2, 0, none⟩)), (3, .pointer (some ⟨b3, 0, none⟩)), (4, .int .i64 (q_.1 : Int))]) (fun q_ w => q_.1 ≤ z.js.length ∧ RowM 50 3 jc q_.2.2.2 (.slice q_.2.1 (z.js.take q_.1).length q_.2.2.1) (z.js.take q_.1) ∧ St W F (q_.2.2.2 :: [(b3, .cells #[.slice q_.2.1 (z.js.take q_.1).length q_.2.2.1, .slice none 0 0, .bool z.dr] 35 (0, 0))] :: [(b2, .cells #[.slice none 0 0, .slice none 0 0, .bool false] 35 (0, 0))] :: [(b1, .cells #[.slice AJ z.js.length cj, .slice AS z.ss.length cS, .bool z.dr] 40 (0, 0))] :: cs) w) (fun q_ => z.js.length - q_.1) (⟨0, none, 0, []⟩) (by repeat (first | exact trivial | refine ⟨rfl, ?_⟩)) (⟨Nat.zero_le _, RowM.nil _ _ _, h4⟩) ?_
  rintro ⟨i, A0, cap0, r⟩ w5 ⟨hi, hrj, hL⟩
  try dsimp only at hi hrj hL
  refine WC.sub (s := [(1, .pointer (some ⟨b1, 0, none⟩)), (2, .pointer (some ⟨b2, 0, none⟩)), (3, .pointer (some ⟨b3, 0, none⟩)), (4, .int .i64 (i : Int))]) (by repeat (first | exact trivial | refine ⟨rfl, ?_⟩)) ?_
  refine WC.seq (WC.seq (WC.reg ?_))
  refine WL.v (Runs.move rfl) rfl ?_
  refine WL.v (Runs.fld fld40_0 rfl) rfl ?_
  refine WL.v (Runs.load1 Try.underlying37 rfl rfl (hL.ocell (i := 3) rfl rfl)) rfl ?_
  refine WL.v (Runs.llen Try.underlying37 rfl rfl) rfl ?_
  refine WL.v (Runs.lss rfl rfl) rfl ?_
  refine WL.nil (WN.thn ?_)
  refine WC.cond rfl (fun c6 => ?_) (fun c6 => ?_)
  · try simp only [dt, df, nt, nf, ba, il, ie] at c6
    first
    | (exfalso; omega)
    | skip
      refine WC.skip (WN.thn (WC.seq (WC.block (WC.seq ?_))))
      have hi2 : i < z.js.length := by omega
      obtain ⟨ad, c, rfl, hc, hcell⟩ := hR.j.atD J0 hi2
      obtain rfl : c = jc (z.js.getD i J0) := hc
      have htl := take_ln (xs := z.js) hi
      refine WC.reg ?_
      refine WL.v (Runs.fld fld40_0 rfl) rfl ?_
      refine WL.v (Runs.load1 Try.underlying37 rfl rfl (hL.ocell (i := 3) rfl rfl)) rfl ?_
      refine WL.v (Runs.move rfl) rfl ?_
      refine WL.v (Runs.lidxK Try.underlying37 inf47 rfl rfl (n := i) rfl hi2) rfl ?_
      refine WL.v (Runs.loadKF hL hcell Try.underlying47 rfl inf47 rfl rfl) rfl ?_
      refine WL.alloc' rfl hL inf47 ?_
      intro b5 w7 h7
      refine WL.storeAll h7 0 rfl rfl rfl inf47 rfl rfl rfl (Free.zero _) ?_
      intro  w8 h8
      try simp only [lz, ls, ez, es'] at h8
      refine WL.nil (WN.thn (WC.reg ?_))
      refine WL.v (Runs.fld fld35_0 rfl) rfl ?_
      refine WL.v (Runs.load1 Try.underlying32 rfl rfl (h8.ocell (i := 2) rfl rfl)) rfl ?_
      refine WL.v (Runs.fld fld47_0 rfl) rfl ?_
      refine WL.v (Runs.load1 Try.underlying3 rfl rfl (h8.ocell (i := 0) rfl rfl)) rfl ?_
      refine WL.v (Runs.fld fld47_1 rfl) rfl ?_
      refine WL.v (Runs.load1 Try.underlying3 rfl rfl (h8.ocell (i := 0) rfl rfl)) rfl ?_
      refine WL.v (Runs.fld fld47_2 rfl) rfl ?_
      refine WL.v (Runs.load1 Try.underlying3 rfl rfl (h8.ocell (i := 0) rfl rfl)) rfl ?_
      refine WL.v (Runs.build (vs := [(0, Vi (z.js.getD i J0).jb), (1, Vi (z.js.getD i J0).ep), (2, Vi (z.js.getD i J0).ph)]) (cells := #[Vi (z.js.getD i J0).jb, Vi (z.js.getD i J0).ep, Vi (z.js.getD i J0).ph]) rfl (by kernel_rfl)) rfl ?_
      refine WL.buildSlice (vs := [JV (z.js.getD i J0)]) h8 rfl Try.underlying32 (inf50.elem rfl rfl) rfl rfl rfl (by decide) ?_
      intro lit32 w9 h9
      try simp only [lz, ls, ez, es'] at h9
      refine WL.appM (f := jc) (ys := [(z.js.getD i J0)]) 2 h9 rfl rfl rfl rfl Try.underlying32 Try.underlying32 (.inr ⟨_, rfl⟩) (inf50.elem rfl rfl) hrj (Src.litM h9 0 rfl rfl rfl) rfl (by first | omega | (simp; done) | (simp; omega) | (simp only [List.length_nil]; omega)) (by first | omega | (simp; done) | (simp; omega) | (simp only [List.length_nil]; omega)) ?_
      intro r10 v10 w11 hr10 h11
      simp only [lz, ls] at h11
      replace h11 := h11.drop 0
      simp only [ez, es'] at h11
      obtain ⟨A10, cap10, rfl, hcap10⟩ := hr10.val
      refine WL.v (Runs.fld fld35_0 rfl) rfl ?_
      refine WL.store' h11 2 rfl rfl rfl inf32 rfl rfl (Free.zero _) (Nat.le_of_ble_eq_true rfl) ?_
      intro  w12 h12
      try simp only [lz, ls, ez, es'] at h12
      refine WL.nil (WN.blk (WN.thn (WC.reg ?_)))
      refine WL.v (Runs.move rfl) rfl ?_
      refine WL.v (Runs.addn rfl rfl (by omega)) rfl ?_
      refine WL.v (Runs.assign rfl) rfl ?_
      refine WL.nil ?_
      have hr9 := hr10
      have h9 := (h12.drop 0)
      rw [take_at J0 hi2] at hr9
      exact WN.again (⟨i + 1, A10, cap10, r10⟩ : Nat × Option Addr × Nat × Res) (by show z.js.length - (i + 1) < z.js.length - i; omega) ⟨rfl, rfl, rfl, rfl, trivial⟩ ⟨by show i + 1 ≤ _; omega, hr9, by rw [take_at J0 hi2] at h9; exact h9⟩
  · try simp only [dt, df, nt, nf, ba, il, ie] at c6
    first
    | (exfalso; omega)
    | skip
      refine WC.exit (WX.thn (WX.cut (WX.hit (WN.thn (WC.seq ?_)))))
      refine WC.seq (WC.reg ?_)
      refine WL.v (Runs.assign rfl) rfl ?_
      refine WL.nil (WN.thn (WC.block ?_))
      obtain rfl : i = z.js.length := by omega
      rw [List.take_length] at hrj
      replace hL := hL.nilRes
      rw [List.take_length] at hL
      refine WC.loop (σ := Nat × Option Addr × Nat × Res × List E) (fun q_ => [(1, .pointer (some ⟨b1, 0, none⟩)), (2, .pointer (some ⟨b2, 0, none⟩)), (3, .pointer (some ⟨b3, 0, none⟩)), (6, .int .i64 (q_.1 : Int))]) (fun q_ w => q_.1 ≤ z.ss.length ∧ RowM 57 6 sc q_.2.2.2.1 (.slice q_.2.1 q_.2.2.2.2.length q_.2.2.1) q_.2.2.2.2 ∧ q_.2.2.2.2.map (·.s) = (z.ss.take q_.1) ∧ (∀ e ∈ q_.2.2.2.2, RdS (Kd.one Vi) F e.A e.s.ps) ∧ St W F (q_.2.2.2.1 :: r :: [(b3, .cells #[.slice A0 z.js.length cap0, .slice q_.2.1 q_.2.2.2.2.length q_.2.2.1, .bool z.dr] 35 (0, 0))] :: [(b2, .cells #[.slice none 0 0, .slice none 0 0, .bool false] 35 (0, 0))] :: [(b1, .cells #[.slice AJ z.js.length cj, .slice AS z.ss.length cS, .bool z.dr] 40 (0, 0))] :: cs) w) (fun q_ => z.ss.length - q_.1) (⟨0, none, 0, [], []⟩) (by repeat (first | exact trivial | refine ⟨rfl, ?_⟩)) (⟨Nat.zero_le _, RowM.nil _ _ _, rfl, (fun e he => by cases he), hL⟩) ?_
      rintro ⟨i, A, cap, rs, es⟩ w13 ⟨hi, hrs, hes, hps0, hL⟩
      try dsimp only at hi hrs hes hps0 hL
      refine WC.sub (s := [(1, .pointer (some ⟨b1, 0, none⟩)), (2, .pointer (some ⟨b2, 0, none⟩)), (3, .pointer (some ⟨b3, 0, none⟩)), (6, .int .i64 (i : Int))]) (by repeat (first | exact trivial | refine ⟨rfl, ?_⟩)) ?_
      refine WC.seq (WC.seq (WC.reg ?_))
      refine WL.v (Runs.move rfl) rfl ?_
      refine WL.v (Runs.fld fld40_1 rfl) rfl ?_
      refine WL.v (Runs.load1 Try.underlying38 rfl rfl (hL.ocell (i := 4) rfl rfl)) rfl ?_
      refine WL.v (Runs.llen Try.underlying38 rfl rfl) rfl ?_
      refine WL.v (Runs.lss rfl rfl) rfl ?_
      refine WL.nil (WN.thn ?_)
      refine WC.cond rfl (fun c14 => ?_) (fun c14 => ?_)
      · try simp only [dt, df, nt, nf, ba, il, ie] at c14
        first
        | (exfalso; omega)
        | skip
          refine WC.skip (WN.thn (WC.seq (WC.block (WC.seq ?_))))
          have hi2 : i < z.ss.length := by omega
          obtain ⟨ad, c, rfl, hc, hcell⟩ := hR.s.atD S0 hi2
          obtain ⟨A1, cap1, rfl, hps⟩ := hc
          have htl := take_ln (xs := z.ss) hi
          have hel : es.length = i := by rw [← htl, ← hes, List.length_map]
          refine WC.reg ?_
          refine WL.v (Runs.fld fld40_1 rfl) rfl ?_
          refine WL.v (Runs.load1 Try.underlying38 rfl rfl (hL.ocell (i := 4) rfl rfl)) rfl ?_
          refine WL.v (Runs.move rfl) rfl ?_
          refine WL.v (Runs.lidxK Try.underlying38 inf54 rfl rfl (n := i) rfl hi2) rfl ?_
          refine WL.v (Runs.loadKF hL hcell Try.underlying54 rfl inf54 rfl rfl) rfl ?_
          refine WL.alloc' rfl hL inf54 ?_
          intro b7 w15 h15
          refine WL.storeAll h15 0 rfl rfl rfl inf54 rfl rfl rfl (Free.zero _) ?_
          intro  w16 h16
          try simp only [lz, ls, ez, es'] at h16
          refine WL.nil (WN.thn (WC.reg ?_))
          refine WL.v (Runs.fld fld35_1 rfl) rfl ?_
          refine WL.v (Runs.load1 Try.underlying33 rfl rfl (h16.ocell (i := 3) rfl rfl)) rfl ?_
          refine WL.v (Runs.fld fld54_0 rfl) rfl ?_
          refine WL.v (Runs.load1 Try.underlying3 rfl rfl (h16.ocell (i := 0) rfl rfl)) rfl ?_
          refine WL.v (Runs.fld fld54_1 rfl) rfl ?_
          refine WL.v (Runs.load1 Try.underlying3 rfl rfl (h16.ocell (i := 0) rfl rfl)) rfl ?_
          refine WL.v (Runs.fld fld54_2 rfl) rfl ?_
          refine WL.v (Runs.load1 Try.underlying3 rfl rfl (h16.ocell (i := 0) rfl rfl)) rfl ?_
          refine WL.v (Runs.fld fld54_3 rfl) rfl ?_
          refine WL.v (Runs.load1 Try.underlying3 rfl rfl (h16.ocell (i := 0) rfl rfl)) rfl ?_
          refine WL.v (Runs.fld fld54_4 rfl) rfl ?_
          refine WL.v (Runs.load1 Try.underlying3 rfl rfl (h16.ocell (i := 0) rfl rfl)) rfl ?_
          refine WL.v (Runs.fld fld54_5 rfl) rfl ?_
          refine WL.v (Runs.load1 Try.underlying22 rfl rfl (h16.ocell (i := 0) rfl rfl)) rfl ?_
          refine WL.v (Runs.build (vs := [(0, Vi (z.ss.getD i S0).jb), (1, Vi (z.ss.getD i S0).ep), (2, Vi (z.ss.getD i S0).st), (3, Vi (z.ss.getD i S0).ph), (4, Vi (z.ss.getD i S0).cd), (5, .slice A1 (z.ss.getD i S0).ps.length cap1)]) (cells := #[Vi (z.ss.getD i S0).jb, Vi (z.ss.getD i S0).ep, Vi (z.ss.getD i S0).st, Vi (z.ss.getD i S0).ph, Vi (z.ss.getD i S0).cd, .slice A1 (z.ss.getD i S0).ps.length cap1]) rfl (by kernel_rfl)) rfl ?_
          refine WL.buildSlice (vs := [SV A1 cap1 (z.ss.getD i S0)]) h16 rfl Try.underlying33 (inf57.elem rfl rfl) rfl rfl rfl (by decide) ?_
          intro lit62 w17 h17
          try simp only [lz, ls, ez, es'] at h17
          refine WL.appM (f := sc) (ys := [E.mk (z.ss.getD i S0) A1 cap1]) 2 h17 rfl rfl rfl rfl Try.underlying33 Try.underlying33 (.inr ⟨_, rfl⟩) (inf57.elem rfl rfl) hrs (Src.litM h17 0 rfl rfl rfl) rfl (by first | omega | (simp; done) | (simp; omega) | (simp only [List.length_nil]; omega)) (by first | omega | (simp; done) | (simp; omega) | (simp only [List.length_nil]; omega)) ?_
          intro r18 v18 w19 hr18 h19
          simp only [lz, ls] at h19
          replace h19 := h19.drop 0
          simp only [ez, es'] at h19
          obtain ⟨A18, cap18, rfl, hcap18⟩ := hr18.val
          refine WL.v (Runs.fld fld35_1 rfl) rfl ?_
          refine WL.store' h19 3 rfl rfl rfl inf33 rfl rfl (Free.zero _) (Nat.le_of_ble_eq_true rfl) ?_
          intro  w20 h20
          try simp only [lz, ls, ez, es'] at h20
          refine WL.nil (WN.blk (WN.thn (WC.reg ?_)))
          refine WL.v (Runs.move rfl) rfl ?_
          refine WL.v (Runs.addn rfl rfl (by omega)) rfl ?_
          refine WL.v (Runs.assign rfl) rfl ?_
          refine WL.nil ?_
          exact WN.again (⟨i + 1, A18, cap18, r18, es ++ [E.mk (z.ss.getD i S0) A1 cap1]⟩ : Nat × Option Addr × Nat × Res × List E) (by show z.ss.length - (i + 1) < z.ss.length - i; omega) ⟨rfl, rfl, rfl, rfl, trivial⟩ ⟨by show i + 1 ≤ _; omega, hr18, by show (es ++ [_]).map _ = z.ss.take (i + 1); rw [List.map_append, hes, ← take_at S0 hi2]; rfl, fun e he => (by
            rcases List.mem_append.1 he with he | he
            · exact hps0 e he
            · rw [List.mem_singleton.1 he]; exact hps), (h20.drop 0)⟩
      · try simp only [dt, df, nt, nf, ba, il, ie] at c14
        first
        | (exfalso; omega)
        | skip
          refine WC.exit (WX.thn (WX.cut (WX.hit (WN.thn (WC.seq ?_)))))
          refine WC.reg ?_
          refine WL.v (Runs.loadAll hL 2 rfl Try.underlying35 rfl inf35 rfl rfl) rfl ?_
          refine WL.storeAll hL 3 rfl rfl rfl inf35 rfl rfl rfl (Free.zero _) ?_
          intro  w21 h21
          try simp only [lz, ls, ez, es'] at h21
          refine WL.nil (WN.thn (WC.ret ?_))
          obtain rfl : i = z.ss.length := by omega
          rw [List.take_length] at hes
          have hel : es.length = z.ss.length := by rw [← hes, List.length_map]
          rw [hel] at hrs h21
          have hO : QOS F r rs A0 A cap0 cap z := ⟨hrj, es, hrs, hes, hps0⟩
          obtain ⟨G9, hG9, hZ9, hS9⟩ := hO.still (cs := _) (((h21.drop 4).drop 3).drop 2 |>.perm (List.Perm.swap _ _ _))
          refine retA rfl (ResOk.blk h21 3 rfl Try.underlying35 rfl inf35 rfl rfl) ⟨G9, A0, A, cap0, cap, hG9, rfl, hZ9, hS9⟩
set_option maxRecDepth 100000 in
set_option maxHeartbeats 1000000 in
theorem same_c {W : World} {F : Snap} {cs : List Res} (w : World) {A B : Option Addr} {cap cap2 : Nat} {xs ys : List Int} (h : St W F cs w) (hA : RdS (Kd.one Vi) F A xs) (hB : RdS (Kd.one Vi) F B ys) (hn : xs.length ≤ 100000) : Calls Try.prog 45 #[.slice A xs.length cap, .slice B ys.length cap2] w fun e w' => e = .returned (.bool (decide (xs = ys))) ∧ St W F cs w'  := by
  refine enter (P := Try.prog) (args := [.slice A xs.length cap, .slice B ys.length cap2]) Try.func45 rfl rfl rfl ?_
  refine WC.seq (WC.reg ?_)
  refine WL.v (Runs.assign rfl) rfl ?_
  refine WL.nil (WN.thn (WC.seq (WC.seq (WC.reg ?_))))
  refine WL.v (Runs.move rfl) rfl ?_
  refine WL.v (Runs.llen Try.underlying22 rfl rfl) rfl ?_
  refine WL.v (Runs.move rfl) rfl ?_
  refine WL.v (Runs.llen Try.underlying22 rfl rfl) rfl ?_
  refine WL.v (Runs.neq rfl rfl) rfl ?_
  refine WL.nil (WN.thn ?_)
  refine WC.cond rfl (fun c1 => ?_) (fun c1 => ?_)
  · try simp only [dt, df, nt, nf, ba, il, ie] at c1
    first
    | (exfalso; omega)
    | skip
      refine WC.seq (WC.reg ?_)
      refine WL.v (Runs.assign rfl) rfl ?_
      refine WL.nil (WN.thn (WC.ret ?_))
      exact ret1 rfl rfl ⟨by rw [decide_eq_false (fun hh : xs = ys => by rw [hh] at c1; exact c1 rfl)], h⟩
  · try simp only [dt, df, nt, nf, ba, il, ie] at c1
    first
    | (exfalso; omega)
    | skip
      refine WC.skip (WN.thn (WC.seq (WC.seq ?_)))
      have hll : xs.length = ys.length := by omega
      refine WC.reg ?_
      refine WL.v (Runs.assign rfl) rfl ?_
      refine WL.nil (WN.thn (WC.block ?_))
      refine WC.loop (σ := Nat) (fun q_ => [(0, .slice A xs.length cap), (1, .slice B ys.length cap2), (5, .int .i64 (q_ : Int))]) (fun q_ w => q_ ≤ xs.length ∧ (∀ j, j < q_ → xs.getD j 0 = ys.getD j 0) ∧ St W F cs w) (fun q_ => xs.length - q_) (0) (by repeat (first | exact trivial | refine ⟨rfl, ?_⟩)) (⟨by omega, fun j hj => absurd hj (Nat.not_lt_zero _), h⟩) ?_
      rintro i w2 ⟨hi, hall, hL⟩
      try dsimp only at hi hall hL
      refine WC.sub (s := [(0, .slice A xs.length cap), (1, .slice B ys.length cap2), (5, .int .i64 (i : Int))]) (by repeat (first | exact trivial | refine ⟨rfl, ?_⟩)) ?_
      refine WC.seq (WC.seq (WC.reg ?_))
      refine WL.v (Runs.move rfl) rfl ?_
      refine WL.v (Runs.move rfl) rfl ?_
      refine WL.v (Runs.llen Try.underlying22 rfl rfl) rfl ?_
      refine WL.v (Runs.lss rfl rfl) rfl ?_
      refine WL.nil (WN.thn ?_)
      refine WC.cond rfl (fun c3 => ?_) (fun c3 => ?_)
      · try simp only [dt, df, nt, nf, ba, il, ie] at c3
        first
        | (exfalso; omega)
        | skip
          refine WC.skip (WN.thn (WC.seq (WC.block (WC.seq ?_))))
          obtain ⟨a1, rfl, hra⟩ := rd1 hA (by omega)
          obtain ⟨b1, rfl, hrb⟩ := rd1 hB (by omega)
          refine WC.eregK hL hL (fun s_ => ([] : List Nat).any (Nat.beq s_)) mixed (by kernel_rfl) (fun hx => ?_)
          intro w4 h4
          refine WE.p0 hx 0 (by rfl) (fun w_ => Runs.move rfl) rfl ?_
          refine WE.p0 hx 1 (by rfl) (fun w_ => Runs.move rfl) rfl ?_
          refine WE.p0 hx 2 (by rfl) (fun w_ => Runs.lidxN Try.underlying22 inf3 rfl rfl (n := i) rfl (by omega)) rfl ?_
          refine WE.p0 hx 4 (by rfl) (fun w_ => Runs.move rfl) rfl ?_
          refine WE.p0 hx 5 (by rfl) (fun w_ => Runs.move rfl) rfl ?_
          refine WE.p0 hx 6 (by rfl) (fun w_ => Runs.lidxN Try.underlying22 inf3 rfl rfl (n := i) rfl (by omega)) rfl ?_
          refine WE.v0 12 hx 3 (by rfl) (fun w_ hE_ => Runs.loadR (f := Vi) (0 : Int) hE_ hra (n := i) (by omega) Try.underlying3 rfl rfl) rfl ?_
          refine WE.v0 12 hx 7 (by rfl) (fun w_ hE_ => Runs.loadR (f := Vi) (0 : Int) hE_ hrb (n := i) (by omega) Try.underlying3 rfl rfl) rfl ?_
          refine WE.p0 hx 8 (by rfl) (fun w_ => Runs.neq rfl rfl) rfl ?_
          refine WE.fin (.inr h4) (by kernel_rfl) ?_
          refine WN.thn ?_
          refine WC.cond rfl (fun c5 => ?_) (fun c5 => ?_)
          · try simp only [dt, df, nt, nf, ba, il, ie] at c5
            first
            | (exfalso; omega)
            | skip
              refine WC.seq (WC.reg ?_)
              refine WL.v (Runs.assign rfl) rfl ?_
              refine WL.nil (WN.thn (WC.ret ?_))
              exact ret1 rfl rfl ⟨by rw [decide_eq_false (fun hh : xs = ys => by rw [hh] at c5; exact c5 rfl)], h4⟩
          · try simp only [dt, df, nt, nf, ba, il, ie] at c5
            first
            | (exfalso; omega)
            | skip
              refine WC.skip (WN.blk (WN.thn (WC.reg ?_)))
              refine WL.v (Runs.move rfl) rfl ?_
              refine WL.v (Runs.addn rfl rfl (by omega)) rfl ?_
              refine WL.v (Runs.assign rfl) rfl ?_
              refine WL.nil ?_
              exact WN.again (i + 1) (by omega) ⟨rfl, rfl, rfl, trivial⟩ ⟨by omega, fun j hj => (by
                by_cases e : j = i
                · subst e; exact c5
                · exact hall j (by omega)), h4⟩
      · try simp only [dt, df, nt, nf, ba, il, ie] at c3
        first
        | (exfalso; omega)
        | skip
          refine WC.exit (WX.thn (WX.cut (WX.hit (WN.thn (WC.seq ?_)))))
          refine WC.reg ?_
          refine WL.v (Runs.assign rfl) rfl ?_
          refine WL.nil (WN.thn (WC.ret ?_))
          exact ret1 rfl rfl ⟨by rw [decide_eq_true (lists_eq hll (fun j hj => hall j (by omega)))], hL⟩
set_option maxRecDepth 100000 in
set_option maxHeartbeats 8000000 in
theorem recs_c {W : World} {F : Snap} {cs : List Res} (w : World) {Al : Option Addr} {cl : Nat} {r : R} {Bl : Option Addr} {dl : Nat} (hl : RdS (Kd.one Vi) F Al r.ls) (hn : r.ls.length ≤ 100000) (hl2 : RdS (Kd.one Vi) F Bl r.ls) (h : St W F cs w) : Calls Try.prog 15 #[.agg #[Vi r.kd, Vi r.jb, Vi r.ep, Vi r.st, Vi r.ar, .slice Al r.ls.length cl], .agg #[Vi r.kd, Vi r.jb, Vi r.ep, Vi r.st, Vi r.ar, .slice Bl r.ls.length dl]] w fun e w' => e = .returned (.bool true) ∧ St W F cs w'  := by
  refine enter (P := Try.prog) (args := [.agg #[Vi r.kd, Vi r.jb, Vi r.ep, Vi r.st, Vi r.ar, .slice Al r.ls.length cl], .agg #[Vi r.kd, Vi r.jb, Vi r.ep, Vi r.st, Vi r.ar, .slice Bl r.ls.length dl]]) Try.func15 rfl rfl rfl ?_
  refine WC.seq (WC.reg ?_)
  refine WL.box rfl h rfl ?_
  intro b2 w1 h1
  refine WL.box rfl h1 rfl ?_
  intro b3 w2 h2
  refine WL.v (Runs.assign rfl) rfl ?_
  refine WL.nil (WN.thn (WC.seq (WC.reg ?_)))
  refine WL.v (Runs.fld fld24_0 rfl) rfl ?_
  refine WL.v (Runs.load1 Try.underlying3 rfl rfl (h2.ocell (i := 1) rfl rfl)) rfl ?_
  refine WL.v (Runs.fld fld24_0 rfl) rfl ?_
  refine WL.v (Runs.load1 Try.underlying3 rfl rfl (h2.ocell (i := 0) rfl rfl)) rfl ?_
  refine WL.v (Runs.boolT (c := true) (Runs.eql rfl rfl) (decide_eq_true rfl)) rfl ?_
  refine WL.v (Runs.move rfl) rfl ?_
  refine WL.gon rfl rfl rfl ?_
  refine WL.v (Runs.fld fld24_1 rfl) rfl ?_
  refine WL.gon rfl rfl rfl ?_
  refine WL.v (Runs.load1 Try.underlying3 rfl rfl (h2.ocell (i := 1) rfl rfl)) rfl ?_
  refine WL.gon rfl rfl rfl ?_
  refine WL.v (Runs.fld fld24_1 rfl) rfl ?_
  refine WL.gon rfl rfl rfl ?_
  refine WL.v (Runs.load1 Try.underlying3 rfl rfl (h2.ocell (i := 0) rfl rfl)) rfl ?_
  refine WL.gon rfl rfl rfl ?_
  refine WL.v (Runs.boolT (c := true) (Runs.eql rfl rfl) (decide_eq_true rfl)) rfl ?_
  refine WL.v (Runs.pick rfl rfl rfl) rfl ?_
  refine WL.v (Runs.move rfl) rfl ?_
  refine WL.gon rfl rfl rfl ?_
  refine WL.v (Runs.fld fld24_2 rfl) rfl ?_
  refine WL.gon rfl rfl rfl ?_
  refine WL.v (Runs.load1 Try.underlying3 rfl rfl (h2.ocell (i := 1) rfl rfl)) rfl ?_
  refine WL.gon rfl rfl rfl ?_
  refine WL.v (Runs.fld fld24_2 rfl) rfl ?_
  refine WL.gon rfl rfl rfl ?_
  refine WL.v (Runs.load1 Try.underlying3 rfl rfl (h2.ocell (i := 0) rfl rfl)) rfl ?_
  refine WL.gon rfl rfl rfl ?_
  refine WL.v (Runs.boolT (c := true) (Runs.eql rfl rfl) (decide_eq_true rfl)) rfl ?_
  refine WL.v (Runs.pick rfl rfl rfl) rfl ?_
  refine WL.v (Runs.move rfl) rfl ?_
  refine WL.gon rfl rfl rfl ?_
  refine WL.v (Runs.fld fld24_3 rfl) rfl ?_
  refine WL.gon rfl rfl rfl ?_
  refine WL.v (Runs.load1 Try.underlying3 rfl rfl (h2.ocell (i := 1) rfl rfl)) rfl ?_
  refine WL.gon rfl rfl rfl ?_
  refine WL.v (Runs.fld fld24_3 rfl) rfl ?_
  refine WL.gon rfl rfl rfl ?_
  refine WL.v (Runs.load1 Try.underlying3 rfl rfl (h2.ocell (i := 0) rfl rfl)) rfl ?_
  refine WL.gon rfl rfl rfl ?_
  refine WL.v (Runs.boolT (c := true) (Runs.eql rfl rfl) (decide_eq_true rfl)) rfl ?_
  refine WL.v (Runs.pick rfl rfl rfl) rfl ?_
  refine WL.v (Runs.move rfl) rfl ?_
  refine WL.gon rfl rfl rfl ?_
  refine WL.v (Runs.fld fld24_4 rfl) rfl ?_
  refine WL.gon rfl rfl rfl ?_
  refine WL.v (Runs.load1 Try.underlying3 rfl rfl (h2.ocell (i := 1) rfl rfl)) rfl ?_
  refine WL.gon rfl rfl rfl ?_
  refine WL.v (Runs.fld fld24_4 rfl) rfl ?_
  refine WL.gon rfl rfl rfl ?_
  refine WL.v (Runs.load1 Try.underlying3 rfl rfl (h2.ocell (i := 0) rfl rfl)) rfl ?_
  refine WL.gon rfl rfl rfl ?_
  refine WL.v (Runs.boolT (c := true) (Runs.eql rfl rfl) (decide_eq_true rfl)) rfl ?_
  refine WL.v (Runs.pick rfl rfl rfl) rfl ?_
  refine WL.v (Runs.move rfl) rfl ?_
  refine WL.gon rfl rfl rfl ?_
  refine WL.v (Runs.fld fld24_5 rfl) rfl ?_
  refine WL.gon rfl rfl rfl ?_
  refine WL.v (Runs.load1 Try.underlying22 rfl rfl (h2.ocell (i := 1) rfl rfl)) rfl ?_
  refine WL.gon rfl rfl rfl ?_
  refine WL.v (Runs.fld fld24_5 rfl) rfl ?_
  refine WL.gon rfl rfl rfl ?_
  refine WL.v (Runs.load1 Try.underlying22 rfl rfl (h2.ocell (i := 0) rfl rfl)) rfl ?_
  refine WL.gon rfl rfl rfl ?_
  refine WL.call can45 rfl rfl (same_c _ h2 hl hl2 hn) ?_
  rintro _ w3 ⟨rfl, h3⟩
  refine ⟨_, rfl, ?_⟩
  refine WL.v (Runs.valT (u := .bool true) (Runs.pick rfl rfl rfl) (by simp)) rfl ?_
  refine WL.v (Runs.assign rfl) rfl ?_
  refine WL.nil (WN.thn (WC.ret ?_))
  exact ret1 rfl rfl ⟨rfl, ((h3.drop 0).drop 0)⟩
set_option maxRecDepth 100000 in
set_option maxHeartbeats 8000000 in
theorem one_c {W : World} {F : Snap} {cs : List Res} (w : World) {Aa Ab : Option Addr} {ca cb : Nat} {a b : S} (hla : RdS (Kd.one Vi) F Aa a.ps) (hlb : RdS (Kd.one Vi) F Ab b.ps) (hn : a.ps.length ≤ 100000) (h : St W F cs w) : Calls Try.prog 31 #[SV Aa ca a, SV Ab cb b] w fun e w' => e = .returned (.bool (decide (a = b))) ∧ St W F cs w'  := by
  refine enter (P := Try.prog) (args := [SV Aa ca a, SV Ab cb b]) Try.func31 rfl rfl rfl ?_
  refine WC.seq (WC.reg ?_)
  refine WL.box rfl h rfl ?_
  intro b2 w1 h1
  refine WL.box rfl h1 rfl ?_
  intro b3 w2 h2
  refine WL.v (Runs.assign rfl) rfl ?_
  refine WL.nil (WN.thn (WC.seq ?_))
  rcases five (a.jb = b.jb) (a.ep = b.ep) (a.st = b.st) (a.ph = b.ph) (a.cd = b.cd) with q0 | ⟨q0, q1⟩ | ⟨q0, q1, q2⟩ | ⟨q0, q1, q2, q3⟩ | ⟨q0, q1, q2, q3, q4⟩ | ⟨q0, q1, q2, q3, q4⟩
  · skip
    refine WC.reg ?_
    refine WL.v (Runs.fld fld57_0 rfl) rfl ?_
    refine WL.v (Runs.load1 Try.underlying3 rfl rfl (h2.ocell (i := 1) rfl rfl)) rfl ?_
    refine WL.v (Runs.fld fld57_0 rfl) rfl ?_
    refine WL.v (Runs.load1 Try.underlying3 rfl rfl (h2.ocell (i := 0) rfl rfl)) rfl ?_
    refine WL.v (Runs.boolT (c := false) (Runs.eql rfl rfl) (decide_eq_false q0)) rfl ?_
    refine WL.v (Runs.move rfl) rfl ?_
    refine WL.goff rfl rfl rfl rfl ?_
    refine WL.goff rfl rfl rfl rfl ?_
    refine WL.goff rfl rfl rfl rfl ?_
    refine WL.goff rfl rfl rfl rfl ?_
    refine WL.goff rfl rfl rfl rfl ?_
    refine WL.v (Runs.pick rfl rfl rfl) rfl ?_
    refine WL.v (Runs.move rfl) rfl ?_
    refine WL.goff rfl rfl rfl rfl ?_
    refine WL.goff rfl rfl rfl rfl ?_
    refine WL.goff rfl rfl rfl rfl ?_
    refine WL.goff rfl rfl rfl rfl ?_
    refine WL.goff rfl rfl rfl rfl ?_
    refine WL.v (Runs.pick rfl rfl rfl) rfl ?_
    refine WL.v (Runs.move rfl) rfl ?_
    refine WL.goff rfl rfl rfl rfl ?_
    refine WL.goff rfl rfl rfl rfl ?_
    refine WL.goff rfl rfl rfl rfl ?_
    refine WL.goff rfl rfl rfl rfl ?_
    refine WL.goff rfl rfl rfl rfl ?_
    refine WL.v (Runs.pick rfl rfl rfl) rfl ?_
    refine WL.v (Runs.move rfl) rfl ?_
    refine WL.goff rfl rfl rfl rfl ?_
    refine WL.goff rfl rfl rfl rfl ?_
    refine WL.goff rfl rfl rfl rfl ?_
    refine WL.goff rfl rfl rfl rfl ?_
    refine WL.goff rfl rfl rfl rfl ?_
    refine WL.v (Runs.pick rfl rfl rfl) rfl ?_
    refine WL.v (Runs.move rfl) rfl ?_
    refine WL.goff rfl rfl rfl rfl ?_
    refine WL.goff rfl rfl rfl rfl ?_
    refine WL.goff rfl rfl rfl rfl ?_
    refine WL.goff rfl rfl rfl rfl ?_
    refine WL.goff rfl rfl rfl rfl ?_
    refine WL.v (Runs.pick rfl rfl rfl) rfl ?_
    refine WL.v (Runs.assign rfl) rfl ?_
    refine WL.nil (WN.thn (WC.ret ?_))
    exact ret1 rfl rfl ⟨by rw [decide_eq_false (fun hh : a = b => q0 (by rw [hh]))] <;> rfl, ((h2.drop 0).drop 0)⟩
  · skip
    refine WC.reg ?_
    refine WL.v (Runs.fld fld57_0 rfl) rfl ?_
    refine WL.v (Runs.load1 Try.underlying3 rfl rfl (h2.ocell (i := 1) rfl rfl)) rfl ?_
    refine WL.v (Runs.fld fld57_0 rfl) rfl ?_
    refine WL.v (Runs.load1 Try.underlying3 rfl rfl (h2.ocell (i := 0) rfl rfl)) rfl ?_
    refine WL.v (Runs.boolT (c := true) (Runs.eql rfl rfl) (decide_eq_true q0)) rfl ?_
    refine WL.v (Runs.move rfl) rfl ?_
    refine WL.gon rfl rfl rfl ?_
    refine WL.v (Runs.fld fld57_1 rfl) rfl ?_
    refine WL.gon rfl rfl rfl ?_
    refine WL.v (Runs.load1 Try.underlying3 rfl rfl (h2.ocell (i := 1) rfl rfl)) rfl ?_
    refine WL.gon rfl rfl rfl ?_
    refine WL.v (Runs.fld fld57_1 rfl) rfl ?_
    refine WL.gon rfl rfl rfl ?_
    refine WL.v (Runs.load1 Try.underlying3 rfl rfl (h2.ocell (i := 0) rfl rfl)) rfl ?_
    refine WL.gon rfl rfl rfl ?_
    refine WL.v (Runs.boolT (c := false) (Runs.eql rfl rfl) (decide_eq_false q1)) rfl ?_
    refine WL.v (Runs.pick rfl rfl rfl) rfl ?_
    refine WL.v (Runs.move rfl) rfl ?_
    refine WL.goff rfl rfl rfl rfl ?_
    refine WL.goff rfl rfl rfl rfl ?_
    refine WL.goff rfl rfl rfl rfl ?_
    refine WL.goff rfl rfl rfl rfl ?_
    refine WL.goff rfl rfl rfl rfl ?_
    refine WL.v (Runs.pick rfl rfl rfl) rfl ?_
    refine WL.v (Runs.move rfl) rfl ?_
    refine WL.goff rfl rfl rfl rfl ?_
    refine WL.goff rfl rfl rfl rfl ?_
    refine WL.goff rfl rfl rfl rfl ?_
    refine WL.goff rfl rfl rfl rfl ?_
    refine WL.goff rfl rfl rfl rfl ?_
    refine WL.v (Runs.pick rfl rfl rfl) rfl ?_
    refine WL.v (Runs.move rfl) rfl ?_
    refine WL.goff rfl rfl rfl rfl ?_
    refine WL.goff rfl rfl rfl rfl ?_
    refine WL.goff rfl rfl rfl rfl ?_
    refine WL.goff rfl rfl rfl rfl ?_
    refine WL.goff rfl rfl rfl rfl ?_
    refine WL.v (Runs.pick rfl rfl rfl) rfl ?_
    refine WL.v (Runs.move rfl) rfl ?_
    refine WL.goff rfl rfl rfl rfl ?_
    refine WL.goff rfl rfl rfl rfl ?_
    refine WL.goff rfl rfl rfl rfl ?_
    refine WL.goff rfl rfl rfl rfl ?_
    refine WL.goff rfl rfl rfl rfl ?_
    refine WL.v (Runs.pick rfl rfl rfl) rfl ?_
    refine WL.v (Runs.assign rfl) rfl ?_
    refine WL.nil (WN.thn (WC.ret ?_))
    exact ret1 rfl rfl ⟨by rw [decide_eq_false (fun hh : a = b => q1 (by rw [hh]))] <;> rfl, ((h2.drop 0).drop 0)⟩
  · skip
    refine WC.reg ?_
    refine WL.v (Runs.fld fld57_0 rfl) rfl ?_
    refine WL.v (Runs.load1 Try.underlying3 rfl rfl (h2.ocell (i := 1) rfl rfl)) rfl ?_
    refine WL.v (Runs.fld fld57_0 rfl) rfl ?_
    refine WL.v (Runs.load1 Try.underlying3 rfl rfl (h2.ocell (i := 0) rfl rfl)) rfl ?_
    refine WL.v (Runs.boolT (c := true) (Runs.eql rfl rfl) (decide_eq_true q0)) rfl ?_
    refine WL.v (Runs.move rfl) rfl ?_
    refine WL.gon rfl rfl rfl ?_
    refine WL.v (Runs.fld fld57_1 rfl) rfl ?_
    refine WL.gon rfl rfl rfl ?_
    refine WL.v (Runs.load1 Try.underlying3 rfl rfl (h2.ocell (i := 1) rfl rfl)) rfl ?_
    refine WL.gon rfl rfl rfl ?_
    refine WL.v (Runs.fld fld57_1 rfl) rfl ?_
    refine WL.gon rfl rfl rfl ?_
    refine WL.v (Runs.load1 Try.underlying3 rfl rfl (h2.ocell (i := 0) rfl rfl)) rfl ?_
    refine WL.gon rfl rfl rfl ?_
    refine WL.v (Runs.boolT (c := true) (Runs.eql rfl rfl) (decide_eq_true q1)) rfl ?_
    refine WL.v (Runs.pick rfl rfl rfl) rfl ?_
    refine WL.v (Runs.move rfl) rfl ?_
    refine WL.gon rfl rfl rfl ?_
    refine WL.v (Runs.fld fld57_2 rfl) rfl ?_
    refine WL.gon rfl rfl rfl ?_
    refine WL.v (Runs.load1 Try.underlying3 rfl rfl (h2.ocell (i := 1) rfl rfl)) rfl ?_
    refine WL.gon rfl rfl rfl ?_
    refine WL.v (Runs.fld fld57_2 rfl) rfl ?_
    refine WL.gon rfl rfl rfl ?_
    refine WL.v (Runs.load1 Try.underlying3 rfl rfl (h2.ocell (i := 0) rfl rfl)) rfl ?_
    refine WL.gon rfl rfl rfl ?_
    refine WL.v (Runs.boolT (c := false) (Runs.eql rfl rfl) (decide_eq_false q2)) rfl ?_
    refine WL.v (Runs.pick rfl rfl rfl) rfl ?_
    refine WL.v (Runs.move rfl) rfl ?_
    refine WL.goff rfl rfl rfl rfl ?_
    refine WL.goff rfl rfl rfl rfl ?_
    refine WL.goff rfl rfl rfl rfl ?_
    refine WL.goff rfl rfl rfl rfl ?_
    refine WL.goff rfl rfl rfl rfl ?_
    refine WL.v (Runs.pick rfl rfl rfl) rfl ?_
    refine WL.v (Runs.move rfl) rfl ?_
    refine WL.goff rfl rfl rfl rfl ?_
    refine WL.goff rfl rfl rfl rfl ?_
    refine WL.goff rfl rfl rfl rfl ?_
    refine WL.goff rfl rfl rfl rfl ?_
    refine WL.goff rfl rfl rfl rfl ?_
    refine WL.v (Runs.pick rfl rfl rfl) rfl ?_
    refine WL.v (Runs.move rfl) rfl ?_
    refine WL.goff rfl rfl rfl rfl ?_
    refine WL.goff rfl rfl rfl rfl ?_
    refine WL.goff rfl rfl rfl rfl ?_
    refine WL.goff rfl rfl rfl rfl ?_
    refine WL.goff rfl rfl rfl rfl ?_
    refine WL.v (Runs.pick rfl rfl rfl) rfl ?_
    refine WL.v (Runs.assign rfl) rfl ?_
    refine WL.nil (WN.thn (WC.ret ?_))
    exact ret1 rfl rfl ⟨by rw [decide_eq_false (fun hh : a = b => q2 (by rw [hh]))] <;> rfl, ((h2.drop 0).drop 0)⟩
  · skip
    refine WC.reg ?_
    refine WL.v (Runs.fld fld57_0 rfl) rfl ?_
    refine WL.v (Runs.load1 Try.underlying3 rfl rfl (h2.ocell (i := 1) rfl rfl)) rfl ?_
    refine WL.v (Runs.fld fld57_0 rfl) rfl ?_
    refine WL.v (Runs.load1 Try.underlying3 rfl rfl (h2.ocell (i := 0) rfl rfl)) rfl ?_
    refine WL.v (Runs.boolT (c := true) (Runs.eql rfl rfl) (decide_eq_true q0)) rfl ?_
    refine WL.v (Runs.move rfl) rfl ?_
    refine WL.gon rfl rfl rfl ?_
    refine WL.v (Runs.fld fld57_1 rfl) rfl ?_
    refine WL.gon rfl rfl rfl ?_
    refine WL.v (Runs.load1 Try.underlying3 rfl rfl (h2.ocell (i := 1) rfl rfl)) rfl ?_
    refine WL.gon rfl rfl rfl ?_
    refine WL.v (Runs.fld fld57_1 rfl) rfl ?_
    refine WL.gon rfl rfl rfl ?_
    refine WL.v (Runs.load1 Try.underlying3 rfl rfl (h2.ocell (i := 0) rfl rfl)) rfl ?_
    refine WL.gon rfl rfl rfl ?_
    refine WL.v (Runs.boolT (c := true) (Runs.eql rfl rfl) (decide_eq_true q1)) rfl ?_
    refine WL.v (Runs.pick rfl rfl rfl) rfl ?_
    refine WL.v (Runs.move rfl) rfl ?_
    refine WL.gon rfl rfl rfl ?_
    refine WL.v (Runs.fld fld57_2 rfl) rfl ?_
    refine WL.gon rfl rfl rfl ?_
    refine WL.v (Runs.load1 Try.underlying3 rfl rfl (h2.ocell (i := 1) rfl rfl)) rfl ?_
    refine WL.gon rfl rfl rfl ?_
    refine WL.v (Runs.fld fld57_2 rfl) rfl ?_
    refine WL.gon rfl rfl rfl ?_
    refine WL.v (Runs.load1 Try.underlying3 rfl rfl (h2.ocell (i := 0) rfl rfl)) rfl ?_
    refine WL.gon rfl rfl rfl ?_
    refine WL.v (Runs.boolT (c := true) (Runs.eql rfl rfl) (decide_eq_true q2)) rfl ?_
    refine WL.v (Runs.pick rfl rfl rfl) rfl ?_
    refine WL.v (Runs.move rfl) rfl ?_
    refine WL.gon rfl rfl rfl ?_
    refine WL.v (Runs.fld fld57_3 rfl) rfl ?_
    refine WL.gon rfl rfl rfl ?_
    refine WL.v (Runs.load1 Try.underlying3 rfl rfl (h2.ocell (i := 1) rfl rfl)) rfl ?_
    refine WL.gon rfl rfl rfl ?_
    refine WL.v (Runs.fld fld57_3 rfl) rfl ?_
    refine WL.gon rfl rfl rfl ?_
    refine WL.v (Runs.load1 Try.underlying3 rfl rfl (h2.ocell (i := 0) rfl rfl)) rfl ?_
    refine WL.gon rfl rfl rfl ?_
    refine WL.v (Runs.boolT (c := false) (Runs.eql rfl rfl) (decide_eq_false q3)) rfl ?_
    refine WL.v (Runs.pick rfl rfl rfl) rfl ?_
    refine WL.v (Runs.move rfl) rfl ?_
    refine WL.goff rfl rfl rfl rfl ?_
    refine WL.goff rfl rfl rfl rfl ?_
    refine WL.goff rfl rfl rfl rfl ?_
    refine WL.goff rfl rfl rfl rfl ?_
    refine WL.goff rfl rfl rfl rfl ?_
    refine WL.v (Runs.pick rfl rfl rfl) rfl ?_
    refine WL.v (Runs.move rfl) rfl ?_
    refine WL.goff rfl rfl rfl rfl ?_
    refine WL.goff rfl rfl rfl rfl ?_
    refine WL.goff rfl rfl rfl rfl ?_
    refine WL.goff rfl rfl rfl rfl ?_
    refine WL.goff rfl rfl rfl rfl ?_
    refine WL.v (Runs.pick rfl rfl rfl) rfl ?_
    refine WL.v (Runs.assign rfl) rfl ?_
    refine WL.nil (WN.thn (WC.ret ?_))
    exact ret1 rfl rfl ⟨by rw [decide_eq_false (fun hh : a = b => q3 (by rw [hh]))] <;> rfl, ((h2.drop 0).drop 0)⟩
  · skip
    refine WC.reg ?_
    refine WL.v (Runs.fld fld57_0 rfl) rfl ?_
    refine WL.v (Runs.load1 Try.underlying3 rfl rfl (h2.ocell (i := 1) rfl rfl)) rfl ?_
    refine WL.v (Runs.fld fld57_0 rfl) rfl ?_
    refine WL.v (Runs.load1 Try.underlying3 rfl rfl (h2.ocell (i := 0) rfl rfl)) rfl ?_
    refine WL.v (Runs.boolT (c := true) (Runs.eql rfl rfl) (decide_eq_true q0)) rfl ?_
    refine WL.v (Runs.move rfl) rfl ?_
    refine WL.gon rfl rfl rfl ?_
    refine WL.v (Runs.fld fld57_1 rfl) rfl ?_
    refine WL.gon rfl rfl rfl ?_
    refine WL.v (Runs.load1 Try.underlying3 rfl rfl (h2.ocell (i := 1) rfl rfl)) rfl ?_
    refine WL.gon rfl rfl rfl ?_
    refine WL.v (Runs.fld fld57_1 rfl) rfl ?_
    refine WL.gon rfl rfl rfl ?_
    refine WL.v (Runs.load1 Try.underlying3 rfl rfl (h2.ocell (i := 0) rfl rfl)) rfl ?_
    refine WL.gon rfl rfl rfl ?_
    refine WL.v (Runs.boolT (c := true) (Runs.eql rfl rfl) (decide_eq_true q1)) rfl ?_
    refine WL.v (Runs.pick rfl rfl rfl) rfl ?_
    refine WL.v (Runs.move rfl) rfl ?_
    refine WL.gon rfl rfl rfl ?_
    refine WL.v (Runs.fld fld57_2 rfl) rfl ?_
    refine WL.gon rfl rfl rfl ?_
    refine WL.v (Runs.load1 Try.underlying3 rfl rfl (h2.ocell (i := 1) rfl rfl)) rfl ?_
    refine WL.gon rfl rfl rfl ?_
    refine WL.v (Runs.fld fld57_2 rfl) rfl ?_
    refine WL.gon rfl rfl rfl ?_
    refine WL.v (Runs.load1 Try.underlying3 rfl rfl (h2.ocell (i := 0) rfl rfl)) rfl ?_
    refine WL.gon rfl rfl rfl ?_
    refine WL.v (Runs.boolT (c := true) (Runs.eql rfl rfl) (decide_eq_true q2)) rfl ?_
    refine WL.v (Runs.pick rfl rfl rfl) rfl ?_
    refine WL.v (Runs.move rfl) rfl ?_
    refine WL.gon rfl rfl rfl ?_
    refine WL.v (Runs.fld fld57_3 rfl) rfl ?_
    refine WL.gon rfl rfl rfl ?_
    refine WL.v (Runs.load1 Try.underlying3 rfl rfl (h2.ocell (i := 1) rfl rfl)) rfl ?_
    refine WL.gon rfl rfl rfl ?_
    refine WL.v (Runs.fld fld57_3 rfl) rfl ?_
    refine WL.gon rfl rfl rfl ?_
    refine WL.v (Runs.load1 Try.underlying3 rfl rfl (h2.ocell (i := 0) rfl rfl)) rfl ?_
    refine WL.gon rfl rfl rfl ?_
    refine WL.v (Runs.boolT (c := true) (Runs.eql rfl rfl) (decide_eq_true q3)) rfl ?_
    refine WL.v (Runs.pick rfl rfl rfl) rfl ?_
    refine WL.v (Runs.move rfl) rfl ?_
    refine WL.gon rfl rfl rfl ?_
    refine WL.v (Runs.fld fld57_4 rfl) rfl ?_
    refine WL.gon rfl rfl rfl ?_
    refine WL.v (Runs.load1 Try.underlying3 rfl rfl (h2.ocell (i := 1) rfl rfl)) rfl ?_
    refine WL.gon rfl rfl rfl ?_
    refine WL.v (Runs.fld fld57_4 rfl) rfl ?_
    refine WL.gon rfl rfl rfl ?_
    refine WL.v (Runs.load1 Try.underlying3 rfl rfl (h2.ocell (i := 0) rfl rfl)) rfl ?_
    refine WL.gon rfl rfl rfl ?_
    refine WL.v (Runs.boolT (c := false) (Runs.eql rfl rfl) (decide_eq_false q4)) rfl ?_
    refine WL.v (Runs.pick rfl rfl rfl) rfl ?_
    refine WL.v (Runs.move rfl) rfl ?_
    refine WL.goff rfl rfl rfl rfl ?_
    refine WL.goff rfl rfl rfl rfl ?_
    refine WL.goff rfl rfl rfl rfl ?_
    refine WL.goff rfl rfl rfl rfl ?_
    refine WL.goff rfl rfl rfl rfl ?_
    refine WL.v (Runs.pick rfl rfl rfl) rfl ?_
    refine WL.v (Runs.assign rfl) rfl ?_
    refine WL.nil (WN.thn (WC.ret ?_))
    exact ret1 rfl rfl ⟨by rw [decide_eq_false (fun hh : a = b => q4 (by rw [hh]))] <;> rfl, ((h2.drop 0).drop 0)⟩
  · skip
    refine WC.reg ?_
    refine WL.v (Runs.fld fld57_0 rfl) rfl ?_
    refine WL.v (Runs.load1 Try.underlying3 rfl rfl (h2.ocell (i := 1) rfl rfl)) rfl ?_
    refine WL.v (Runs.fld fld57_0 rfl) rfl ?_
    refine WL.v (Runs.load1 Try.underlying3 rfl rfl (h2.ocell (i := 0) rfl rfl)) rfl ?_
    refine WL.v (Runs.boolT (c := true) (Runs.eql rfl rfl) (decide_eq_true q0)) rfl ?_
    refine WL.v (Runs.move rfl) rfl ?_
    refine WL.gon rfl rfl rfl ?_
    refine WL.v (Runs.fld fld57_1 rfl) rfl ?_
    refine WL.gon rfl rfl rfl ?_
    refine WL.v (Runs.load1 Try.underlying3 rfl rfl (h2.ocell (i := 1) rfl rfl)) rfl ?_
    refine WL.gon rfl rfl rfl ?_
    refine WL.v (Runs.fld fld57_1 rfl) rfl ?_
    refine WL.gon rfl rfl rfl ?_
    refine WL.v (Runs.load1 Try.underlying3 rfl rfl (h2.ocell (i := 0) rfl rfl)) rfl ?_
    refine WL.gon rfl rfl rfl ?_
    refine WL.v (Runs.boolT (c := true) (Runs.eql rfl rfl) (decide_eq_true q1)) rfl ?_
    refine WL.v (Runs.pick rfl rfl rfl) rfl ?_
    refine WL.v (Runs.move rfl) rfl ?_
    refine WL.gon rfl rfl rfl ?_
    refine WL.v (Runs.fld fld57_2 rfl) rfl ?_
    refine WL.gon rfl rfl rfl ?_
    refine WL.v (Runs.load1 Try.underlying3 rfl rfl (h2.ocell (i := 1) rfl rfl)) rfl ?_
    refine WL.gon rfl rfl rfl ?_
    refine WL.v (Runs.fld fld57_2 rfl) rfl ?_
    refine WL.gon rfl rfl rfl ?_
    refine WL.v (Runs.load1 Try.underlying3 rfl rfl (h2.ocell (i := 0) rfl rfl)) rfl ?_
    refine WL.gon rfl rfl rfl ?_
    refine WL.v (Runs.boolT (c := true) (Runs.eql rfl rfl) (decide_eq_true q2)) rfl ?_
    refine WL.v (Runs.pick rfl rfl rfl) rfl ?_
    refine WL.v (Runs.move rfl) rfl ?_
    refine WL.gon rfl rfl rfl ?_
    refine WL.v (Runs.fld fld57_3 rfl) rfl ?_
    refine WL.gon rfl rfl rfl ?_
    refine WL.v (Runs.load1 Try.underlying3 rfl rfl (h2.ocell (i := 1) rfl rfl)) rfl ?_
    refine WL.gon rfl rfl rfl ?_
    refine WL.v (Runs.fld fld57_3 rfl) rfl ?_
    refine WL.gon rfl rfl rfl ?_
    refine WL.v (Runs.load1 Try.underlying3 rfl rfl (h2.ocell (i := 0) rfl rfl)) rfl ?_
    refine WL.gon rfl rfl rfl ?_
    refine WL.v (Runs.boolT (c := true) (Runs.eql rfl rfl) (decide_eq_true q3)) rfl ?_
    refine WL.v (Runs.pick rfl rfl rfl) rfl ?_
    refine WL.v (Runs.move rfl) rfl ?_
    refine WL.gon rfl rfl rfl ?_
    refine WL.v (Runs.fld fld57_4 rfl) rfl ?_
    refine WL.gon rfl rfl rfl ?_
    refine WL.v (Runs.load1 Try.underlying3 rfl rfl (h2.ocell (i := 1) rfl rfl)) rfl ?_
    refine WL.gon rfl rfl rfl ?_
    refine WL.v (Runs.fld fld57_4 rfl) rfl ?_
    refine WL.gon rfl rfl rfl ?_
    refine WL.v (Runs.load1 Try.underlying3 rfl rfl (h2.ocell (i := 0) rfl rfl)) rfl ?_
    refine WL.gon rfl rfl rfl ?_
    refine WL.v (Runs.boolT (c := true) (Runs.eql rfl rfl) (decide_eq_true q4)) rfl ?_
    refine WL.v (Runs.pick rfl rfl rfl) rfl ?_
    refine WL.v (Runs.move rfl) rfl ?_
    refine WL.gon rfl rfl rfl ?_
    refine WL.v (Runs.fld fld57_5 rfl) rfl ?_
    refine WL.gon rfl rfl rfl ?_
    refine WL.v (Runs.load1 Try.underlying22 rfl rfl (h2.ocell (i := 1) rfl rfl)) rfl ?_
    refine WL.gon rfl rfl rfl ?_
    refine WL.v (Runs.fld fld57_5 rfl) rfl ?_
    refine WL.gon rfl rfl rfl ?_
    refine WL.v (Runs.load1 Try.underlying22 rfl rfl (h2.ocell (i := 0) rfl rfl)) rfl ?_
    refine WL.gon rfl rfl rfl ?_
    refine WL.call can45 rfl rfl (same_c _ h2 hla hlb hn) ?_
    rintro _ w3 ⟨rfl, h3⟩
    refine ⟨_, rfl, ?_⟩
    refine WL.v (Runs.pick rfl rfl rfl) rfl ?_
    refine WL.v (Runs.assign rfl) rfl ?_
    refine WL.nil (WN.thn (WC.ret ?_))
    exact ret1 rfl rfl ⟨by rw [← S_dec q0 q1 q2 q3 q4] <;> rfl, ((h3.drop 0).drop 0)⟩
set_option maxRecDepth 100000 in
set_option maxHeartbeats 4000000 in
theorem small_c {W : World} {F : Snap} {cs : List Res} (w : World) {A : Option Addr} {cap : Nat} {l : List R} {most : Int} (h : St W F cs w) (hR : RdS KR F A l) (hlm : l.length ≤ 9223372036854775807) : Calls Try.prog 28 #[.slice A l.length cap, Vi most] w fun e w' => e = .returned (.bool (decide (smallL l most))) ∧ St W F cs w'  := by
  refine enter (P := Try.prog) (args := [.slice A l.length cap, Vi most]) Try.func28 rfl rfl rfl ?_
  refine WC.seq (WC.reg ?_)
  refine WL.v (Runs.assign rfl) rfl ?_
  refine WL.nil (WN.thn (WC.seq (WC.seq (WC.reg ?_))))
  refine WL.v (Runs.assign rfl) rfl ?_
  refine WL.nil (WN.thn (WC.block ?_))
  refine WC.loop (σ := Nat) (fun q_ => [(0, .slice A l.length cap), (1, Vi most), (5, .int .i64 (q_ : Int))]) (fun q_ w => q_ ≤ l.length ∧ (∀ j, j < q_ → (l.getD j R0).ls.length ≤ 40) ∧ St W F cs w) (fun q_ => l.length - q_) (0) (by repeat (first | exact trivial | refine ⟨rfl, ?_⟩)) (⟨Nat.zero_le _, fun j hj => absurd hj (Nat.not_lt_zero _), h⟩) ?_
  rintro i w1 ⟨hi, hall, hL⟩
  try dsimp only at hi hall hL
  refine WC.sub (s := [(0, .slice A l.length cap), (1, Vi most), (5, .int .i64 (i : Int))]) (by repeat (first | exact trivial | refine ⟨rfl, ?_⟩)) ?_
  refine WC.seq (WC.seq (WC.reg ?_))
  refine WL.v (Runs.move rfl) rfl ?_
  refine WL.v (Runs.move rfl) rfl ?_
  refine WL.v (Runs.llen Try.underlying65 rfl rfl) rfl ?_
  refine WL.v (Runs.lss rfl rfl) rfl ?_
  refine WL.nil (WN.thn ?_)
  refine WC.cond rfl (fun c2 => ?_) (fun c2 => ?_)
  · try simp only [dt, df, nt, nf, ba, il, ie] at c2
    first
    | (exfalso; omega)
    | skip
      refine WC.skip (WN.thn (WC.seq (WC.block (WC.seq ?_))))
      have hi2 : i < l.length := by omega
      obtain ⟨ad, c, rfl, ⟨A1, cap1, rfl, hps⟩, hcell⟩ := hR.atD R0 hi2
      refine WC.reg ?_
      refine WL.v (Runs.move rfl) rfl ?_
      refine WL.v (Runs.move rfl) rfl ?_
      refine WL.v (Runs.lidxK Try.underlying65 inf24 rfl rfl (n := i) rfl hi2) rfl ?_
      refine WL.v (Runs.fld fld24_5 rfl) rfl ?_
      refine WL.v (Runs.fldKF (n := i) hL hcell Try.underlying22 rfl rfl rfl) rfl ?_
      refine WL.v (Runs.llen Try.underlying22 rfl rfl) rfl ?_
      refine WL.v (Runs.gtr rfl rfl) rfl ?_
      refine WL.nil (WN.thn ?_)
      refine WC.cond rfl (fun c3 => ?_) (fun c3 => ?_)
      · try simp only [dt, df, nt, nf, ba, il, ie] at c3
        first
        | (exfalso; omega)
        | skip
          refine WC.seq (WC.reg ?_)
          refine WL.v (Runs.assign rfl) rfl ?_
          refine WL.nil (WN.thn (WC.ret ?_))
          exact ret1 rfl rfl ⟨by rw [decide_eq_false (fun hh : smallL l most => by have := hh.1 i hi2; omega)], hL⟩
      · try simp only [dt, df, nt, nf, ba, il, ie] at c3
        first
        | (exfalso; omega)
        | skip
          refine WC.skip (WN.blk (WN.thn (WC.reg ?_)))
          refine WL.v (Runs.move rfl) rfl ?_
          refine WL.v (Runs.addn rfl rfl (by omega)) rfl ?_
          refine WL.v (Runs.assign rfl) rfl ?_
          refine WL.nil ?_
          exact WN.again (i + 1) (by omega) ⟨rfl, rfl, rfl, trivial⟩ ⟨by omega, fun j hj => (by
            by_cases e : j = i
            · subst e; omega
            · exact hall j (by omega)), hL⟩
  · try simp only [dt, df, nt, nf, ba, il, ie] at c2
    first
    | (exfalso; omega)
    | skip
      refine WC.exit (WX.thn (WX.cut (WX.hit (WN.thn (WC.seq ?_)))))
      refine WC.reg ?_
      refine WL.v (Runs.move rfl) rfl ?_
      refine WL.v (Runs.llen Try.underlying65 rfl rfl) rfl ?_
      refine WL.v (Runs.move rfl) rfl ?_
      refine WL.v (Runs.leq rfl rfl) rfl ?_
      refine WL.v (Runs.assign rfl) rfl ?_
      refine WL.nil (WN.thn (WC.ret ?_))
      exact ret1 rfl rfl ⟨by rw [show decide (smallL l most) = decide ((l.length : Int) ≤ most) from decide_eq_decide.2 ⟨fun hh => hh.2, fun hh => ⟨fun j hj => hall j (by omega), hh⟩⟩], hL⟩
set_option maxRecDepth 100000 in
set_option maxHeartbeats 8000000 in
theorem qsame_c {W : World} {F : Snap} {cs : List Res} (w : World) {AJ AS : Option Addr} {cj cS : Nat} {z : Z} {BJ BS : Option Addr} {dj dS : Nat} (hz : few z) (hR : ZR F AJ AS z) (hR2 : ZR F BJ BS z) (h : St W F cs w) : Calls Try.prog 24 #[.agg #[.slice AJ z.js.length cj, .slice AS z.ss.length cS, .bool z.dr], .agg #[.slice BJ z.js.length dj, .slice BS z.ss.length dS, .bool z.dr]] w fun e w' => e = .returned (.bool true) ∧ St W F cs w'  := by
  refine enter (P := Try.prog) (args := [.agg #[.slice AJ z.js.length cj, .slice AS z.ss.length cS, .bool z.dr], .agg #[.slice BJ z.js.length dj, .slice BS z.ss.length dS, .bool z.dr]]) Try.func24 rfl rfl rfl ?_
  have hzj := hz.j
  have hzs := hz.s
  refine WC.seq (WC.reg ?_)
  refine WL.box rfl h rfl ?_
  intro b2 w1 h1
  refine WL.box rfl h1 rfl ?_
  intro b3 w2 h2
  refine WL.v (Runs.assign rfl) rfl ?_
  refine WL.nil (WN.thn (WC.seq (WC.seq (WC.reg ?_))))
  refine WL.v (Runs.fld fld35_0 rfl) rfl ?_
  refine WL.v (Runs.load1 Try.underlying32 rfl rfl (h2.ocell (i := 1) rfl rfl)) rfl ?_
  refine WL.v (Runs.llen Try.underlying32 rfl rfl) rfl ?_
  refine WL.v (Runs.fld fld35_0 rfl) rfl ?_
  refine WL.v (Runs.load1 Try.underlying32 rfl rfl (h2.ocell (i := 0) rfl rfl)) rfl ?_
  refine WL.v (Runs.llen Try.underlying32 rfl rfl) rfl ?_
  refine WL.v (Runs.boolT (c := false) (Runs.neq rfl rfl) (by simp)) rfl ?_
  refine WL.v (Runs.move rfl) rfl ?_
  refine WL.gon rfl rfl rfl ?_
  refine WL.v (Runs.fld fld35_1 rfl) rfl ?_
  refine WL.gon rfl rfl rfl ?_
  refine WL.v (Runs.load1 Try.underlying33 rfl rfl (h2.ocell (i := 1) rfl rfl)) rfl ?_
  refine WL.gon rfl rfl rfl ?_
  refine WL.v (Runs.llen Try.underlying33 rfl rfl) rfl ?_
  refine WL.gon rfl rfl rfl ?_
  refine WL.v (Runs.fld fld35_1 rfl) rfl ?_
  refine WL.gon rfl rfl rfl ?_
  refine WL.v (Runs.load1 Try.underlying33 rfl rfl (h2.ocell (i := 0) rfl rfl)) rfl ?_
  refine WL.gon rfl rfl rfl ?_
  refine WL.v (Runs.llen Try.underlying33 rfl rfl) rfl ?_
  refine WL.gon rfl rfl rfl ?_
  refine WL.v (Runs.boolT (c := false) (Runs.neq rfl rfl) (by simp)) rfl ?_
  refine WL.v (Runs.pick rfl rfl rfl) rfl ?_
  refine WL.v (Runs.move rfl) rfl ?_
  refine WL.gon rfl rfl rfl ?_
  refine WL.v (Runs.fld fld35_2 rfl) rfl ?_
  refine WL.gon rfl rfl rfl ?_
  refine WL.v (Runs.load1 Try.underlying4 rfl rfl (h2.ocell (i := 1) rfl rfl)) rfl ?_
  refine WL.gon rfl rfl rfl ?_
  refine WL.v (Runs.fld fld35_2 rfl) rfl ?_
  refine WL.gon rfl rfl rfl ?_
  refine WL.v (Runs.load1 Try.underlying4 rfl rfl (h2.ocell (i := 0) rfl rfl)) rfl ?_
  refine WL.gon rfl rfl rfl ?_
  refine WL.v (Runs.boolT (c := false) (Runs.neqb Try.underlying4 rfl rfl (b := z.dr) (c := z.dr)) (by simp)) rfl ?_
  refine WL.v (Runs.pick rfl rfl rfl) rfl ?_
  refine WL.nil (WN.thn ?_)
  refine WC.condF rfl (rfl) ?_
  refine WC.skip (WN.thn (WC.seq (WC.seq (WC.reg ?_))))
  refine WL.v (Runs.assign rfl) rfl ?_
  refine WL.nil (WN.thn (WC.block ?_))
  refine WC.loop (σ := Nat) (fun q_ => [(2, .pointer (some ⟨b2, 0, none⟩)), (3, .pointer (some ⟨b3, 0, none⟩)), (5, .int .i64 (q_ : Int))]) (fun q_ w => q_ ≤ z.js.length ∧ St W F ([(b3, .cells #[.slice BJ z.js.length dj, .slice BS z.ss.length dS, .bool z.dr] 35 (0, 0))] :: [(b2, .cells #[.slice AJ z.js.length cj, .slice AS z.ss.length cS, .bool z.dr] 35 (0, 0))] :: cs) w) (fun q_ => z.js.length - q_) (0) (by repeat (first | exact trivial | refine ⟨rfl, ?_⟩)) (⟨Nat.zero_le _, h2⟩) ?_
  rintro i w3 ⟨hi, hL⟩
  try dsimp only at hi hL
  refine WC.sub (s := [(2, .pointer (some ⟨b2, 0, none⟩)), (3, .pointer (some ⟨b3, 0, none⟩)), (5, .int .i64 (i : Int))]) (by repeat (first | exact trivial | refine ⟨rfl, ?_⟩)) ?_
  refine WC.seq (WC.seq (WC.reg ?_))
  refine WL.v (Runs.move rfl) rfl ?_
  refine WL.v (Runs.fld fld35_0 rfl) rfl ?_
  refine WL.v (Runs.load1 Try.underlying32 rfl rfl (hL.ocell (i := 1) rfl rfl)) rfl ?_
  refine WL.v (Runs.llen Try.underlying32 rfl rfl) rfl ?_
  refine WL.v (Runs.lss rfl rfl) rfl ?_
  refine WL.nil (WN.thn ?_)
  refine WC.cond rfl (fun c4 => ?_) (fun c4 => ?_)
  · try simp only [dt, df, nt, nf, ba, il, ie] at c4
    first
    | (exfalso; omega)
    | skip
      refine WC.skip (WN.thn (WC.seq (WC.block (WC.seq ?_))))
      have hi2 : i < z.js.length := by omega
      obtain ⟨ad, c, rfl, hc, hcell⟩ := hR.j.atD J0 hi2
      obtain rfl : c = jc (z.js.getD i J0) := hc
      obtain ⟨ad2, c2, rfl, hc2, hcell2⟩ := hR2.j.atD J0 hi2
      obtain rfl : c2 = jc (z.js.getD i J0) := hc2
      refine WC.eregK hL hL (fun s_ => ([] : List Nat).any (Nat.beq s_)) mixed (by kernel_rfl) (fun hx => ?_)
      intro w5 h5
      refine WE.p0 hx 0 (by rfl) (fun w_ => Runs.fld fld35_0 rfl) rfl ?_
      refine WE.p0 hx 2 (by rfl) (fun w_ => Runs.move rfl) rfl ?_
      refine WE.p0 hx 5 (by rfl) (fun w_ => Runs.fld fld35_0 rfl) rfl ?_
      refine WE.p0 hx 7 (by rfl) (fun w_ => Runs.move rfl) rfl ?_
      refine WE.v0 12 hx 1 (by rfl) (fun w_ hE_ => Runs.load1 Try.underlying32 rfl rfl (hE_.ocell (i := 1) rfl rfl)) rfl ?_
      refine WE.p0 hx 3 (by rfl) (fun w_ => Runs.lidxK Try.underlying32 inf50 rfl rfl (n := i) rfl hi2) rfl ?_
      refine WE.v0 12 hx 4 (by rfl) (fun w_ hE_ => Runs.loadKF hE_ hcell Try.underlying50 rfl inf50 rfl rfl) rfl ?_
      refine WE.v0 12 hx 6 (by rfl) (fun w_ hE_ => Runs.load1 Try.underlying32 rfl rfl (hE_.ocell (i := 0) rfl rfl)) rfl ?_
      refine WE.p0 hx 8 (by rfl) (fun w_ => Runs.lidxK Try.underlying32 inf50 rfl rfl (n := i) rfl hi2) rfl ?_
      refine WE.v0 12 hx 9 (by rfl) (fun w_ hE_ => Runs.loadKF hE_ hcell2 Try.underlying50 rfl inf50 rfl rfl) rfl ?_
      refine WE.p0 hx 10 (by rfl) (fun w_ => Runs.boolT (c := false) (Runs.aneq (by kernel_rfl) rfl rfl (eqJob _ (.inr rfl) _ (z.js.getD i J0) (z.js.getD i J0))) (by simp)) rfl ?_
      refine WE.fin (.inr h5) (by kernel_rfl) ?_
      refine WN.thn ?_
      refine WC.condF rfl (rfl) ?_
      refine WC.skip (WN.blk (WN.thn (WC.reg ?_)))
      refine WL.v (Runs.move rfl) rfl ?_
      refine WL.v (Runs.addn rfl rfl (by omega)) rfl ?_
      refine WL.v (Runs.assign rfl) rfl ?_
      refine WL.nil ?_
      exact WN.again (i + 1) (by omega) ⟨rfl, rfl, rfl, trivial⟩ ⟨by omega, h5⟩
  · try simp only [dt, df, nt, nf, ba, il, ie] at c4
    first
    | (exfalso; omega)
    | skip
      refine WC.exit (WX.thn (WX.cut (WX.hit (WN.thn (WC.seq ?_)))))
      refine WC.seq (WC.reg ?_)
      refine WL.v (Runs.assign rfl) rfl ?_
      refine WL.nil (WN.thn (WC.block ?_))
      refine WC.loop (σ := Nat) (fun q_ => [(2, .pointer (some ⟨b2, 0, none⟩)), (3, .pointer (some ⟨b3, 0, none⟩)), (6, .int .i64 (q_ : Int))]) (fun q_ w => q_ ≤ z.ss.length ∧ St W F ([(b3, .cells #[.slice BJ z.js.length dj, .slice BS z.ss.length dS, .bool z.dr] 35 (0, 0))] :: [(b2, .cells #[.slice AJ z.js.length cj, .slice AS z.ss.length cS, .bool z.dr] 35 (0, 0))] :: cs) w) (fun q_ => z.ss.length - q_) (0) (by repeat (first | exact trivial | refine ⟨rfl, ?_⟩)) (⟨Nat.zero_le _, hL⟩) ?_
      rintro i w6 ⟨hi, hL⟩
      try dsimp only at hi hL
      refine WC.sub (s := [(2, .pointer (some ⟨b2, 0, none⟩)), (3, .pointer (some ⟨b3, 0, none⟩)), (6, .int .i64 (i : Int))]) (by repeat (first | exact trivial | refine ⟨rfl, ?_⟩)) ?_
      refine WC.seq (WC.seq (WC.reg ?_))
      refine WL.v (Runs.move rfl) rfl ?_
      refine WL.v (Runs.fld fld35_1 rfl) rfl ?_
      refine WL.v (Runs.load1 Try.underlying33 rfl rfl (hL.ocell (i := 1) rfl rfl)) rfl ?_
      refine WL.v (Runs.llen Try.underlying33 rfl rfl) rfl ?_
      refine WL.v (Runs.lss rfl rfl) rfl ?_
      refine WL.nil (WN.thn ?_)
      refine WC.cond rfl (fun c7 => ?_) (fun c7 => ?_)
      · try simp only [dt, df, nt, nf, ba, il, ie] at c7
        first
        | (exfalso; omega)
        | skip
          refine WC.skip (WN.thn (WC.seq (WC.block (WC.seq ?_))))
          have hi2 : i < z.ss.length := by omega
          obtain ⟨ad, c, rfl, hc, hcell⟩ := hR.s.atD S0 hi2
          obtain ⟨A1, cap1, rfl, hps⟩ := hc
          obtain ⟨ad2, c2, rfl, ⟨A2, cap2, rfl, hps2⟩, hcell2⟩ := hR2.s.atD S0 hi2
          refine WC.eregK hL hL (fun s_ => ([] : List Nat).any (Nat.beq s_)) mixed (by kernel_rfl) (fun hx => ?_)
          intro w8 h8
          refine WE.p0 hx 0 (by rfl) (fun w_ => Runs.fld fld35_1 rfl) rfl ?_
          refine WE.p0 hx 2 (by rfl) (fun w_ => Runs.move rfl) rfl ?_
          refine WE.p0 hx 5 (by rfl) (fun w_ => Runs.fld fld35_1 rfl) rfl ?_
          refine WE.p0 hx 7 (by rfl) (fun w_ => Runs.move rfl) rfl ?_
          refine WE.v0 12 hx 1 (by rfl) (fun w_ hE_ => Runs.load1 Try.underlying33 rfl rfl (hE_.ocell (i := 1) rfl rfl)) rfl ?_
          refine WE.p0 hx 3 (by rfl) (fun w_ => Runs.lidxK Try.underlying33 inf57 rfl rfl (n := i) rfl hi2) rfl ?_
          refine WE.v0 12 hx 4 (by rfl) (fun w_ hE_ => Runs.loadKF hE_ hcell Try.underlying57 rfl inf57 rfl rfl) rfl ?_
          refine WE.v0 12 hx 6 (by rfl) (fun w_ hE_ => Runs.load1 Try.underlying33 rfl rfl (hE_.ocell (i := 0) rfl rfl)) rfl ?_
          refine WE.p0 hx 8 (by rfl) (fun w_ => Runs.lidxK Try.underlying33 inf57 rfl rfl (n := i) rfl hi2) rfl ?_
          refine WE.v0 12 hx 9 (by rfl) (fun w_ hE_ => Runs.loadKF hE_ hcell2 Try.underlying57 rfl inf57 rfl rfl) rfl ?_
          refine WE.op (.inr h8) (i := 10) (by rfl) (by kernel_rfl) ?_
          refine WL.call can31 rfl rfl (one_c (a := (z.ss.getD i S0)) (b := (z.ss.getD i S0)) _ hps hps2 (hz.p _ (memD S0 hi2)) h8) ?_
          rintro _ w9 ⟨rfl, h9⟩
          refine ⟨_, rfl, ?_⟩
          refine WL.nil (WE.next ?_)
          refine WE.p0 hx 11 (by rfl) (fun w_ => Runs.boolT (c := false) (Runs.not rfl) (by simp)) rfl ?_
          refine WE.fin (.inr h9) (by kernel_rfl) ?_
          refine WN.thn ?_
          refine WC.condF rfl (rfl) ?_
          refine WC.skip (WN.blk (WN.thn (WC.reg ?_)))
          refine WL.v (Runs.move rfl) rfl ?_
          refine WL.v (Runs.addn rfl rfl (by omega)) rfl ?_
          refine WL.v (Runs.assign rfl) rfl ?_
          refine WL.nil ?_
          exact WN.again (i + 1) (by omega) ⟨rfl, rfl, rfl, trivial⟩ ⟨by omega, h9⟩
      · try simp only [dt, df, nt, nf, ba, il, ie] at c7
        first
        | (exfalso; omega)
        | skip
          refine WC.exit (WX.thn (WX.cut (WX.hit (WN.thn (WC.seq ?_)))))
          refine WC.reg ?_
          refine WL.v (Runs.assign rfl) rfl ?_
          refine WL.nil (WN.thn (WC.ret ?_))
          exact ret1 rfl rfl ⟨rfl, ((hL.drop 0).drop 0)⟩
end Rc
end Go.Proofs.Ythejglgnoingfaa
