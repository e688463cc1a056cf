/- The reference of chapter 08: the record at the front. -/
import Derived.Test.YthjcfhfbaeokeaaMJ7
namespace Go.Proofs.Ythjcfhfbaeokeaa
open Go Go.RowKit B
set_option linter.unusedVariables false
set_option linter.unusedSimpArgs false
namespace Jo
open Wir (Vi textB numB rdT rdEnd wtext_c)

theorem inf45 : Inf Try.prog 45 (.agg #[.int .i64 0, .string ⟨#[]⟩]) 2 24 := by unfold Inf; kernel_rfl
theorem fld45_0 : fldB Try.prog 45 0 0 = true := by kernel_rfl
theorem fld45_1 : fldB Try.prog 45 1 1 = true := by kernel_rfl
theorem fld74_2 : fldB Try.prog 74 2 2 = true := by kernel_rfl
theorem can42 : B.Can Try.prog 42 := ⟨_, Try.func42, by kernel_rfl, rfl⟩   -- (*roundhouse/roundhouseref02.Reader).Text
theorem retT {P : Program} {N : Nat} {sl : Sl} {w : World} {fn : Func} {R : Ending → World → Prop} {r s t : ResultVar} {v u x : Value} (hr : fn.results = #[r, s, t]) (hv : ResOk P sl w r v) (hu : ResOk P sl w s u) (hx : ResOk P sl w t x) (hR : R (.returned (.tuple #[v, u, x])) w) : ∀ a, Ag N [] sl a → bodyPost P fn R .ret a w := fun a ha =>
  ⟨ha.df, .tuple #[v, u, x], by rcases run_res ha hv with ⟨t, rfl, h1⟩ | ⟨c, T, ad, rfl, h1, h2⟩ <;> rcases run_res ha hu with ⟨t', rfl, h1'⟩ | ⟨c', T', ad', rfl, h1', h2'⟩ <;> rcases run_res ha hx with ⟨t'', rfl, h1''⟩ | ⟨c'', T'', ad'', rfl, h1'', h2''⟩ <;> simp_all [results, asAddr], hR⟩
theorem kOf_gt {s : List UInt8} : ¬ okK (kOf s) ↔ (1 : Int) < ((s.getD 1 0).toNat : Int) := by
  unfold okK kOf
  omega
/-- a reader behind what is ahead of it -/
theorem rdT_shift (pre s : List UInt8) : rdT (pre ++ s) pre.length 0 = ((rdT s 0 0).1, pre.length + (rdT s 0 0).2.1, (rdT s 0 0).2.2) := by
  have hsz : Wir.szB (pre ++ s) pre.length = Wir.szB s 0 := by
    unfold Wir.szB
    rw [List.getD_eq_getElem?_getD, List.getElem?_append_right (Nat.le_refl _), Nat.sub_self, ← List.getD_eq_getElem?_getD]
  have hdr : ∀ k, (pre ++ s).drop (pre.length + k) = s.drop k := fun k => by
    rw [List.drop_append, List.drop_eq_nil_of_le (by omega), List.nil_append]
    congr 1
    omega
  have hdig : Wir.dig (pre ++ s) pre.length = Wir.dig s 0 := by
    unfold Wir.dig
    rw [hsz, hdr]
  have e1 : (pre.length + s.length ≤ pre.length) = (s.length ≤ 0) := propext (by omega)
  have e2 : (pre.length + s.length < pre.length + 1 + Wir.szB s 0) = (s.length < 0 + 1 + Wir.szB s 0) := propext (by omega)
  have hre : Wir.rerr (pre ++ s) pre.length = Wir.rerr s 0 := by
    unfold Wir.rerr
    rw [hsz, hdig, List.length_append]
    simp only [e1, e2]
  have hrv : Wir.rval (pre ++ s) pre.length = Wir.rval s 0 := by unfold Wir.rval; rw [hdig]
  have hrx : Wir.rnx (pre ++ s) pre.length = pre.length + Wir.rnx s 0 := by unfold Wir.rnx; rw [hsz]; omega
  have hce : Wir.cerr (pre ++ s) pre.length 4096 = Wir.cerr s 0 4096 := by unfold Wir.cerr; rw [hre, hrv]
  have e3 : (pre.length + s.length < pre.length + Wir.rnx s 0 + Wir.rval s 0) = (s.length < Wir.rnx s 0 + Wir.rval s 0) := propext (by omega)
  unfold rdT
  rw [hce, hrv, hrx, hdr, List.length_append]
  simp only [e3]
  by_cases h1 : Wir.cerr s 0 4096 = 0
  · by_cases h2 : s.length < Wir.rnx s 0 + Wir.rval s 0
    · simp [h1, h2]
    · simp [h1, h2, Nat.add_assoc]
  · simp [h1]
theorem rdT_two {s : List UInt8} (h : ¬ s.length < 2) : rdT s 2 0 = (txOf s, 2 + (rdT (s.drop 2) 0 0).2.1, (rdT (s.drop 2) 0 0).2.2) := by
  have := rdT_shift (s.take 2) (s.drop 2)
  rw [List.take_append_drop, List.length_take, Nat.min_eq_left (by omega)] at this
  exact this
theorem qtext2_c {W : World} {F : Snap} {cs : List Res} (w : World) {i rb : Nat} {s : List UInt8} (h : St W F cs w) (hi : cs[i]? = some [(rb, .cells #[.string (bs s), Vi ((2 : Nat) : Int), Vi 0] 74 (0, 0))]) (hs : s.length ≤ 100000) (h2 : ¬ s.length < 2) : Calls Try.prog 42 #[.pointer (some ⟨rb, 0, none⟩)] w fun r w' => r = .returned (.string (bs (txOf s))) ∧ St W F (cs.set i [(rb, .cells #[.string (bs s), Vi ((2 + (rdT (s.drop 2) 0 0).2.1 : Nat) : Int), Vi (rdT (s.drop 2) 0 0).2.2] 74 (0, 0))]) w' := by
  have := Wir.qtext_c w (p := 2) (e := 0) h hi hs (by omega)
  rw [rdT_two h2] at this
  exact this
theorem two4 (P Q R : Prop) : ¬ P ∨ (P ∧ Q) ∨ (P ∧ ¬ Q ∧ R) ∨ (P ∧ ¬ Q ∧ ¬ R) := by
  by_cases h : P <;> by_cases h2 : Q <;> by_cases h3 : R <;> simp [h, h2, h3]
set_option maxRecDepth 100000 in
set_option maxHeartbeats 8000000 in
theorem qfirst_c {W : World} {F : Snap} {cs : List Res} (w : World) (s : List UInt8) (h : St W F cs w) (hs : s.length ≤ 100000) : Calls Try.prog 33 #[.string (bs s)] w fun r w' => ∃ x n, r = .returned (.tuple #[entA x, Vi (n : Nat), .bool (firstM s).isSome]) ∧ (∀ y, firstM s = some y → x = y ∧ n = (recB y.1 y.2).length) ∧ St W F cs w'  := by
  refine enter (P := Try.prog) (args := [.string (bs s)]) Try.func33 rfl rfl rfl ?_
  refine WC.seq ?_
  refine WC.reg ?_
  refine WL.alloc' rfl h inf45 ?_
  intro b2 w1 h1
  refine WL.v (Runs.assign rfl) rfl ?_
  refine WL.v (Runs.assign rfl) rfl ?_
  refine WL.nil ?_
  refine WN.thn ?_
  refine WC.seq ?_
  refine WC.seq ?_
  rcases first3 (s.length < 2) (((s.getD 0 0).toNat : Int) ≠ 74) (¬ okK (kOf s)) with q0 | ⟨q0, q1⟩ | ⟨q0, q1, q2⟩ | ⟨q0, q1, q2⟩
  · skip
    refine WC.reg ?_
    refine WL.v (Runs.move rfl) rfl ?_
    refine WL.v (Runs.intT (n := (s.length : Int)) (Runs.slen Try.underlying9 rfl rfl) rfl) rfl ?_
    refine WL.v (Runs.boolT (c := true) (Runs.lss rfl rfl) (by rw [decide_eq_true_eq]; omega)) rfl ?_
    refine WL.v (Runs.move rfl) rfl ?_
    refine WL.goff rfl rfl rfl rfl ?_
    refine WL.goff rfl rfl rfl rfl ?_
    refine WL.goff rfl rfl rfl rfl ?_
    refine WL.v (Runs.pick rfl rfl rfl) rfl ?_
    refine WL.v (Runs.move rfl) rfl ?_
    refine WL.goff rfl rfl rfl rfl ?_
    refine WL.goff rfl rfl rfl rfl ?_
    refine WL.goff rfl rfl rfl rfl ?_
    refine WL.v (Runs.pick rfl rfl rfl) rfl ?_
    refine WL.nil ?_
    refine WN.thn ?_
    refine WC.condT rfl (rfl) ?_
    refine WC.seq ?_
    refine WC.reg ?_
    refine WL.v (Runs.build (vs := []) (cells := #[Vi 0, .string (bs [])]) rfl (by kernel_rfl)) rfl ?_
    refine WL.storeAll h1 0 rfl rfl rfl inf45 rfl rfl rfl (Free.zero _) ?_
    intro  w2 h2
    try simp only [List.set_cons_zero, List.set_cons_succ, List.eraseIdx_cons_zero, List.eraseIdx_cons_succ] at h2
    refine WL.v (Runs.assign rfl) rfl ?_
    refine WL.v (Runs.assign rfl) rfl ?_
    refine WL.nil ?_
    refine WN.thn ?_
    refine WC.ret ?_
    have e9 := firstM_a (s := s) (.inl q0)
    exact retT rfl (v := .agg #[Vi 0, .string (bs [])]) ⟨_, rfl, run_loadVarA (vs := [Vi 0, .string (bs [])]) Try.underlying45 rfl inf45 rfl (fun j v hv => by rw [add_mk, Nat.zero_add]; exact h2.ocell (i := 0) rfl (by simpa using hv))⟩ (show lk _ _ = _ from rfl) (show lk _ _ = _ from rfl) ⟨(0, []), 0, by rw [e9]; rfl, (fun y hy => by rw [e9] at hy; cases hy), (h2.drop 0)⟩
  · skip
    refine WC.reg ?_
    refine WL.v (Runs.move rfl) rfl ?_
    refine WL.v (Runs.intT (n := (s.length : Int)) (Runs.slen Try.underlying9 rfl rfl) rfl) rfl ?_
    refine WL.v (Runs.boolT (c := false) (Runs.lss rfl rfl) (by rw [decide_eq_false_iff_not]; omega)) rfl ?_
    refine WL.v (Runs.move rfl) rfl ?_
    refine WL.gon rfl rfl rfl ?_
    refine WL.v (Runs.move rfl) rfl ?_
    refine WL.gon rfl rfl rfl ?_
    refine WL.v (Runs.lsidx Try.underlying9 rfl rfl (n := 0) rfl (by omega)) rfl ?_
    refine WL.gon rfl rfl rfl ?_
    refine WL.v (Runs.boolT (c := true) (Runs.neq rfl rfl) (by rw [decide_eq_false q1]; rfl)) rfl ?_
    refine WL.v (Runs.pick rfl rfl rfl) rfl ?_
    refine WL.v (Runs.move rfl) rfl ?_
    refine WL.goff rfl rfl rfl rfl ?_
    refine WL.goff rfl rfl rfl rfl ?_
    refine WL.goff rfl rfl rfl rfl ?_
    refine WL.v (Runs.pick rfl rfl rfl) rfl ?_
    refine WL.nil ?_
    refine WN.thn ?_
    refine WC.condT rfl (rfl) ?_
    refine WC.seq ?_
    refine WC.reg ?_
    refine WL.v (Runs.build (vs := []) (cells := #[Vi 0, .string (bs [])]) rfl (by kernel_rfl)) rfl ?_
    refine WL.storeAll h1 0 rfl rfl rfl inf45 rfl rfl rfl (Free.zero _) ?_
    intro  w3 h3
    try simp only [List.set_cons_zero, List.set_cons_succ, List.eraseIdx_cons_zero, List.eraseIdx_cons_succ] at h3
    refine WL.v (Runs.assign rfl) rfl ?_
    refine WL.v (Runs.assign rfl) rfl ?_
    refine WL.nil ?_
    refine WN.thn ?_
    refine WC.ret ?_
    have e9 := firstM_a (s := s) (.inr (.inl q1))
    exact retT rfl (v := .agg #[Vi 0, .string (bs [])]) ⟨_, rfl, run_loadVarA (vs := [Vi 0, .string (bs [])]) Try.underlying45 rfl inf45 rfl (fun j v hv => by rw [add_mk, Nat.zero_add]; exact h3.ocell (i := 0) rfl (by simpa using hv))⟩ (show lk _ _ = _ from rfl) (show lk _ _ = _ from rfl) ⟨(0, []), 0, by rw [e9]; rfl, (fun y hy => by rw [e9] at hy; cases hy), (h3.drop 0)⟩
  · skip
    refine WC.reg ?_
    refine WL.v (Runs.move rfl) rfl ?_
    refine WL.v (Runs.intT (n := (s.length : Int)) (Runs.slen Try.underlying9 rfl rfl) rfl) rfl ?_
    refine WL.v (Runs.boolT (c := false) (Runs.lss rfl rfl) (by rw [decide_eq_false_iff_not]; omega)) rfl ?_
    refine WL.v (Runs.move rfl) rfl ?_
    refine WL.gon rfl rfl rfl ?_
    refine WL.v (Runs.move rfl) rfl ?_
    refine WL.gon rfl rfl rfl ?_
    refine WL.v (Runs.lsidx Try.underlying9 rfl rfl (n := 0) rfl (by omega)) rfl ?_
    refine WL.gon rfl rfl rfl ?_
    refine WL.v (Runs.boolT (c := false) (Runs.neq rfl rfl) (by rw [decide_eq_true (Decidable.of_not_not q1)]; rfl)) rfl ?_
    refine WL.v (Runs.pick rfl rfl rfl) rfl ?_
    refine WL.v (Runs.move rfl) rfl ?_
    refine WL.gon rfl rfl rfl ?_
    refine WL.v (Runs.move rfl) rfl ?_
    refine WL.gon rfl rfl rfl ?_
    refine WL.v (Runs.lsidx Try.underlying9 rfl rfl (n := 1) rfl (by omega)) rfl ?_
    refine WL.gon rfl rfl rfl ?_
    refine WL.v (Runs.boolT (c := true) (Runs.gtr rfl rfl) (decide_eq_true (kOf_gt.1 q2))) rfl ?_
    refine WL.v (Runs.pick rfl rfl rfl) rfl ?_
    refine WL.nil ?_
    refine WN.thn ?_
    refine WC.condT rfl (rfl) ?_
    refine WC.seq ?_
    refine WC.reg ?_
    refine WL.v (Runs.build (vs := []) (cells := #[Vi 0, .string (bs [])]) rfl (by kernel_rfl)) rfl ?_
    refine WL.storeAll h1 0 rfl rfl rfl inf45 rfl rfl rfl (Free.zero _) ?_
    intro  w4 h4
    try simp only [List.set_cons_zero, List.set_cons_succ, List.eraseIdx_cons_zero, List.eraseIdx_cons_succ] at h4
    refine WL.v (Runs.assign rfl) rfl ?_
    refine WL.v (Runs.assign rfl) rfl ?_
    refine WL.nil ?_
    refine WN.thn ?_
    refine WC.ret ?_
    have e9 := firstM_a (s := s) (.inr (.inr q2))
    exact retT rfl (v := .agg #[Vi 0, .string (bs [])]) ⟨_, rfl, run_loadVarA (vs := [Vi 0, .string (bs [])]) Try.underlying45 rfl inf45 rfl (fun j v hv => by rw [add_mk, Nat.zero_add]; exact h4.ocell (i := 0) rfl (by simpa using hv))⟩ (show lk _ _ = _ from rfl) (show lk _ _ = _ from rfl) ⟨(0, []), 0, by rw [e9]; rfl, (fun y hy => by rw [e9] at hy; cases hy), (h4.drop 0)⟩
  · skip
    refine WC.reg ?_
    refine WL.v (Runs.move rfl) rfl ?_
    refine WL.v (Runs.intT (n := (s.length : Int)) (Runs.slen Try.underlying9 rfl rfl) rfl) rfl ?_
    refine WL.v (Runs.boolT (c := false) (Runs.lss rfl rfl) (by rw [decide_eq_false_iff_not]; omega)) rfl ?_
    refine WL.v (Runs.move rfl) rfl ?_
    refine WL.gon rfl rfl rfl ?_
    refine WL.v (Runs.move rfl) rfl ?_
    refine WL.gon rfl rfl rfl ?_
    refine WL.v (Runs.lsidx Try.underlying9 rfl rfl (n := 0) rfl (by omega)) rfl ?_
    refine WL.gon rfl rfl rfl ?_
    refine WL.v (Runs.boolT (c := false) (Runs.neq rfl rfl) (by rw [decide_eq_true (Decidable.of_not_not q1)]; rfl)) rfl ?_
    refine WL.v (Runs.pick rfl rfl rfl) rfl ?_
    refine WL.v (Runs.move rfl) rfl ?_
    refine WL.gon rfl rfl rfl ?_
    refine WL.v (Runs.move rfl) rfl ?_
    refine WL.gon rfl rfl rfl ?_
    refine WL.v (Runs.lsidx Try.underlying9 rfl rfl (n := 1) rfl (by omega)) rfl ?_
    refine WL.gon rfl rfl rfl ?_
    refine WL.v (Runs.boolT (c := false) (Runs.gtr rfl rfl) (decide_eq_false (fun hh => q2 (kOf_gt.2 hh)))) rfl ?_
    refine WL.v (Runs.pick rfl rfl rfl) rfl ?_
    refine WL.nil ?_
    refine WN.thn ?_
    refine WC.condF rfl (rfl) ?_
    refine WC.skip ?_
    refine WN.thn ?_
    refine WC.seq ?_
    have hok : hdOk s := ⟨q0, q1, q2⟩
    refine WC.reg ?_
    refine WL.v (Runs.move rfl) rfl ?_
    refine WL.v (Runs.build (vs := [(0, .string (bs s)), (1, Vi 2)]) (cells := #[.string (bs s), Vi 2, Vi 0]) rfl (by kernel_rfl)) rfl ?_
    refine WL.box rfl h1 rfl ?_
    intro b24 w5 h5
    refine WL.v (Runs.assign rfl) rfl ?_
    refine WL.nil ?_
    refine WN.thn ?_
    refine WC.seq ?_
    refine WC.ereg h5 (fun _ => True) (fun s_ => ([] : List Nat).any (Nat.beq s_)) mixed (by kernel_rfl) (fun hx => ?_)
    intro w6 h6
    refine WE.pure (g := none) hx 0 (by rfl) trivial (by kernel_rfl) (by kernel_rfl) (by kernel_rfl) (by kernel_rfl) (fun w_ => Runs.move rfl) rfl ?_
    refine WE.pure (g := none) hx 1 (by rfl) trivial (by kernel_rfl) (by kernel_rfl) (by kernel_rfl) (by kernel_rfl) (fun w_ => Runs.lsidx Try.underlying9 rfl rfl (n := 1) rfl (by omega)) rfl ?_
    refine WE.pure (g := none) hx 2 (by rfl) trivial (by kernel_rfl) (by kernel_rfl) (by kernel_rfl) (by kernel_rfl) (fun w_ => Runs.intT (n := (kOf s)) (Runs.toInt Try.underlying5 Try.underlying3 rfl) (b2i _)) rfl ?_
    refine WE.pure (g := none) hx 3 (by rfl) trivial (by kernel_rfl) (by kernel_rfl) (by kernel_rfl) (by kernel_rfl) (fun w_ => Runs.move rfl) rfl ?_
    refine WE.op2 (.inr trivial) (i := 4) (j := 6) (by rfl) (by rfl) (by kernel_rfl) ?_ ?_
    · skip
      refine WL.call can42 rfl rfl (qtext2_c _ (i := 0) h6 rfl hs hok.1) ?_
      rintro _ w7 ⟨rfl, h7⟩
      refine ⟨_, rfl, ?_⟩
      simp only [List.set_cons_zero, List.set_cons_succ] at h7
      refine WL.nil ?_
      refine WE.next ?_
      refine WE.pure (g := none) hx 5 (by rfl) trivial (by kernel_rfl) (by kernel_rfl) (by kernel_rfl) (by kernel_rfl) (fun w_ => Runs.build (vs := [(0, Vi (kOf s)), (1, .string (bs (txOf s)))]) (cells := #[Vi (kOf s), .string (bs (txOf s))]) rfl (by kernel_rfl)) rfl ?_
      refine WE.op (.inr trivial) (i := 6) (by rfl) (by kernel_rfl) ?_
      refine WL.alloc' rfl h7 inf45 ?_
      intro b6 w8 h8
      refine WL.nil ?_
      refine WE.next ?_
      refine WE.op (.inr trivial) (i := 7) (by rfl) (by kernel_rfl) ?_
      refine WL.storeAll h8 0 rfl rfl rfl inf45 rfl rfl rfl (Free.zero _) ?_
      intro  w9 h9
      try simp only [List.set_cons_zero, List.set_cons_succ, List.eraseIdx_cons_zero, List.eraseIdx_cons_succ] at h9
      refine WL.nil ?_
      refine WE.next ?_
      refine WE.fin (.inr trivial) (by kernel_rfl) ?_
      refine WN.thn ?_
      refine WC.seq ?_
      refine WC.reg ?_
      refine WL.v (Runs.fld fld45_0 rfl) rfl ?_
      refine WL.v (Runs.load1 Try.underlying3 rfl rfl (h9.ocell (i := 0) rfl rfl)) rfl ?_
      refine WL.v (Runs.fld fld45_1 rfl) rfl ?_
      refine WL.v (Runs.load1 Try.underlying9 rfl rfl (h9.ocell (i := 0) rfl rfl)) rfl ?_
      refine WL.call can12 rfl rfl (qrecord_c _ (kOf s) (txOf s) h9) ?_
      rintro _ w10 ⟨rfl, h10⟩
      refine ⟨_, rfl, ?_⟩
      refine WL.v (Runs.assign rfl) rfl ?_
      refine WL.nil ?_
      refine WN.thn ?_
      refine WC.seq ?_
      refine WC.seq ?_
      rcases two4 ((rdT (s.drop 2) 0 0).2.2 = 0) (s.length < (recB (kOf s) (txOf s)).length) (s.take (recB (kOf s) (txOf s)).length = (recB (kOf s) (txOf s))) with hx1 | ⟨hx1, hv⟩ | ⟨hx1, hv, hv2⟩ | ⟨hx1, hv, hv2⟩
      · skip
        refine WC.reg ?_
        refine WL.v (Runs.move rfl) rfl ?_
        refine WL.v (Runs.nilCheckP rfl) rfl ?_
        refine WL.v (Runs.fld fld74_2 rfl) rfl ?_
        refine WL.v (Runs.load1 Try.underlying25 rfl rfl (h10.ocell (i := 1) rfl rfl)) rfl ?_
        refine WL.v (Runs.boolT (c := true) (Runs.neq rfl rfl) (by rw [decide_eq_false hx1]; rfl)) rfl ?_
        refine WL.v (Runs.move rfl) rfl ?_
        refine WL.goff rfl rfl rfl rfl ?_
        refine WL.goff rfl rfl rfl rfl ?_
        refine WL.goff rfl rfl rfl rfl ?_
        refine WL.goff rfl rfl rfl rfl ?_
        refine WL.goff rfl rfl rfl rfl ?_
        refine WL.v (Runs.pick rfl rfl rfl) rfl ?_
        refine WL.nil ?_
        refine WN.thn ?_
        refine WC.condT rfl (rfl) ?_
        refine WC.seq ?_
        refine WC.reg ?_
        refine WL.v (Runs.build (vs := []) (cells := #[Vi 0, .string (bs [])]) rfl (by kernel_rfl)) rfl ?_
        refine WL.storeAll h10 2 rfl rfl rfl inf45 rfl rfl rfl (Free.zero _) ?_
        intro  w11 h11
        try simp only [List.set_cons_zero, List.set_cons_succ, List.eraseIdx_cons_zero, List.eraseIdx_cons_succ] at h11
        refine WL.v (Runs.assign rfl) rfl ?_
        refine WL.v (Runs.assign rfl) rfl ?_
        refine WL.nil ?_
        refine WN.thn ?_
        refine WC.ret ?_
        have e9 := firstM_b hok hx1
        exact retT rfl (v := .agg #[Vi 0, .string (bs [])]) ⟨_, rfl, run_loadVarA (vs := [Vi 0, .string (bs [])]) Try.underlying45 rfl inf45 rfl (fun j v hv => by rw [add_mk, Nat.zero_add]; exact h11.ocell (i := 2) rfl (by simpa using hv))⟩ (show lk _ _ = _ from rfl) (show lk _ _ = _ from rfl) ⟨(0, []), 0, by rw [e9]; rfl, (fun y hy => by rw [e9] at hy; cases hy), (((h11.drop 0).drop 0).drop 0)⟩
      · skip
        refine WC.reg ?_
        refine WL.v (Runs.move rfl) rfl ?_
        refine WL.v (Runs.nilCheckP rfl) rfl ?_
        refine WL.v (Runs.fld fld74_2 rfl) rfl ?_
        refine WL.v (Runs.load1 Try.underlying25 rfl rfl (h10.ocell (i := 1) rfl rfl)) rfl ?_
        refine WL.v (Runs.boolT (c := false) (Runs.neq rfl rfl) (by rw [decide_eq_true hx1]; rfl)) rfl ?_
        refine WL.v (Runs.move rfl) rfl ?_
        refine WL.gon rfl rfl rfl ?_
        refine WL.v (Runs.move rfl) rfl ?_
        refine WL.gon rfl rfl rfl ?_
        refine WL.v (Runs.intT (n := (s.length : Int)) (Runs.slen Try.underlying9 rfl rfl) rfl) rfl ?_
        refine WL.gon rfl rfl rfl ?_
        refine WL.v (Runs.move rfl) rfl ?_
        refine WL.gon rfl rfl rfl ?_
        refine WL.v (Runs.intT (n := ((recB (kOf s) (txOf s)).length : Int)) (Runs.slen Try.underlying9 rfl rfl) rfl) rfl ?_
        refine WL.gon rfl rfl rfl ?_
        refine WL.v (Runs.boolT (c := true) (Runs.lss rfl rfl) (by rw [decide_eq_true_eq]; omega)) rfl ?_
        refine WL.v (Runs.pick rfl rfl rfl) rfl ?_
        refine WL.nil ?_
        refine WN.thn ?_
        refine WC.condT rfl (rfl) ?_
        refine WC.seq ?_
        refine WC.reg ?_
        refine WL.v (Runs.build (vs := []) (cells := #[Vi 0, .string (bs [])]) rfl (by kernel_rfl)) rfl ?_
        refine WL.storeAll h10 2 rfl rfl rfl inf45 rfl rfl rfl (Free.zero _) ?_
        intro  w12 h12
        try simp only [List.set_cons_zero, List.set_cons_succ, List.eraseIdx_cons_zero, List.eraseIdx_cons_succ] at h12
        refine WL.v (Runs.assign rfl) rfl ?_
        refine WL.v (Runs.assign rfl) rfl ?_
        refine WL.nil ?_
        refine WN.thn ?_
        refine WC.ret ?_
        have e9 := firstM_c hok hx1 (.inl hv)
        exact retT rfl (v := .agg #[Vi 0, .string (bs [])]) ⟨_, rfl, run_loadVarA (vs := [Vi 0, .string (bs [])]) Try.underlying45 rfl inf45 rfl (fun j v hv => by rw [add_mk, Nat.zero_add]; exact h12.ocell (i := 2) rfl (by simpa using hv))⟩ (show lk _ _ = _ from rfl) (show lk _ _ = _ from rfl) ⟨(0, []), 0, by rw [e9]; rfl, (fun y hy => by rw [e9] at hy; cases hy), (((h12.drop 0).drop 0).drop 0)⟩
      · skip
        refine WC.reg ?_
        refine WL.v (Runs.move rfl) rfl ?_
        refine WL.v (Runs.nilCheckP rfl) rfl ?_
        refine WL.v (Runs.fld fld74_2 rfl) rfl ?_
        refine WL.v (Runs.load1 Try.underlying25 rfl rfl (h10.ocell (i := 1) rfl rfl)) rfl ?_
        refine WL.v (Runs.boolT (c := false) (Runs.neq rfl rfl) (by rw [decide_eq_true hx1]; rfl)) rfl ?_
        refine WL.v (Runs.move rfl) rfl ?_
        refine WL.gon rfl rfl rfl ?_
        refine WL.v (Runs.move rfl) rfl ?_
        refine WL.gon rfl rfl rfl ?_
        refine WL.v (Runs.intT (n := (s.length : Int)) (Runs.slen Try.underlying9 rfl rfl) rfl) rfl ?_
        refine WL.gon rfl rfl rfl ?_
        refine WL.v (Runs.move rfl) rfl ?_
        refine WL.gon rfl rfl rfl ?_
        refine WL.v (Runs.intT (n := ((recB (kOf s) (txOf s)).length : Int)) (Runs.slen Try.underlying9 rfl rfl) rfl) rfl ?_
        refine WL.gon rfl rfl rfl ?_
        refine WL.v (Runs.boolT (c := false) (Runs.lss rfl rfl) (by rw [decide_eq_false_iff_not]; omega)) rfl ?_
        refine WL.v (Runs.pick rfl rfl rfl) rfl ?_
        refine WL.nil ?_
        refine WN.thn ?_
        refine WC.condF rfl (rfl) ?_
        refine WC.skip ?_
        refine WN.thn ?_
        refine WC.seq ?_
        refine WC.eregO h10 (fun s_ => ([9] : List Nat).any (Nat.beq s_)) mixed (by kernel_rfl) (fun hx => ?_)
        intro w13 h13
        refine WE.pure (g := none) hx 1 (by rfl) trivial (by kernel_rfl) (by kernel_rfl) (by kernel_rfl) (by kernel_rfl) (fun w_ => Runs.move rfl) rfl ?_
        refine WE.pure (g := none) hx 2 (by rfl) trivial (by kernel_rfl) (by kernel_rfl) (by kernel_rfl) (by kernel_rfl) (fun w_ => Runs.intT (n := ((recB (kOf s) (txOf s)).length : Int)) (Runs.slen Try.underlying9 rfl rfl) rfl) rfl ?_
        refine WE.pure (g := none) hx 3 (by rfl) trivial (by kernel_rfl) (by kernel_rfl) (by kernel_rfl) (by kernel_rfl) (fun w_ => Runs.move rfl) rfl ?_
        refine WE.pure (g := none) hx 4 (by rfl) trivial (by kernel_rfl) (by kernel_rfl) (by kernel_rfl) (by kernel_rfl) (fun w_ => Runs.move rfl) rfl ?_
        refine WE.pure (g := none) hx 5 (by rfl) trivial (by kernel_rfl) (by kernel_rfl) (by kernel_rfl) (by kernel_rfl) (fun w_ => Runs.intT (n := ((recB (kOf s) (txOf s)).length : Int)) (Runs.slen Try.underlying9 rfl rfl) rfl) rfl ?_
        refine WE.pure (g := none) hx 6 (by rfl) trivial (by kernel_rfl) (by kernel_rfl) (by kernel_rfl) (by kernel_rfl) (fun w_ => Runs.lssl_hi Try.underlying9 rfl rfl (m := (recB (kOf s) (txOf s)).length) rfl (by omega)) rfl ?_
        refine WE.pure (g := none) hx 7 (by rfl) trivial (by kernel_rfl) (by kernel_rfl) (by kernel_rfl) (by kernel_rfl) (fun w_ => Runs.move rfl) rfl ?_
        refine WE.pure (g := none) hx 8 (by rfl) trivial (by kernel_rfl) (by kernel_rfl) (by kernel_rfl) (by kernel_rfl) (fun w_ => Runs.boolT (c := true) (Runs.lseql rfl rfl) (decide_eq_true hv2)) rfl ?_
        refine WE.val (g := none) 12 hx 0 (by rfl) trivial (by kernel_rfl) (by kernel_rfl) (by kernel_rfl) (by kernel_rfl) (fun w_ hE_ => Runs.loadAll hE_ 0 rfl Try.underlying45 rfl inf45 rfl rfl) rfl ?_
        refine WE.op (.inr h13) (i := 9) (by rfl) (by kernel_rfl) ?_
        refine WL.storeAll h13 2 rfl rfl rfl inf45 rfl rfl rfl (Free.zero _) ?_
        intro  w14 h14
        try simp only [List.set_cons_zero, List.set_cons_succ, List.eraseIdx_cons_zero, List.eraseIdx_cons_succ] at h14
        refine WL.nil ?_
        refine WE.next ?_
        refine WE.pure (g := none) hx 10 (by rfl) trivial (by kernel_rfl) (by kernel_rfl) (by kernel_rfl) (by kernel_rfl) (fun w_ => Runs.assign rfl) rfl ?_
        refine WE.pure (g := none) hx 11 (by rfl) trivial (by kernel_rfl) (by kernel_rfl) (by kernel_rfl) (by kernel_rfl) (fun w_ => Runs.assign rfl) rfl ?_
        refine WE.fin (.inl ⟨9, rfl, by kernel_rfl⟩) (by kernel_rfl) ?_
        refine WN.thn ?_
        refine WC.ret ?_
        have e9 := firstM_d hok hx1 hv hv2
        exact retT rfl (v := .agg #[Vi (kOf s), .string (bs (txOf s))]) ⟨_, rfl, run_loadVarA (vs := [Vi (kOf s), .string (bs (txOf s))]) Try.underlying45 rfl inf45 rfl (fun j v hv => by rw [add_mk, Nat.zero_add]; exact h14.ocell (i := 2) rfl (by simpa using hv))⟩ (show lk _ _ = _ from rfl) (show lk _ _ = _ from rfl) ⟨(kOf s, txOf s), (recB (kOf s) (txOf s)).length, by rw [e9]; rfl, (fun y hy => by rw [e9] at hy; injection hy with hy; subst hy; exact ⟨rfl, rfl⟩), (((h14.drop 0).drop 0).drop 0)⟩
      · skip
        refine WC.reg ?_
        refine WL.v (Runs.move rfl) rfl ?_
        refine WL.v (Runs.nilCheckP rfl) rfl ?_
        refine WL.v (Runs.fld fld74_2 rfl) rfl ?_
        refine WL.v (Runs.load1 Try.underlying25 rfl rfl (h10.ocell (i := 1) rfl rfl)) rfl ?_
        refine WL.v (Runs.boolT (c := false) (Runs.neq rfl rfl) (by rw [decide_eq_true hx1]; rfl)) rfl ?_
        refine WL.v (Runs.move rfl) rfl ?_
        refine WL.gon rfl rfl rfl ?_
        refine WL.v (Runs.move rfl) rfl ?_
        refine WL.gon rfl rfl rfl ?_
        refine WL.v (Runs.intT (n := (s.length : Int)) (Runs.slen Try.underlying9 rfl rfl) rfl) rfl ?_
        refine WL.gon rfl rfl rfl ?_
        refine WL.v (Runs.move rfl) rfl ?_
        refine WL.gon rfl rfl rfl ?_
        refine WL.v (Runs.intT (n := ((recB (kOf s) (txOf s)).length : Int)) (Runs.slen Try.underlying9 rfl rfl) rfl) rfl ?_
        refine WL.gon rfl rfl rfl ?_
        refine WL.v (Runs.boolT (c := false) (Runs.lss rfl rfl) (by rw [decide_eq_false_iff_not]; omega)) rfl ?_
        refine WL.v (Runs.pick rfl rfl rfl) rfl ?_
        refine WL.nil ?_
        refine WN.thn ?_
        refine WC.condF rfl (rfl) ?_
        refine WC.skip ?_
        refine WN.thn ?_
        refine WC.seq ?_
        refine WC.eregO h10 (fun s_ => ([9] : List Nat).any (Nat.beq s_)) mixed (by kernel_rfl) (fun hx => ?_)
        intro w15 h15
        refine WE.pure (g := none) hx 1 (by rfl) trivial (by kernel_rfl) (by kernel_rfl) (by kernel_rfl) (by kernel_rfl) (fun w_ => Runs.move rfl) rfl ?_
        refine WE.pure (g := none) hx 2 (by rfl) trivial (by kernel_rfl) (by kernel_rfl) (by kernel_rfl) (by kernel_rfl) (fun w_ => Runs.intT (n := ((recB (kOf s) (txOf s)).length : Int)) (Runs.slen Try.underlying9 rfl rfl) rfl) rfl ?_
        refine WE.pure (g := none) hx 3 (by rfl) trivial (by kernel_rfl) (by kernel_rfl) (by kernel_rfl) (by kernel_rfl) (fun w_ => Runs.move rfl) rfl ?_
        refine WE.pure (g := none) hx 4 (by rfl) trivial (by kernel_rfl) (by kernel_rfl) (by kernel_rfl) (by kernel_rfl) (fun w_ => Runs.move rfl) rfl ?_
        refine WE.pure (g := none) hx 5 (by rfl) trivial (by kernel_rfl) (by kernel_rfl) (by kernel_rfl) (by kernel_rfl) (fun w_ => Runs.intT (n := ((recB (kOf s) (txOf s)).length : Int)) (Runs.slen Try.underlying9 rfl rfl) rfl) rfl ?_
        refine WE.pure (g := none) hx 6 (by rfl) trivial (by kernel_rfl) (by kernel_rfl) (by kernel_rfl) (by kernel_rfl) (fun w_ => Runs.lssl_hi Try.underlying9 rfl rfl (m := (recB (kOf s) (txOf s)).length) rfl (by omega)) rfl ?_
        refine WE.pure (g := none) hx 7 (by rfl) trivial (by kernel_rfl) (by kernel_rfl) (by kernel_rfl) (by kernel_rfl) (fun w_ => Runs.move rfl) rfl ?_
        refine WE.pure (g := none) hx 8 (by rfl) trivial (by kernel_rfl) (by kernel_rfl) (by kernel_rfl) (by kernel_rfl) (fun w_ => Runs.boolT (c := false) (Runs.lseql rfl rfl) (decide_eq_false hv2)) rfl ?_
        refine WE.val (g := none) 12 hx 0 (by rfl) trivial (by kernel_rfl) (by kernel_rfl) (by kernel_rfl) (by kernel_rfl) (fun w_ hE_ => Runs.loadAll hE_ 0 rfl Try.underlying45 rfl inf45 rfl rfl) rfl ?_
        refine WE.op (.inr h15) (i := 9) (by rfl) (by kernel_rfl) ?_
        refine WL.storeAll h15 2 rfl rfl rfl inf45 rfl rfl rfl (Free.zero _) ?_
        intro  w16 h16
        try simp only [List.set_cons_zero, List.set_cons_succ, List.eraseIdx_cons_zero, List.eraseIdx_cons_succ] at h16
        refine WL.nil ?_
        refine WE.next ?_
        refine WE.pure (g := none) hx 10 (by rfl) trivial (by kernel_rfl) (by kernel_rfl) (by kernel_rfl) (by kernel_rfl) (fun w_ => Runs.assign rfl) rfl ?_
        refine WE.pure (g := none) hx 11 (by rfl) trivial (by kernel_rfl) (by kernel_rfl) (by kernel_rfl) (by kernel_rfl) (fun w_ => Runs.assign rfl) rfl ?_
        refine WE.fin (.inl ⟨9, rfl, by kernel_rfl⟩) (by kernel_rfl) ?_
        refine WN.thn ?_
        refine WC.ret ?_
        have e9 := firstM_c hok hx1 (.inr hv2)
        exact retT rfl (v := .agg #[Vi (kOf s), .string (bs (txOf s))]) ⟨_, rfl, run_loadVarA (vs := [Vi (kOf s), .string (bs (txOf s))]) Try.underlying45 rfl inf45 rfl (fun j v hv => by rw [add_mk, Nat.zero_add]; exact h16.ocell (i := 2) rfl (by simpa using hv))⟩ (show lk _ _ = _ from rfl) (show lk _ _ = _ from rfl) ⟨(kOf s, txOf s), (recB (kOf s) (txOf s)).length, by rw [e9]; rfl, (fun y hy => by rw [e9] at hy; cases hy), (((h16.drop 0).drop 0).drop 0)⟩
    · skip
      refine WL.alloc' rfl h6 inf45 ?_
      intro b6 w17 h17
      refine WL.nil ?_
      refine WE.next ?_
      refine WE.op (.inr trivial) (i := 4) (by rfl) (by kernel_rfl) ?_
      refine WL.call can42 rfl rfl (qtext2_c _ (i := 1) h17 rfl hs hok.1) ?_
      rintro _ w18 ⟨rfl, h18⟩
      refine ⟨_, rfl, ?_⟩
      simp only [List.set_cons_zero, List.set_cons_succ] at h18
      refine WL.nil ?_
      refine WE.next ?_
      refine WE.pure (g := none) hx 5 (by rfl) trivial (by kernel_rfl) (by kernel_rfl) (by kernel_rfl) (by kernel_rfl) (fun w_ => Runs.build (vs := [(0, Vi (kOf s)), (1, .string (bs (txOf s)))]) (cells := #[Vi (kOf s), .string (bs (txOf s))]) rfl (by kernel_rfl)) rfl ?_
      refine WE.op (.inr trivial) (i := 7) (by rfl) (by kernel_rfl) ?_
      refine WL.storeAll h18 0 rfl rfl rfl inf45 rfl rfl rfl (Free.zero _) ?_
      intro  w19 h19
      try simp only [List.set_cons_zero, List.set_cons_succ, List.eraseIdx_cons_zero, List.eraseIdx_cons_succ] at h19
      refine WL.nil ?_
      refine WE.next ?_
      refine WE.fin (.inr trivial) (by kernel_rfl) ?_
      refine WN.thn ?_
      refine WC.seq ?_
      refine WC.reg ?_
      refine WL.v (Runs.fld fld45_0 rfl) rfl ?_
      refine WL.v (Runs.load1 Try.underlying3 rfl rfl (h19.ocell (i := 0) rfl rfl)) rfl ?_
      refine WL.v (Runs.fld fld45_1 rfl) rfl ?_
      refine WL.v (Runs.load1 Try.underlying9 rfl rfl (h19.ocell (i := 0) rfl rfl)) rfl ?_
      refine WL.call can12 rfl rfl (qrecord_c _ (kOf s) (txOf s) h19) ?_
      rintro _ w20 ⟨rfl, h20⟩
      refine ⟨_, rfl, ?_⟩
      refine WL.v (Runs.assign rfl) rfl ?_
      refine WL.nil ?_
      refine WN.thn ?_
      refine WC.seq ?_
      refine WC.seq ?_
      rcases two4 ((rdT (s.drop 2) 0 0).2.2 = 0) (s.length < (recB (kOf s) (txOf s)).length) (s.take (recB (kOf s) (txOf s)).length = (recB (kOf s) (txOf s))) with hx1 | ⟨hx1, hv⟩ | ⟨hx1, hv, hv2⟩ | ⟨hx1, hv, hv2⟩
      · skip
        refine WC.reg ?_
        refine WL.v (Runs.move rfl) rfl ?_
        refine WL.v (Runs.nilCheckP rfl) rfl ?_
        refine WL.v (Runs.fld fld74_2 rfl) rfl ?_
        refine WL.v (Runs.load1 Try.underlying25 rfl rfl (h20.ocell (i := 1) rfl rfl)) rfl ?_
        refine WL.v (Runs.boolT (c := true) (Runs.neq rfl rfl) (by rw [decide_eq_false hx1]; rfl)) rfl ?_
        refine WL.v (Runs.move rfl) rfl ?_
        refine WL.goff rfl rfl rfl rfl ?_
        refine WL.goff rfl rfl rfl rfl ?_
        refine WL.goff rfl rfl rfl rfl ?_
        refine WL.goff rfl rfl rfl rfl ?_
        refine WL.goff rfl rfl rfl rfl ?_
        refine WL.v (Runs.pick rfl rfl rfl) rfl ?_
        refine WL.nil ?_
        refine WN.thn ?_
        refine WC.condT rfl (rfl) ?_
        refine WC.seq ?_
        refine WC.reg ?_
        refine WL.v (Runs.build (vs := []) (cells := #[Vi 0, .string (bs [])]) rfl (by kernel_rfl)) rfl ?_
        refine WL.storeAll h20 2 rfl rfl rfl inf45 rfl rfl rfl (Free.zero _) ?_
        intro  w21 h21
        try simp only [List.set_cons_zero, List.set_cons_succ, List.eraseIdx_cons_zero, List.eraseIdx_cons_succ] at h21
        refine WL.v (Runs.assign rfl) rfl ?_
        refine WL.v (Runs.assign rfl) rfl ?_
        refine WL.nil ?_
        refine WN.thn ?_
        refine WC.ret ?_
        have e9 := firstM_b hok hx1
        exact retT rfl (v := .agg #[Vi 0, .string (bs [])]) ⟨_, rfl, run_loadVarA (vs := [Vi 0, .string (bs [])]) Try.underlying45 rfl inf45 rfl (fun j v hv => by rw [add_mk, Nat.zero_add]; exact h21.ocell (i := 2) rfl (by simpa using hv))⟩ (show lk _ _ = _ from rfl) (show lk _ _ = _ from rfl) ⟨(0, []), 0, by rw [e9]; rfl, (fun y hy => by rw [e9] at hy; cases hy), (((h21.drop 0).drop 0).drop 0)⟩
      · skip
        refine WC.reg ?_
        refine WL.v (Runs.move rfl) rfl ?_
        refine WL.v (Runs.nilCheckP rfl) rfl ?_
        refine WL.v (Runs.fld fld74_2 rfl) rfl ?_
        refine WL.v (Runs.load1 Try.underlying25 rfl rfl (h20.ocell (i := 1) rfl rfl)) rfl ?_
        refine WL.v (Runs.boolT (c := false) (Runs.neq rfl rfl) (by rw [decide_eq_true hx1]; rfl)) rfl ?_
        refine WL.v (Runs.move rfl) rfl ?_
        refine WL.gon rfl rfl rfl ?_
        refine WL.v (Runs.move rfl) rfl ?_
        refine WL.gon rfl rfl rfl ?_
        refine WL.v (Runs.intT (n := (s.length : Int)) (Runs.slen Try.underlying9 rfl rfl) rfl) rfl ?_
        refine WL.gon rfl rfl rfl ?_
        refine WL.v (Runs.move rfl) rfl ?_
        refine WL.gon rfl rfl rfl ?_
        refine WL.v (Runs.intT (n := ((recB (kOf s) (txOf s)).length : Int)) (Runs.slen Try.underlying9 rfl rfl) rfl) rfl ?_
        refine WL.gon rfl rfl rfl ?_
        refine WL.v (Runs.boolT (c := true) (Runs.lss rfl rfl) (by rw [decide_eq_true_eq]; omega)) rfl ?_
        refine WL.v (Runs.pick rfl rfl rfl) rfl ?_
        refine WL.nil ?_
        refine WN.thn ?_
        refine WC.condT rfl (rfl) ?_
        refine WC.seq ?_
        refine WC.reg ?_
        refine WL.v (Runs.build (vs := []) (cells := #[Vi 0, .string (bs [])]) rfl (by kernel_rfl)) rfl ?_
        refine WL.storeAll h20 2 rfl rfl rfl inf45 rfl rfl rfl (Free.zero _) ?_
        intro  w22 h22
        try simp only [List.set_cons_zero, List.set_cons_succ, List.eraseIdx_cons_zero, List.eraseIdx_cons_succ] at h22
        refine WL.v (Runs.assign rfl) rfl ?_
        refine WL.v (Runs.assign rfl) rfl ?_
        refine WL.nil ?_
        refine WN.thn ?_
        refine WC.ret ?_
        have e9 := firstM_c hok hx1 (.inl hv)
        exact retT rfl (v := .agg #[Vi 0, .string (bs [])]) ⟨_, rfl, run_loadVarA (vs := [Vi 0, .string (bs [])]) Try.underlying45 rfl inf45 rfl (fun j v hv => by rw [add_mk, Nat.zero_add]; exact h22.ocell (i := 2) rfl (by simpa using hv))⟩ (show lk _ _ = _ from rfl) (show lk _ _ = _ from rfl) ⟨(0, []), 0, by rw [e9]; rfl, (fun y hy => by rw [e9] at hy; cases hy), (((h22.drop 0).drop 0).drop 0)⟩
      · skip
        refine WC.reg ?_
        refine WL.v (Runs.move rfl) rfl ?_
        refine WL.v (Runs.nilCheckP rfl) rfl ?_
        refine WL.v (Runs.fld fld74_2 rfl) rfl ?_
        refine WL.v (Runs.load1 Try.underlying25 rfl rfl (h20.ocell (i := 1) rfl rfl)) rfl ?_
        refine WL.v (Runs.boolT (c := false) (Runs.neq rfl rfl) (by rw [decide_eq_true hx1]; rfl)) rfl ?_
        refine WL.v (Runs.move rfl) rfl ?_
        refine WL.gon rfl rfl rfl ?_
        refine WL.v (Runs.move rfl) rfl ?_
        refine WL.gon rfl rfl rfl ?_
        refine WL.v (Runs.intT (n := (s.length : Int)) (Runs.slen Try.underlying9 rfl rfl) rfl) rfl ?_
        refine WL.gon rfl rfl rfl ?_
        refine WL.v (Runs.move rfl) rfl ?_
        refine WL.gon rfl rfl rfl ?_
        refine WL.v (Runs.intT (n := ((recB (kOf s) (txOf s)).length : Int)) (Runs.slen Try.underlying9 rfl rfl) rfl) rfl ?_
        refine WL.gon rfl rfl rfl ?_
        refine WL.v (Runs.boolT (c := false) (Runs.lss rfl rfl) (by rw [decide_eq_false_iff_not]; omega)) rfl ?_
        refine WL.v (Runs.pick rfl rfl rfl) rfl ?_
        refine WL.nil ?_
        refine WN.thn ?_
        refine WC.condF rfl (rfl) ?_
        refine WC.skip ?_
        refine WN.thn ?_
        refine WC.seq ?_
        refine WC.eregO h20 (fun s_ => ([9] : List Nat).any (Nat.beq s_)) mixed (by kernel_rfl) (fun hx => ?_)
        intro w23 h23
        refine WE.pure (g := none) hx 1 (by rfl) trivial (by kernel_rfl) (by kernel_rfl) (by kernel_rfl) (by kernel_rfl) (fun w_ => Runs.move rfl) rfl ?_
        refine WE.pure (g := none) hx 2 (by rfl) trivial (by kernel_rfl) (by kernel_rfl) (by kernel_rfl) (by kernel_rfl) (fun w_ => Runs.intT (n := ((recB (kOf s) (txOf s)).length : Int)) (Runs.slen Try.underlying9 rfl rfl) rfl) rfl ?_
        refine WE.pure (g := none) hx 3 (by rfl) trivial (by kernel_rfl) (by kernel_rfl) (by kernel_rfl) (by kernel_rfl) (fun w_ => Runs.move rfl) rfl ?_
        refine WE.pure (g := none) hx 4 (by rfl) trivial (by kernel_rfl) (by kernel_rfl) (by kernel_rfl) (by kernel_rfl) (fun w_ => Runs.move rfl) rfl ?_
        refine WE.pure (g := none) hx 5 (by rfl) trivial (by kernel_rfl) (by kernel_rfl) (by kernel_rfl) (by kernel_rfl) (fun w_ => Runs.intT (n := ((recB (kOf s) (txOf s)).length : Int)) (Runs.slen Try.underlying9 rfl rfl) rfl) rfl ?_
        refine WE.pure (g := none) hx 6 (by rfl) trivial (by kernel_rfl) (by kernel_rfl) (by kernel_rfl) (by kernel_rfl) (fun w_ => Runs.lssl_hi Try.underlying9 rfl rfl (m := (recB (kOf s) (txOf s)).length) rfl (by omega)) rfl ?_
        refine WE.pure (g := none) hx 7 (by rfl) trivial (by kernel_rfl) (by kernel_rfl) (by kernel_rfl) (by kernel_rfl) (fun w_ => Runs.move rfl) rfl ?_
        refine WE.pure (g := none) hx 8 (by rfl) trivial (by kernel_rfl) (by kernel_rfl) (by kernel_rfl) (by kernel_rfl) (fun w_ => Runs.boolT (c := true) (Runs.lseql rfl rfl) (decide_eq_true hv2)) rfl ?_
        refine WE.val (g := none) 12 hx 0 (by rfl) trivial (by kernel_rfl) (by kernel_rfl) (by kernel_rfl) (by kernel_rfl) (fun w_ hE_ => Runs.loadAll hE_ 0 rfl Try.underlying45 rfl inf45 rfl rfl) rfl ?_
        refine WE.op (.inr h23) (i := 9) (by rfl) (by kernel_rfl) ?_
        refine WL.storeAll h23 2 rfl rfl rfl inf45 rfl rfl rfl (Free.zero _) ?_
        intro  w24 h24
        try simp only [List.set_cons_zero, List.set_cons_succ, List.eraseIdx_cons_zero, List.eraseIdx_cons_succ] at h24
        refine WL.nil ?_
        refine WE.next ?_
        refine WE.pure (g := none) hx 10 (by rfl) trivial (by kernel_rfl) (by kernel_rfl) (by kernel_rfl) (by kernel_rfl) (fun w_ => Runs.assign rfl) rfl ?_
        refine WE.pure (g := none) hx 11 (by rfl) trivial (by kernel_rfl) (by kernel_rfl) (by kernel_rfl) (by kernel_rfl) (fun w_ => Runs.assign rfl) rfl ?_
        refine WE.fin (.inl ⟨9, rfl, by kernel_rfl⟩) (by kernel_rfl) ?_
        refine WN.thn ?_
        refine WC.ret ?_
        have e9 := firstM_d hok hx1 hv hv2
        exact retT rfl (v := .agg #[Vi (kOf s), .string (bs (txOf s))]) ⟨_, rfl, run_loadVarA (vs := [Vi (kOf s), .string (bs (txOf s))]) Try.underlying45 rfl inf45 rfl (fun j v hv => by rw [add_mk, Nat.zero_add]; exact h24.ocell (i := 2) rfl (by simpa using hv))⟩ (show lk _ _ = _ from rfl) (show lk _ _ = _ from rfl) ⟨(kOf s, txOf s), (recB (kOf s) (txOf s)).length, by rw [e9]; rfl, (fun y hy => by rw [e9] at hy; injection hy with hy; subst hy; exact ⟨rfl, rfl⟩), (((h24.drop 0).drop 0).drop 0)⟩
      · skip
        refine WC.reg ?_
        refine WL.v (Runs.move rfl) rfl ?_
        refine WL.v (Runs.nilCheckP rfl) rfl ?_
        refine WL.v (Runs.fld fld74_2 rfl) rfl ?_
        refine WL.v (Runs.load1 Try.underlying25 rfl rfl (h20.ocell (i := 1) rfl rfl)) rfl ?_
        refine WL.v (Runs.boolT (c := false) (Runs.neq rfl rfl) (by rw [decide_eq_true hx1]; rfl)) rfl ?_
        refine WL.v (Runs.move rfl) rfl ?_
        refine WL.gon rfl rfl rfl ?_
        refine WL.v (Runs.move rfl) rfl ?_
        refine WL.gon rfl rfl rfl ?_
        refine WL.v (Runs.intT (n := (s.length : Int)) (Runs.slen Try.underlying9 rfl rfl) rfl) rfl ?_
        refine WL.gon rfl rfl rfl ?_
        refine WL.v (Runs.move rfl) rfl ?_
        refine WL.gon rfl rfl rfl ?_
        refine WL.v (Runs.intT (n := ((recB (kOf s) (txOf s)).length : Int)) (Runs.slen Try.underlying9 rfl rfl) rfl) rfl ?_
        refine WL.gon rfl rfl rfl ?_
        refine WL.v (Runs.boolT (c := false) (Runs.lss rfl rfl) (by rw [decide_eq_false_iff_not]; omega)) rfl ?_
        refine WL.v (Runs.pick rfl rfl rfl) rfl ?_
        refine WL.nil ?_
        refine WN.thn ?_
        refine WC.condF rfl (rfl) ?_
        refine WC.skip ?_
        refine WN.thn ?_
        refine WC.seq ?_
        refine WC.eregO h20 (fun s_ => ([9] : List Nat).any (Nat.beq s_)) mixed (by kernel_rfl) (fun hx => ?_)
        intro w25 h25
        refine WE.pure (g := none) hx 1 (by rfl) trivial (by kernel_rfl) (by kernel_rfl) (by kernel_rfl) (by kernel_rfl) (fun w_ => Runs.move rfl) rfl ?_
        refine WE.pure (g := none) hx 2 (by rfl) trivial (by kernel_rfl) (by kernel_rfl) (by kernel_rfl) (by kernel_rfl) (fun w_ => Runs.intT (n := ((recB (kOf s) (txOf s)).length : Int)) (Runs.slen Try.underlying9 rfl rfl) rfl) rfl ?_
        refine WE.pure (g := none) hx 3 (by rfl) trivial (by kernel_rfl) (by kernel_rfl) (by kernel_rfl) (by kernel_rfl) (fun w_ => Runs.move rfl) rfl ?_
        refine WE.pure (g := none) hx 4 (by rfl) trivial (by kernel_rfl) (by kernel_rfl) (by kernel_rfl) (by kernel_rfl) (fun w_ => Runs.move rfl) rfl ?_
        refine WE.pure (g := none) hx 5 (by rfl) trivial (by kernel_rfl) (by kernel_rfl) (by kernel_rfl) (by kernel_rfl) (fun w_ => Runs.intT (n := ((recB (kOf s) (txOf s)).length : Int)) (Runs.slen Try.underlying9 rfl rfl) rfl) rfl ?_
        refine WE.pure (g := none) hx 6 (by rfl) trivial (by kernel_rfl) (by kernel_rfl) (by kernel_rfl) (by kernel_rfl) (fun w_ => Runs.lssl_hi Try.underlying9 rfl rfl (m := (recB (kOf s) (txOf s)).length) rfl (by omega)) rfl ?_
        refine WE.pure (g := none) hx 7 (by rfl) trivial (by kernel_rfl) (by kernel_rfl) (by kernel_rfl) (by kernel_rfl) (fun w_ => Runs.move rfl) rfl ?_
        refine WE.pure (g := none) hx 8 (by rfl) trivial (by kernel_rfl) (by kernel_rfl) (by kernel_rfl) (by kernel_rfl) (fun w_ => Runs.boolT (c := false) (Runs.lseql rfl rfl) (decide_eq_false hv2)) rfl ?_
        refine WE.val (g := none) 12 hx 0 (by rfl) trivial (by kernel_rfl) (by kernel_rfl) (by kernel_rfl) (by kernel_rfl) (fun w_ hE_ => Runs.loadAll hE_ 0 rfl Try.underlying45 rfl inf45 rfl rfl) rfl ?_
        refine WE.op (.inr h25) (i := 9) (by rfl) (by kernel_rfl) ?_
        refine WL.storeAll h25 2 rfl rfl rfl inf45 rfl rfl rfl (Free.zero _) ?_
        intro  w26 h26
        try simp only [List.set_cons_zero, List.set_cons_succ, List.eraseIdx_cons_zero, List.eraseIdx_cons_succ] at h26
        refine WL.nil ?_
        refine WE.next ?_
        refine WE.pure (g := none) hx 10 (by rfl) trivial (by kernel_rfl) (by kernel_rfl) (by kernel_rfl) (by kernel_rfl) (fun w_ => Runs.assign rfl) rfl ?_
        refine WE.pure (g := none) hx 11 (by rfl) trivial (by kernel_rfl) (by kernel_rfl) (by kernel_rfl) (by kernel_rfl) (fun w_ => Runs.assign rfl) rfl ?_
        refine WE.fin (.inl ⟨9, rfl, by kernel_rfl⟩) (by kernel_rfl) ?_
        refine WN.thn ?_
        refine WC.ret ?_
        have e9 := firstM_c hok hx1 (.inr hv2)
        exact retT rfl (v := .agg #[Vi (kOf s), .string (bs (txOf s))]) ⟨_, rfl, run_loadVarA (vs := [Vi (kOf s), .string (bs (txOf s))]) Try.underlying45 rfl inf45 rfl (fun j v hv => by rw [add_mk, Nat.zero_add]; exact h26.ocell (i := 2) rfl (by simpa using hv))⟩ (show lk _ _ = _ from rfl) (show lk _ _ = _ from rfl) ⟨(kOf s, txOf s), (recB (kOf s) (txOf s)).length, by rw [e9]; rfl, (fun y hy => by rw [e9] at hy; cases hy), (((h26.drop 0).drop 0).drop 0)⟩
end Jo
end Go.Proofs.Ythjcfhfbaeokeaa
