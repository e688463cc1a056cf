/- The law RecPrefix. -/
import Derived.Test.YthejglgnoingfaaProg
import Derived.KernelRfl
import Derived.Test.YthejglgnoingfaaMBaseAH
import Derived.Test.YthejglgnoingfaaME4
namespace Go.Proofs.Ythejglgnoingfaa
open Go Go.RowKit B
set_option linter.unusedVariables false
set_option linter.unusedSimpArgs false
namespace Rc
open Wir (numB listB rdN rdL rdEnd)


theorem three3 (P Q S : Prop) : ¬ P ∨ (P ∧ ¬ Q) ∨ (P ∧ Q ∧ ¬ S) ∨ (P ∧ Q ∧ S) := by
  by_cases h : P <;> by_cases h2 : Q <;> by_cases h3 : S <;> simp [h, h2, h3]
theorem fold_len (l : List R) : ∀ z, (foldM z l).2 ≤ l.length := by
  induction l with
  | nil => intro z; exact Nat.le_refl _
  | cons r l ih =>
    intro z
    unfold foldM
    split
    · have := ih (applyM z r).1
      simp only [List.length_cons]; omega
    · exact Nat.zero_le _
theorem fold_cut (l : List R) : ∀ (n : Nat) (z : Z), n ≤ l.length → (foldM z (l.take n)).2 < n → foldM z (l.take n) = foldM z l := by
  induction l with
  | nil => intro n z h h2; rw [List.take_nil]
  | cons r l ih =>
    intro n z h h2
    cases n with
    | zero => exact absurd h2 (Nat.not_lt_zero _)
    | succ k =>
      rw [List.take_succ_cons] at h2 ⊢
      unfold foldM at h2 ⊢
      by_cases hr : (applyM z r).2 = 0
      · rw [if_pos hr] at h2
        rw [if_pos hr, if_pos hr, ih k (applyM z r).1 (by simpa using h) (by simpa using h2)]
      · rw [if_neg hr, if_neg hr]
theorem fold_ge (l : List R) : ∀ (n : Nat) (z : Z), (foldM z (l.take n)).2 ≤ (foldM z l).2 := by
  induction l with
  | nil => intro n z; rw [List.take_nil]; exact Nat.le_refl _
  | cons r l ih =>
    intro n z
    cases n with
    | zero => exact Nat.zero_le _
    | succ k =>
      rw [List.take_succ_cons]
      unfold foldM
      by_cases hr : (applyM z r).2 = 0
      · rw [if_pos hr, if_pos hr]
        exact Nat.succ_le_succ (ih k _)
      · rw [if_neg hr, if_neg hr]; exact Nat.le_refl _
theorem fold_all (l : List R) : ∀ z, (foldM z (l.take (foldM z l).2)).1 = (foldM z l).1 := by
  induction l with
  | nil => intro z; rfl
  | cons r l ih =>
    intro z
    by_cases hr : (applyM z r).2 = 0
    · have e : foldM z (r :: l) = ((foldM (applyM z r).1 l).1, (foldM (applyM z r).1 l).2 + 1) := by conv => lhs; unfold foldM
                                                                                                     rw [if_pos hr]
      rw [e]
      show (foldM z ((r :: l).take ((foldM (applyM z r).1 l).2 + 1))).1 = _
      rw [List.take_succ_cons]
      have e2 : ∀ m : List R, (foldM z (r :: m)).1 = (foldM (applyM z r).1 m).1 := fun m => by
        conv => lhs; unfold foldM
        rw [if_pos hr]
      rw [e2, ih]
    · have e : foldM z (r :: l) = (z, 0) := by
        conv => lhs; unfold foldM
        rw [if_neg hr]
      rw [e]; rfl
theorem fold_next (l : List R) : ∀ (i : Nat) (z : Z), i < (foldM z l).2 → (applyM (foldM z (l.take i)).1 (l.getD i R0)).2 = 0 ∧ (foldM z (l.take (i + 1))).1 = (applyM (foldM z (l.take i)).1 (l.getD i R0)).1 := by
  induction l with
  | nil => intro i z h; exact absurd h (Nat.not_lt_zero _)
  | cons r l ih =>
    intro i z h
    by_cases hr : (applyM z r).2 = 0
    · have e2 : ∀ m : List R, foldM z (r :: m) = ((foldM (applyM z r).1 m).1, (foldM (applyM z r).1 m).2 + 1) := fun m => by
        conv => lhs; unfold foldM
        rw [if_pos hr]
      cases i with
      | zero =>
        refine ⟨hr, ?_⟩
        show (foldM z ((r :: l).take 1)).1 = _
        rw [List.take_succ_cons, e2]; rfl
      | succ k =>
        rw [e2] at h
        have := ih k (applyM z r).1 (by simpa using h)
        rw [List.take_succ_cons, List.take_succ_cons, e2, e2]
        simpa using this
    · have e : foldM z (r :: l) = (z, 0) := by
        conv => lhs; unfold foldM
        rw [if_neg hr]
      rw [e] at h
      exact absurd h (Nat.not_lt_zero _)
theorem qsameT {W : World} {F : Snap} {cs : List Res} (w : World) {z z' : Z} {AJ AS BJ BS : Option Addr} {cj cS dj dS : Nat} (e : z = z') (hz : few z) (hR : ZR F AJ AS z) (hR2 : ZR F BJ BS z') (h : St W F cs w) : Calls Try.prog 24 #[.agg #[.slice AJ z.js.length cj, .slice AS z.ss.length cS, .bool z.dr], .agg #[.slice BJ z'.js.length dj, .slice BS z'.ss.length dS, .bool z'.dr]] w fun e w' => e = .returned (.bool true) ∧ St W F cs w' := by
  subst e
  exact qsame_c w hz hR hR2 h
set_option maxRecDepth 100000 in
set_option maxHeartbeats 16000000 in
theorem prefix_law {W : World} {F : Snap} {cs : List Res} (w : World) {A : Option Addr} {cap : Nat} {l : List R} {p : Int} (h : St W F cs w) (hR : RdS KR F A l) (hlm : l.length ≤ 9223372036854775807) (hcap : l.length ≤ cap) : Calls Try.prog 7 #[.slice A l.length cap, Vi p] w fun e w' => e = .returned (.bool true) ∧ St W F cs w'  := by
  refine enter (P := Try.prog) (args := [.slice A l.length cap, Vi p]) Try.func7 rfl rfl rfl ?_
  have hleF := Le.refl F
  refine WC.seq (WC.reg ?_)
  refine WL.v (Runs.assign rfl) rfl ?_
  refine WL.nil (WN.thn (WC.seq (WC.seq ?_)))
  rcases three3 (smallL l 60) (0 ≤ p) (p ≤ (l.length : Int)) with q0 | ⟨q0, q1⟩ | ⟨q0, q1, q2⟩ | ⟨q0, q1, q2⟩
  · skip
    refine WC.reg ?_
    refine WL.v (Runs.move rfl) rfl ?_
    refine WL.call can28 rfl rfl (small_c _ h hR hlm) ?_
    rintro _ w1 ⟨rfl, h1⟩
    refine ⟨_, rfl, ?_⟩
    refine WL.v (Runs.boolT (c := true) (Runs.not rfl) (by rw [decide_eq_false q0]; rfl)) rfl ?_
    refine WL.v (Runs.move rfl) rfl ?_
    refine WL.goff rfl rfl rfl rfl ?_
    refine WL.goff rfl rfl rfl rfl ?_
    refine WL.v (Runs.pick rfl rfl rfl) rfl ?_
    refine WL.v (Runs.move rfl) rfl ?_
    refine WL.goff rfl rfl rfl rfl ?_
    refine WL.goff rfl rfl rfl rfl ?_
    refine WL.goff rfl rfl rfl rfl ?_
    refine WL.goff rfl rfl rfl rfl ?_
    refine WL.v (Runs.pick rfl rfl rfl) rfl ?_
    refine WL.nil (WN.thn ?_)
    refine WC.condT rfl (rfl) ?_
    refine WC.seq (WC.reg ?_)
    refine WL.call can10 rfl rfl (live_c _ h1) ?_
    rintro _ w2 ⟨G25, hG25, rfl, h2⟩
    refine ⟨_, rfl, ?_⟩
    replace hleF := Le.trans hleF hG25
    replace hR := hR.mono hG25
    refine WL.v (Runs.assign rfl) rfl ?_
    refine WL.nil (WN.thn (WC.ret ?_))
    have h90 := h2
    try simp only [List.eraseIdx_cons_zero] at h90
    exact ret1 rfl rfl ⟨rfl, h90.weak hleF⟩
  · skip
    refine WC.reg ?_
    refine WL.v (Runs.move rfl) rfl ?_
    refine WL.call can28 rfl rfl (small_c _ h hR hlm) ?_
    rintro _ w3 ⟨rfl, h3⟩
    refine ⟨_, rfl, ?_⟩
    refine WL.v (Runs.boolT (c := false) (Runs.not rfl) (by rw [decide_eq_true q0]; rfl)) rfl ?_
    refine WL.v (Runs.move rfl) rfl ?_
    refine WL.gon rfl rfl rfl ?_
    refine WL.v (Runs.move rfl) rfl ?_
    refine WL.gon rfl rfl rfl ?_
    refine WL.v (Runs.boolT (c := true) (Runs.lss rfl rfl) (by rw [decide_eq_true_eq]; omega)) rfl ?_
    refine WL.v (Runs.pick rfl rfl rfl) rfl ?_
    refine WL.v (Runs.move rfl) rfl ?_
    refine WL.goff rfl rfl rfl rfl ?_
    refine WL.goff rfl rfl rfl rfl ?_
    refine WL.goff rfl rfl rfl rfl ?_
    refine WL.goff rfl rfl rfl rfl ?_
    refine WL.v (Runs.pick rfl rfl rfl) rfl ?_
    refine WL.nil (WN.thn ?_)
    refine WC.condT rfl (rfl) ?_
    refine WC.seq (WC.reg ?_)
    refine WL.call can10 rfl rfl (live_c _ h3) ?_
    rintro _ w4 ⟨G25, hG25, rfl, h4⟩
    refine ⟨_, rfl, ?_⟩
    replace hleF := Le.trans hleF hG25
    replace hR := hR.mono hG25
    refine WL.v (Runs.assign rfl) rfl ?_
    refine WL.nil (WN.thn (WC.ret ?_))
    have h90 := h4
    try simp only [List.eraseIdx_cons_zero] at h90
    exact ret1 rfl rfl ⟨rfl, h90.weak hleF⟩
  · skip
    refine WC.reg ?_
    refine WL.v (Runs.move rfl) rfl ?_
    refine WL.call can28 rfl rfl (small_c _ h hR hlm) ?_
    rintro _ w5 ⟨rfl, h5⟩
    refine ⟨_, rfl, ?_⟩
    refine WL.v (Runs.boolT (c := false) (Runs.not rfl) (by rw [decide_eq_true q0]; rfl)) rfl ?_
    refine WL.v (Runs.move rfl) rfl ?_
    refine WL.gon rfl rfl rfl ?_
    refine WL.v (Runs.move rfl) rfl ?_
    refine WL.gon rfl rfl rfl ?_
    refine WL.v (Runs.boolT (c := false) (Runs.lss rfl rfl) (by rw [decide_eq_false_iff_not]; omega)) rfl ?_
    refine WL.v (Runs.pick rfl rfl rfl) rfl ?_
    refine WL.v (Runs.move rfl) rfl ?_
    refine WL.gon rfl rfl rfl ?_
    refine WL.v (Runs.move rfl) rfl ?_
    refine WL.gon rfl rfl rfl ?_
    refine WL.v (Runs.move rfl) rfl ?_
    refine WL.gon rfl rfl rfl ?_
    refine WL.v (Runs.llen Try.underlying65 rfl rfl) rfl ?_
    refine WL.gon rfl rfl rfl ?_
    refine WL.v (Runs.boolT (c := true) (Runs.gtr rfl rfl) (by rw [decide_eq_true_eq]; omega)) rfl ?_
    refine WL.v (Runs.pick rfl rfl rfl) rfl ?_
    refine WL.nil (WN.thn ?_)
    refine WC.condT rfl (rfl) ?_
    refine WC.seq (WC.reg ?_)
    refine WL.call can10 rfl rfl (live_c _ h5) ?_
    rintro _ w6 ⟨G25, hG25, rfl, h6⟩
    refine ⟨_, rfl, ?_⟩
    replace hleF := Le.trans hleF hG25
    replace hR := hR.mono hG25
    refine WL.v (Runs.assign rfl) rfl ?_
    refine WL.nil (WN.thn (WC.ret ?_))
    have h90 := h6
    try simp only [List.eraseIdx_cons_zero] at h90
    exact ret1 rfl rfl ⟨rfl, h90.weak hleF⟩
  · obtain ⟨n, rfl⟩ : ∃ n : Nat, p = (n : Int) := ⟨p.toNat, by omega⟩
    have hn : n ≤ l.length := by omega
    have hl1 : l.length ≤ 1000 := by have := q0.2; omega
    have hls := q0.ls
    have hfw := fold_few hls hl1
    have hlt : ∀ r ∈ l.take n, r.ls.length ≤ 100000 := fun r hr => hls r (List.mem_of_mem_take hr)
    have hfn := fold_few hlt (by rw [List.length_take]; omega)
    have hml := fold_len l Z0
    refine WC.reg ?_
    refine WL.v (Runs.move rfl) rfl ?_
    refine WL.call can28 rfl rfl (small_c _ h hR hlm) ?_
    rintro _ w7 ⟨rfl, h7⟩
    refine ⟨_, rfl, ?_⟩
    refine WL.v (Runs.boolT (c := false) (Runs.not rfl) (by rw [decide_eq_true q0]; rfl)) rfl ?_
    refine WL.v (Runs.move rfl) rfl ?_
    refine WL.gon rfl rfl rfl ?_
    refine WL.v (Runs.move rfl) rfl ?_
    refine WL.gon rfl rfl rfl ?_
    refine WL.v (Runs.boolT (c := false) (Runs.lss rfl rfl) (by rw [decide_eq_false_iff_not]; omega)) rfl ?_
    refine WL.v (Runs.pick rfl rfl rfl) rfl ?_
    refine WL.v (Runs.move rfl) rfl ?_
    refine WL.gon rfl rfl rfl ?_
    refine WL.v (Runs.move rfl) rfl ?_
    refine WL.gon rfl rfl rfl ?_
    refine WL.v (Runs.move rfl) rfl ?_
    refine WL.gon rfl rfl rfl ?_
    refine WL.v (Runs.llen Try.underlying65 rfl rfl) rfl ?_
    refine WL.gon rfl rfl rfl ?_
    refine WL.v (Runs.boolT (c := false) (Runs.gtr rfl rfl) (by rw [decide_eq_false_iff_not]; omega)) rfl ?_
    refine WL.v (Runs.pick rfl rfl rfl) rfl ?_
    refine WL.nil (WN.thn ?_)
    refine WC.condF rfl (rfl) ?_
    refine WC.skip (WN.thn (WC.seq (WC.reg ?_)))
    refine WL.v (Runs.move rfl) rfl ?_
    refine WL.call can29 rfl rfl (fold_c _ hl1 hls hR h7) ?_
    rintro _ w8 ⟨G28, AJ28, AS28, cj28, cS28, hG28, rfl, hZ28, h8⟩
    refine ⟨_, rfl, ?_⟩
    replace hleF := Le.trans hleF hG28
    replace hR := hR.mono hG28
    refine WL.v (Runs.move rfl) rfl ?_
    refine WL.v (Runs.extract rfl rfl) rfl ?_
    refine WL.v (Runs.extract rfl rfl) rfl ?_
    refine WL.alloc' rfl h8 inf40 ?_
    intro b5 w9 h9
    refine WL.storeAll h9 0 rfl rfl rfl inf40 rfl rfl rfl (Free.zero _) ?_
    intro  w10 h10
    try simp only [lz, ls, ez, es'] at h10
    refine WL.v (Runs.assign rfl) rfl ?_
    refine WL.nil (WN.thn (WC.seq (WC.reg ?_)))
    refine WL.v (Runs.move rfl) rfl ?_
    refine WL.v (Runs.move rfl) rfl ?_
    refine WL.v (Runs.valT (u := .slice A (l.take n).length cap) (Runs.lsl_hi Try.underlying65 inf24 rfl rfl (n := n) rfl (by omega)) (by rw [List.length_take, Nat.min_eq_left hn])) rfl ?_
    refine WL.call can29 rfl rfl (fold_c (l := l.take n) _ (by rw [List.length_take]; omega) hlt (hR.take n) h10) ?_
    rintro _ w11 ⟨G35, AJ35, AS35, cj35, cS35, hG35, rfl, hZ35, h11⟩
    refine ⟨_, rfl, ?_⟩
    replace hleF := Le.trans hleF hG35
    replace hR := hR.mono hG35
    replace hZ28 := hZ28.mono hG35
    refine WL.v (Runs.move rfl) rfl ?_
    refine WL.v (Runs.extract rfl rfl) rfl ?_
    refine WL.v (Runs.extract rfl rfl) rfl ?_
    refine WL.alloc' rfl h11 inf40 ?_
    intro b7 w12 h12
    refine WL.storeAll h12 0 rfl rfl rfl inf40 rfl rfl rfl (Free.zero _) ?_
    intro  w13 h13
    try simp only [lz, ls, ez, es'] at h13
    refine WL.v (Runs.assign rfl) rfl ?_
    refine WL.nil (WN.thn (WC.seq (WC.seq (WC.reg ?_))))
    refine WL.v (Runs.move rfl) rfl ?_
    refine WL.v (Runs.move rfl) rfl ?_
    refine WL.v (Runs.lss rfl rfl) rfl ?_
    refine WL.nil (WN.thn ?_)
    refine WC.cond rfl (fun c14 => ?_) (fun c14 => ?_)
    · try simp only [dt, df, nt, nf, ba, il, ie] at c14
      first
      | (exfalso; omega)
      | skip
        refine WC.seq ?_
        have hft := fold_cut l n Z0 hn (by omega)
        refine WC.eregK h13 h13 (fun s_ => ([] : List Nat).any (Nat.beq s_)) mixed (by kernel_rfl) (fun hx => ?_)
        intro w15 h15
        refine WE.p0 hx 0 (by rfl) (fun w_ => Runs.move rfl) rfl ?_
        refine WE.p0 hx 1 (by rfl) (fun w_ => Runs.move rfl) rfl ?_
        refine WE.p0 hx 2 (by rfl) (fun w_ => Runs.boolT (c := true) (Runs.eql rfl rfl) (by rw [hft]; simp)) rfl ?_
        refine WE.p0 hx 3 (by rfl) (fun w_ => Runs.move rfl) rfl ?_
        refine WE.v1 (j := 3) (b := true) 12 hx 4 (by rfl) ⟨_, _, rfl, rfl, rfl⟩ (fun w_ hE_ => Runs.loadAll hE_ 0 rfl Try.underlying40 rfl inf40 rfl rfl) rfl ?_
        refine WE.v1 (j := 3) (b := true) 12 hx 6 (by rfl) ⟨_, _, rfl, rfl, rfl⟩ (fun w_ hE_ => Runs.loadAll hE_ 1 rfl Try.underlying40 rfl inf40 rfl rfl) rfl ?_
        refine WE.op (.inr h15) (i := 5) (by rfl) (by kernel_rfl) ?_
        refine WL.gon rfl rfl rfl ?_
        refine WL.call can25 rfl rfl ((show Calls _ _ #[_] _ _ from told_c (z := (foldM Z0 (l.take n)).1) _ hfn hZ35 h15)) ?_
        rintro _ w16 ⟨G46, AJ46, AS46, cj46, cS46, hG46, rfl, hZ46, h16⟩
        refine ⟨_, rfl, ?_⟩
        replace hleF := Le.trans hleF hG46
        replace hR := hR.mono hG46
        replace hZ28 := hZ28.mono hG46
        replace hZ35 := hZ35.mono hG46
        refine WL.nil (WE.next ?_)
        refine WE.op (.inr (h16.weak hG46)) (i := 7) (by rfl) (by kernel_rfl) ?_
        refine WL.gon rfl rfl rfl ?_
        refine WL.call can25 rfl rfl ((show Calls _ _ #[_] _ _ from told_c (z := (foldM Z0 l).1) _ hfw hZ28 h16)) ?_
        rintro _ w17 ⟨G48, AJ48, AS48, cj48, cS48, hG48, rfl, hZ48, h17⟩
        refine ⟨_, rfl, ?_⟩
        replace hleF := Le.trans hleF hG48
        replace hR := hR.mono hG48
        replace hZ28 := hZ28.mono hG48
        replace hZ35 := hZ35.mono hG48
        replace hZ46 := hZ46.mono hG48
        refine WL.nil (WE.next ?_)
        refine WE.op (.inr (h17.weak (Le.trans hG46 hG48))) (i := 8) (by rfl) (by kernel_rfl) ?_
        refine WL.gon rfl rfl rfl ?_
        refine WL.call can24 rfl rfl ((show Calls _ _ #[_, _] _ _ from qsameT _ (congrArg (·.1) hft) hfn hZ46 hZ48 h17)) ?_
        rintro _ w18 ⟨rfl, h18⟩
        refine ⟨_, rfl, ?_⟩
        refine WL.nil (WE.next ?_)
        refine WE.p0 hx 9 (by rfl) (fun w_ => Runs.pick rfl rfl rfl) rfl ?_
        refine WE.p0 hx 10 (by rfl) (fun w_ => Runs.move rfl) rfl ?_
        refine WE.op (.inr (h18.weak (Le.trans hG46 hG48))) (i := 11) (by rfl) (by kernel_rfl) ?_
        refine WL.gon rfl rfl rfl ?_
        refine WL.call can10 rfl rfl (live_c _ h18) ?_
        rintro _ w19 ⟨G52, hG52, rfl, h19⟩
        refine ⟨_, rfl, ?_⟩
        replace hleF := Le.trans hleF hG52
        replace hR := hR.mono hG52
        replace hZ28 := hZ28.mono hG52
        replace hZ35 := hZ35.mono hG52
        replace hZ46 := hZ46.mono hG52
        replace hZ48 := hZ48.mono hG52
        refine WL.nil (WE.next ?_)
        refine WE.p0 hx 12 (by rfl) (fun w_ => Runs.pick rfl rfl rfl) rfl ?_
        refine WE.p0 hx 13 (by rfl) (fun w_ => Runs.assign rfl) rfl ?_
        refine WE.fin (.inr (h19.weak (Le.trans (Le.trans hG46 hG48) hG52))) (by kernel_rfl) ?_
        refine WN.thn (WC.ret ?_)
        have h90 := ((h19.drop 0).drop 0)
        try simp only [List.eraseIdx_cons_zero] at h90
        exact ret1 rfl rfl ⟨rfl, h90.weak hleF⟩
    · try simp only [dt, df, nt, nf, ba, il, ie] at c14
      first
      | (exfalso; omega)
      | skip
        refine WC.skip (WN.thn (WC.seq (WC.seq (WC.reg ?_))))
        refine WL.v (Runs.move rfl) rfl ?_
        refine WL.v (Runs.assign rfl) rfl ?_
        refine WL.nil (WN.thn (WC.block ?_))
        have hge := fold_ge l n Z0
        refine WC.loop (σ := Nat × Snap × Option Addr × Option Addr × Nat × Nat) (fun q_ => [(0, .slice A l.length cap), (1, Vi (n : Int)), (5, .pointer (some ⟨b5, 0, none⟩)), (6, Vi ((foldM Z0 l).2 : Int)), (7, .pointer (some ⟨b7, 0, none⟩)), (9, .int .i64 (q_.1 : Int))]) (fun q_ w => (n ≤ q_.1 ∧ q_.1 ≤ (foldM Z0 l).2) ∧ Le F q_.2.1 ∧ RdS KR q_.2.1 A l ∧ ZR q_.2.1 q_.2.2.1 q_.2.2.2.1 (foldM Z0 (l.take q_.1)).1 ∧ ZR q_.2.1 AJ28 AS28 (foldM Z0 l).1 ∧ few (foldM Z0 (l.take q_.1)).1 ∧ St W q_.2.1 ([(b7, .cells #[.slice q_.2.2.1 (foldM Z0 (l.take q_.1)).1.js.length q_.2.2.2.2.1, .slice q_.2.2.2.1 (foldM Z0 (l.take q_.1)).1.ss.length q_.2.2.2.2.2, .bool (foldM Z0 (l.take q_.1)).1.dr] 40 (0, 0))] :: [(b5, .cells #[.slice AJ28 (foldM Z0 l).1.js.length cj28, .slice AS28 (foldM Z0 l).1.ss.length cS28, .bool (foldM Z0 l).1.dr] 40 (0, 0))] :: cs) w) (fun q_ => (foldM Z0 l).2 - q_.1) (⟨n, _, AJ35, AS35, cj35, cS35⟩) (by repeat (first | exact trivial | refine ⟨rfl, ?_⟩)) (⟨⟨Nat.le_refl _, by omega⟩, hleF, hR, hZ35, hZ28, hfn, h13⟩) ?_
        rintro ⟨i, G, AJ, AS, cj, cS⟩ w20 ⟨⟨hi0, hi⟩, hleF, hR, hZi, hZ28, hfi, hL⟩
        try dsimp only at hi0 hi hleF hR hZi hZ28 hfi hL
        refine WC.sub (s := [(0, .slice A l.length cap), (1, Vi (n : Int)), (5, .pointer (some ⟨b5, 0, none⟩)), (6, Vi ((foldM Z0 l).2 : Int)), (7, .pointer (some ⟨b7, 0, none⟩)), (9, .int .i64 (i : Int))]) (by repeat (first | exact trivial | refine ⟨rfl, ?_⟩)) ?_
        refine WC.seq (WC.seq (WC.reg ?_))
        refine WL.v (Runs.move rfl) rfl ?_
        refine WL.v (Runs.move rfl) rfl ?_
        refine WL.v (Runs.lss rfl rfl) rfl ?_
        refine WL.nil (WN.thn ?_)
        refine WC.cond rfl (fun c21 => ?_) (fun c21 => ?_)
        · try simp only [dt, df, nt, nf, ba, il, ie] at c21
          first
          | (exfalso; omega)
          | skip
            refine WC.skip (WN.thn (WC.seq (WC.block (WC.seq ?_))))
            have hnx := fold_next l i Z0 (by omega)
            have hi2 : i < l.length := by omega
            obtain ⟨ad, c, rfl, ⟨A1, cap1, rfl, hps⟩, hcell⟩ := hR.atD R0 hi2
            refine WC.eregK hL hL (fun s_ => ([10] : List Nat).any (Nat.beq s_)) mixed (by kernel_rfl) (fun hx => ?_)
            intro w22 h22
            refine WE.p0 hx 1 (by rfl) (fun w_ => Runs.move rfl) rfl ?_
            refine WE.p0 hx 2 (by rfl) (fun w_ => Runs.move rfl) rfl ?_
            refine WE.p0 hx 3 (by rfl) (fun w_ => Runs.lidxK Try.underlying65 inf24 rfl rfl (n := i) rfl hi2) rfl ?_
            refine WE.v0 12 hx 0 (by rfl) (fun w_ hE_ => Runs.loadAll hE_ 0 rfl Try.underlying40 rfl inf40 rfl rfl) rfl ?_
            refine WE.v0 12 hx 4 (by rfl) (fun w_ hE_ => Runs.loadKF hE_ hcell Try.underlying24 rfl inf24 rfl rfl) rfl ?_
            refine WE.op2 (.inr h22) (i := 5) (j := 9) (by rfl) (by rfl) (by kernel_rfl) ?_ ?_
            · skip
              refine WL.call can18 rfl rfl ((show Calls _ _ #[_, _] _ _ from apply_c (z := (foldM Z0 (l.take i)).1) (r := l.getD i R0) _ hps (hls _ (memD R0 hi2)) hfi hZi h22)) ?_
              rintro _ w23 ⟨G66, AJ66, AS66, cj66, cS66, hG66, rfl, hZ66, h23⟩
              refine ⟨_, rfl, ?_⟩
              replace hleF := Le.trans hleF hG66
              replace hR := hR.mono hG66
              replace hZi := hZi.mono hG66
              replace hZ28 := hZ28.mono hG66
              refine WL.nil (WE.next ?_)
              refine WE.p0 hx 6 (by rfl) (fun w_ => Runs.move rfl) rfl ?_
              refine WE.p0 hx 7 (by rfl) (fun w_ => Runs.extract rfl rfl) rfl ?_
              refine WE.p0 hx 8 (by rfl) (fun w_ => Runs.extract rfl rfl) rfl ?_
              refine WE.op (.inr (h23.weak hG66)) (i := 9) (by rfl) (by kernel_rfl) ?_
              refine WL.alloc' rfl h23 inf40 ?_
              intro b10 w24 h24
              refine WL.nil (WE.next ?_)
              refine WE.op (.inr ((h24.weak hG66).drop 0)) (i := 10) (by rfl) (by kernel_rfl) ?_
              refine WL.storeAll h24 0 rfl rfl rfl inf40 rfl rfl rfl (Free.zero _) ?_
              intro  w25 h25
              try simp only [lz, ls, ez, es'] at h25
              refine WL.nil (WE.next ?_)
              refine WE.p0 hx 11 (by rfl) (fun w_ => Runs.assign rfl) rfl ?_
              refine WE.fin (.inl ⟨10, rfl, by kernel_rfl⟩) (by kernel_rfl) ?_
              refine WN.thn (WC.seq (WC.seq (WC.reg ?_)))
              refine WL.v (Runs.move rfl) rfl ?_
              refine WL.v (Runs.boolT (c := false) (Runs.neq rfl rfl) (by rw [hnx.1]; rfl)) rfl ?_
              refine WL.nil (WN.thn ?_)
              refine WC.condF rfl (rfl) ?_
              refine WC.skip (WN.thn (WC.reg ?_))
              refine WL.v (Runs.loadAll h25 0 rfl Try.underlying40 rfl inf40 rfl rfl) rfl ?_
              refine WL.storeAll h25 1 rfl rfl rfl inf40 rfl rfl rfl (Free.zero _) ?_
              intro  w26 h26
              try simp only [lz, ls, ez, es'] at h26
              refine WL.nil (WN.blk (WN.thn (WC.reg ?_)))
              refine WL.v (Runs.move rfl) rfl ?_
              refine WL.v (Runs.addn rfl rfl (by omega)) rfl ?_
              refine WL.v (Runs.assign rfl) rfl ?_
              refine WL.nil ?_
              have h9 := (h26.drop 0)
              rw [← hnx.2] at h9 hZ66
              exact WN.again (⟨i + 1, _, AJ66, AS66, cj66, cS66⟩ : Nat × Snap × Option Addr × Option Addr × Nat × Nat) (by show (foldM Z0 l).2 - (i + 1) < (foldM Z0 l).2 - i; omega) ⟨rfl, rfl, rfl, rfl, rfl, rfl, trivial⟩ ⟨⟨by show n ≤ i + 1; omega, by show i + 1 ≤ _; omega⟩, hleF, hR, hZ66, hZ28, fold_few (fun r hr => hls r (List.mem_of_mem_take hr)) (by rw [List.length_take]; omega), h9⟩
            · skip
              refine WL.alloc' rfl h22 inf40 ?_
              intro b10 w27 h27
              refine WL.nil (WE.next ?_)
              refine WE.op (.inr (h27.drop 0)) (i := 5) (by rfl) (by kernel_rfl) ?_
              refine WL.call can18 rfl rfl ((show Calls _ _ #[_, _] _ _ from apply_c (z := (foldM Z0 (l.take i)).1) (r := l.getD i R0) _ hps (hls _ (memD R0 hi2)) hfi hZi h27)) ?_
              rintro _ w28 ⟨G66, AJ66, AS66, cj66, cS66, hG66, rfl, hZ66, h28⟩
              refine ⟨_, rfl, ?_⟩
              replace hleF := Le.trans hleF hG66
              replace hR := hR.mono hG66
              replace hZi := hZi.mono hG66
              replace hZ28 := hZ28.mono hG66
              refine WL.nil (WE.next ?_)
              refine WE.p0 hx 6 (by rfl) (fun w_ => Runs.move rfl) rfl ?_
              refine WE.p0 hx 7 (by rfl) (fun w_ => Runs.extract rfl rfl) rfl ?_
              refine WE.p0 hx 8 (by rfl) (fun w_ => Runs.extract rfl rfl) rfl ?_
              refine WE.op (.inr ((h28.weak hG66).drop 0)) (i := 10) (by rfl) (by kernel_rfl) ?_
              refine WL.storeAll h28 0 rfl rfl rfl inf40 rfl rfl rfl (Free.zero _) ?_
              intro  w29 h29
              try simp only [lz, ls, ez, es'] at h29
              refine WL.nil (WE.next ?_)
              refine WE.p0 hx 11 (by rfl) (fun w_ => Runs.assign rfl) rfl ?_
              refine WE.fin (.inl ⟨10, rfl, by kernel_rfl⟩) (by kernel_rfl) ?_
              refine WN.thn (WC.seq (WC.seq (WC.reg ?_)))
              refine WL.v (Runs.move rfl) rfl ?_
              refine WL.v (Runs.boolT (c := false) (Runs.neq rfl rfl) (by rw [hnx.1]; rfl)) rfl ?_
              refine WL.nil (WN.thn ?_)
              refine WC.condF rfl (rfl) ?_
              refine WC.skip (WN.thn (WC.reg ?_))
              refine WL.v (Runs.loadAll h29 0 rfl Try.underlying40 rfl inf40 rfl rfl) rfl ?_
              refine WL.storeAll h29 1 rfl rfl rfl inf40 rfl rfl rfl (Free.zero _) ?_
              intro  w30 h30
              try simp only [lz, ls, ez, es'] at h30
              refine WL.nil (WN.blk (WN.thn (WC.reg ?_)))
              refine WL.v (Runs.move rfl) rfl ?_
              refine WL.v (Runs.addn rfl rfl (by omega)) rfl ?_
              refine WL.v (Runs.assign rfl) rfl ?_
              refine WL.nil ?_
              have h9 := (h30.drop 0)
              rw [← hnx.2] at h9 hZ66
              exact WN.again (⟨i + 1, _, AJ66, AS66, cj66, cS66⟩ : Nat × Snap × Option Addr × Option Addr × Nat × Nat) (by show (foldM Z0 l).2 - (i + 1) < (foldM Z0 l).2 - i; omega) ⟨rfl, rfl, rfl, rfl, rfl, rfl, trivial⟩ ⟨⟨by show n ≤ i + 1; omega, by show i + 1 ≤ _; omega⟩, hleF, hR, hZ66, hZ28, fold_few (fun r hr => hls r (List.mem_of_mem_take hr)) (by rw [List.length_take]; omega), h9⟩
        · try simp only [dt, df, nt, nf, ba, il, ie] at c21
          first
          | (exfalso; omega)
          | skip
            refine WC.exit (WX.thn (WX.cut (WX.hit (WN.thn (WC.seq ?_)))))
            have hie : (foldM Z0 (l.take i)).1 = (foldM Z0 l).1 := by
              obtain rfl : i = (foldM Z0 l).2 := by omega
              exact fold_all l Z0
            refine WC.eregK hL hL (fun s_ => ([] : List Nat).any (Nat.beq s_)) mixed (by kernel_rfl) (fun hx => ?_)
            intro w31 h31
            refine WE.p0 hx 0 (by rfl) (fun w_ => Runs.move rfl) rfl ?_
            refine WE.p0 hx 1 (by rfl) (fun w_ => Runs.move rfl) rfl ?_
            refine WE.p0 hx 2 (by rfl) (fun w_ => Runs.boolT (c := true) (Runs.geq rfl rfl) (decide_eq_true (by omega))) rfl ?_
            refine WE.p0 hx 3 (by rfl) (fun w_ => Runs.move rfl) rfl ?_
            refine WE.v1 (j := 3) (b := true) 12 hx 4 (by rfl) ⟨_, _, rfl, rfl, rfl⟩ (fun w_ hE_ => Runs.loadAll hE_ 0 rfl Try.underlying40 rfl inf40 rfl rfl) rfl ?_
            refine WE.v1 (j := 3) (b := true) 12 hx 6 (by rfl) ⟨_, _, rfl, rfl, rfl⟩ (fun w_ hE_ => Runs.loadAll hE_ 1 rfl Try.underlying40 rfl inf40 rfl rfl) rfl ?_
            refine WE.op (.inr h31) (i := 5) (by rfl) (by kernel_rfl) ?_
            refine WL.gon rfl rfl rfl ?_
            refine WL.call can25 rfl rfl ((show Calls _ _ #[_] _ _ from told_c (z := (foldM Z0 (l.take i)).1) _ hfi hZi h31)) ?_
            rintro _ w32 ⟨G77, AJ77, AS77, cj77, cS77, hG77, rfl, hZ77, h32⟩
            refine ⟨_, rfl, ?_⟩
            replace hleF := Le.trans hleF hG77
            replace hR := hR.mono hG77
            replace hZi := hZi.mono hG77
            replace hZ28 := hZ28.mono hG77
            refine WL.nil (WE.next ?_)
            refine WE.op (.inr (h32.weak hG77)) (i := 7) (by rfl) (by kernel_rfl) ?_
            refine WL.gon rfl rfl rfl ?_
            refine WL.call can25 rfl rfl ((show Calls _ _ #[_] _ _ from told_c (z := (foldM Z0 l).1) _ hfw hZ28 h32)) ?_
            rintro _ w33 ⟨G79, AJ79, AS79, cj79, cS79, hG79, rfl, hZ79, h33⟩
            refine ⟨_, rfl, ?_⟩
            replace hleF := Le.trans hleF hG79
            replace hR := hR.mono hG79
            replace hZi := hZi.mono hG79
            replace hZ28 := hZ28.mono hG79
            replace hZ77 := hZ77.mono hG79
            refine WL.nil (WE.next ?_)
            refine WE.op (.inr (h33.weak (Le.trans hG77 hG79))) (i := 8) (by rfl) (by kernel_rfl) ?_
            refine WL.gon rfl rfl rfl ?_
            refine WL.call can24 rfl rfl ((show Calls _ _ #[_, _] _ _ from qsameT _ hie hfi hZ77 hZ79 h33)) ?_
            rintro _ w34 ⟨rfl, h34⟩
            refine ⟨_, rfl, ?_⟩
            refine WL.nil (WE.next ?_)
            refine WE.p0 hx 9 (by rfl) (fun w_ => Runs.pick rfl rfl rfl) rfl ?_
            refine WE.p0 hx 10 (by rfl) (fun w_ => Runs.move rfl) rfl ?_
            refine WE.op (.inr (h34.weak (Le.trans hG77 hG79))) (i := 11) (by rfl) (by kernel_rfl) ?_
            refine WL.gon rfl rfl rfl ?_
            refine WL.call can10 rfl rfl (live_c _ h34) ?_
            rintro _ w35 ⟨G83, hG83, rfl, h35⟩
            refine ⟨_, rfl, ?_⟩
            replace hleF := Le.trans hleF hG83
            replace hR := hR.mono hG83
            replace hZi := hZi.mono hG83
            replace hZ28 := hZ28.mono hG83
            replace hZ77 := hZ77.mono hG83
            replace hZ79 := hZ79.mono hG83
            refine WL.nil (WE.next ?_)
            refine WE.p0 hx 12 (by rfl) (fun w_ => Runs.pick rfl rfl rfl) rfl ?_
            refine WE.p0 hx 13 (by rfl) (fun w_ => Runs.assign rfl) rfl ?_
            refine WE.fin (.inr (h35.weak (Le.trans (Le.trans hG77 hG79) hG83))) (by kernel_rfl) ?_
            refine WN.thn (WC.ret ?_)
            have h90 := ((h35.drop 0).drop 0)
            try simp only [List.eraseIdx_cons_zero] at h90
            exact ret1 rfl rfl ⟨rfl, h90.weak hleF⟩
end Rc
end Go.Proofs.Ythejglgnoingfaa
