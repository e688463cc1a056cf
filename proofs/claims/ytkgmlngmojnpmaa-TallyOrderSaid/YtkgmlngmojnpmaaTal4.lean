/- Walks of package tally: votes, exits, what is missing. -/
import Derived.Test.YtkgmlngmojnpmaaProg
import Derived.Test.YtkgmlngmojnpmaaTal3
namespace Go.Proofs.Ytkgmlngmojnpmaa
open Go Go.RowKit B
set_option linter.unusedVariables false
set_option linter.unusedSimpArgs false
namespace Tal

theorem can13 : B.Can Try.prog 13 := ⟨_, Try.func13, by kernel_rfl, rfl⟩   -- (*roundhouse/tally.Tally).State
theorem can20 : B.Can Try.prog 20 := ⟨_, Try.func20, by kernel_rfl, rfl⟩   -- roundhouse/tally.Worst
theorem can33 : B.Can Try.prog 33 := ⟨_, Try.func33, by kernel_rfl, rfl⟩   -- roundhouse/tally.say[bool]
theorem can34 : B.Can Try.prog 34 := ⟨_, Try.func34, by kernel_rfl, rfl⟩   -- roundhouse/tally.say[int]
theorem TR.mono {F G : Snap} {cs : List Res} {bt i j mv mc : Nat} {lv lc : List (Int × Value)} {t : T} (hle : Le F G) (h : TR F cs bt i j mv mc lv lc t) : TR G cs bt i j mv mc lv lc t := by
  obtain ⟨⟨A, cap, h1, h2⟩, h3, h4, h5, h6, h7, h8, h9, h10, h11, h12⟩ := h
  exact ⟨⟨A, cap, cellF_le hle h1, h2.mono hle⟩, cellF_le hle h3, cellF_le hle h4, h5, h6, h7.mono hle, h8.mono hle, h9, h10, h11, h12⟩
theorem TR.vote {F G : Snap} {cs : List Res} {bt i j mv mc : Nat} {lv lc : List (Int × Value)} {t : T} {l1 : List (Int × Value)} {vs' : List (Option Bool)} (h : TR F cs bt i j mv mc lv lc t) (hle : Le F G) (hm : MR Value.bool G t.ns vs' l1) : TR G (cs.set i [(mv, mobj l1)]) bt i j mv mc l1 lc { t with vs := vs' } := by
  obtain ⟨⟨A, cap, h1, h2⟩, h3, h4, h5, h6, h7, h8, h9, h10, h11, h12⟩ := h
  exact ⟨⟨A, cap, cellF_le hle h1, h2.mono hle⟩, cellF_le hle h3, cellF_le hle h4, by rw [List.getElem?_set_self (List.getElem?_eq_some_iff.1 h5).1], by rw [List.getElem?_set_ne h12]; exact h6, hm, h8.mono hle, h9, h10, h11, h12⟩
theorem TR.exit {F G : Snap} {cs : List Res} {bt i j mv mc : Nat} {lv lc : List (Int × Value)} {t : T} {l1 : List (Int × Value)} {cs' : List (Option Int)} (h : TR F cs bt i j mv mc lv lc t) (hle : Le F G) (hm : MR Vi G t.ns cs' l1) : TR G (cs.set j [(mc, mobj l1)]) bt i j mv mc lv l1 { t with cs := cs' } := by
  obtain ⟨⟨A, cap, h1, h2⟩, h3, h4, h5, h6, h7, h8, h9, h10, h11, h12⟩ := h
  exact ⟨⟨A, cap, cellF_le hle h1, h2.mono hle⟩, cellF_le hle h3, cellF_le hle h4, by rw [List.getElem?_set_ne (Ne.symm h12)]; exact h5, by rw [List.getElem?_set_self (List.getElem?_eq_some_iff.1 h6).1], h7.mono hle, hm, h9, h10, h11, h12⟩
theorem exit_no {t : T} {n c : Int} (h : c < 0 ∨ 255 < c) : t.exit n c = (1, t) := if_pos h
theorem exit_yes {t : T} {n c : Int} (h : ¬ (c < 0 ∨ 255 < c)) : t.exit n c = ((say t.ns t.cs n c (decide (t.state = 1))).1, { t with cs := (say t.ns t.cs n c (decide (t.state = 1))).2 }) := if_neg h
set_option maxRecDepth 100000 in
set_option maxHeartbeats 1000000 in
theorem vote_c {W : World} {F : Snap} {cs : List Res} (w : World) (n : Int) (b : Bool) {bt i j mv mc : Nat} {lv lc : List (Int × Value)} {t : T} (h : St W F cs w) (ht : TR F cs bt i j mv mc lv lc t) : Calls Try.prog 22 #[.pointer (some ⟨bt, 0, none⟩), Vi n, .bool b] w fun e w' => ∃ G lv', Le F G ∧ e = .returned (Vi (t.vote n b).1) ∧ St W G (cs.set i [(mv, mobj lv')]) w' ∧ TR G (cs.set i [(mv, mobj lv')]) bt i j mv mc lv' lc (t.vote n b).2  := by
  refine enter (P := Try.prog) (args := [.pointer (some ⟨bt, 0, none⟩), Vi n, .bool b]) Try.func22 rfl rfl rfl ?_
  obtain ⟨A, cap, hs0, hR⟩ := ht.s0
  have hpos := ht.pos
  have hsmall := ht.small
  refine WC.seq ?_
  refine WC.reg ?_
  refine WL.v (Runs.assign rfl) rfl ?_
  refine WL.nil ?_
  refine WN.thn ?_
  refine WC.seq ?_
  refine WC.seq ?_
  refine WC.reg ?_
  refine WL.v (Runs.move rfl) rfl ?_
  refine WL.v (Runs.peql Try.underlying25 rfl rfl) rfl ?_
  refine WL.nil ?_
  refine WN.thn ?_
  refine WC.condF rfl (rfl) ?_
  refine WC.skip ?_
  refine WN.thn ?_
  refine WC.seq ?_
  refine WC.dreg (fun w_ => St W _ _ w_) (fun k => Nat.beq k 9) mixed (by kernel_rfl) (h.drew) (fun hx => ?_)
  refine WM.pure hx (by rfl) rfl (fun w_ => Runs.move rfl) rfl ?_
  refine WM.pure hx (by rfl) rfl (fun w_ => Runs.nilCheckP rfl) rfl ?_
  refine WM.pure hx (by rfl) rfl (fun w_ => Runs.fld fld49_1 rfl) rfl ?_
  refine WM.val 12 hx (by rfl) rfl (by kernel_rfl) (fun w_ hC_ => Runs.load1 Try.underlying44 rfl rfl (hC_.cell ht.s1)) rfl ?_
  refine WM.pure hx (by rfl) rfl (fun w_ => Runs.move rfl) rfl ?_
  refine WM.pure hx (by rfl) rfl (fun w_ => Runs.move rfl) rfl ?_
  refine WM.pure hx (by rfl) rfl (fun w_ => Runs.move rfl) rfl ?_
  refine WM.call 12 hx (by rfl) rfl (by kernel_rfl) can13 rfl rfl (fun w_ hC_ => state_c _ hC_ ht) ?_
  refine WM.pure hx (by rfl) rfl (fun w_ => Runs.eql rfl rfl) rfl ?_
  refine WM.toD hx rfl (by decide) (by kernel_rfl) ?_
  intro w1 h1
  refine WD.op (by rfl) rfl (by kernel_rfl) ?_
  refine WL.call can33 rfl rfl (say_bool _ i n b _ h1 ht.iv ht.rv) ?_
  rintro _ w2 ⟨G, l1, hle, rfl, hm1, h2⟩
  refine ⟨_, rfl, ?_⟩
  refine WL.nil ?_
  refine WD.next ?_
  refine WD.pure hx (by rfl) (fun w_ => Runs.assign rfl) rfl ?_
  refine WD.fin rfl (by kernel_rfl) ?_
  refine WN.thn ?_
  refine WC.ret ?_
  exact ret1 rfl rfl ⟨G, l1, hle, rfl, h2, ht.vote hle hm1⟩
set_option maxRecDepth 100000 in
set_option maxHeartbeats 1000000 in
theorem exit_1 {W : World} {F : Snap} {cs : List Res} (w : World) (n c : Int) {bt i j mv mc : Nat} {lv lc : List (Int × Value)} {t : T} (h : St W F cs w) (ht : TR F cs bt i j mv mc lv lc t) (hc : c < 0) : Calls Try.prog 23 #[.pointer (some ⟨bt, 0, none⟩), Vi n, Vi c] w fun e w' => ∃ G lc', Le F G ∧ e = .returned (Vi (t.exit n c).1) ∧ St W G (cs.set j [(mc, mobj lc')]) w' ∧ TR G (cs.set j [(mc, mobj lc')]) bt i j mv mc lv lc' (t.exit n c).2  := by
  refine enter (P := Try.prog) (args := [.pointer (some ⟨bt, 0, none⟩), Vi n, Vi c]) Try.func23 rfl rfl rfl ?_
  obtain ⟨A, cap, hs0, hR⟩ := ht.s0
  have hpos := ht.pos
  have hsmall := ht.small
  have hbad : c < 0 ∨ 255 < c := by omega
  refine WC.seq ?_
  refine WC.reg ?_
  refine WL.v (Runs.assign rfl) rfl ?_
  refine WL.nil ?_
  refine WN.thn ?_
  refine WC.seq ?_
  refine WC.seq ?_
  refine WC.reg ?_
  refine WL.v (Runs.move rfl) rfl ?_
  refine WL.v (Runs.peql Try.underlying25 rfl rfl) rfl ?_
  refine WL.v (Runs.move rfl) rfl ?_
  refine WL.gon rfl rfl rfl ?_
  refine WL.v (Runs.move rfl) rfl ?_
  refine WL.gon rfl rfl rfl ?_
  refine WL.v (Runs.boolT (c := true) (Runs.lss rfl rfl) (by rw [decide_eq_true_eq]; omega)) rfl ?_
  refine WL.v (Runs.pick rfl rfl rfl) rfl ?_
  refine WL.v (Runs.move rfl) rfl ?_
  refine WL.goff rfl rfl rfl rfl ?_
  refine WL.goff rfl rfl rfl rfl ?_
  refine WL.v (Runs.pick rfl rfl rfl) rfl ?_
  refine WL.nil ?_
  refine WN.thn ?_
  refine WC.condT rfl (rfl) ?_
  refine WC.seq ?_
  refine WC.reg ?_
  refine WL.v (Runs.assign rfl) rfl ?_
  refine WL.nil ?_
  refine WN.thn ?_
  refine WC.ret ?_
  refine ret1 rfl rfl ⟨F, lc, Le.refl _, ?_, by rw [set_self ht.ic]; exact h, by rw [set_self ht.ic, exit_no hbad]; exact ht⟩
  rw [exit_no hbad]
set_option maxRecDepth 100000 in
set_option maxHeartbeats 1000000 in
theorem exit_2 {W : World} {F : Snap} {cs : List Res} (w : World) (n c : Int) {bt i j mv mc : Nat} {lv lc : List (Int × Value)} {t : T} (h : St W F cs w) (ht : TR F cs bt i j mv mc lv lc t) (h0 : 0 ≤ c) (hc : 255 < c) : Calls Try.prog 23 #[.pointer (some ⟨bt, 0, none⟩), Vi n, Vi c] w fun e w' => ∃ G lc', Le F G ∧ e = .returned (Vi (t.exit n c).1) ∧ St W G (cs.set j [(mc, mobj lc')]) w' ∧ TR G (cs.set j [(mc, mobj lc')]) bt i j mv mc lv lc' (t.exit n c).2  := by
  refine enter (P := Try.prog) (args := [.pointer (some ⟨bt, 0, none⟩), Vi n, Vi c]) Try.func23 rfl rfl rfl ?_
  obtain ⟨A, cap, hs0, hR⟩ := ht.s0
  have hpos := ht.pos
  have hsmall := ht.small
  have hbad : c < 0 ∨ 255 < c := by omega
  refine WC.seq ?_
  refine WC.reg ?_
  refine WL.v (Runs.assign rfl) rfl ?_
  refine WL.nil ?_
  refine WN.thn ?_
  refine WC.seq ?_
  refine WC.seq ?_
  refine WC.reg ?_
  refine WL.v (Runs.move rfl) rfl ?_
  refine WL.v (Runs.peql Try.underlying25 rfl rfl) rfl ?_
  refine WL.v (Runs.move rfl) rfl ?_
  refine WL.gon rfl rfl rfl ?_
  refine WL.v (Runs.move rfl) rfl ?_
  refine WL.gon rfl rfl rfl ?_
  refine WL.v (Runs.boolT (c := false) (Runs.lss rfl rfl) (by rw [decide_eq_false_iff_not]; omega)) rfl ?_
  refine WL.v (Runs.pick rfl rfl rfl) rfl ?_
  refine WL.v (Runs.move rfl) rfl ?_
  refine WL.gon rfl rfl rfl ?_
  refine WL.v (Runs.move rfl) rfl ?_
  refine WL.gon rfl rfl rfl ?_
  refine WL.v (Runs.boolT (c := true) (Runs.gtr rfl rfl) (by rw [decide_eq_true_eq]; omega)) rfl ?_
  refine WL.v (Runs.pick rfl rfl rfl) rfl ?_
  refine WL.nil ?_
  refine WN.thn ?_
  refine WC.condT rfl (rfl) ?_
  refine WC.seq ?_
  refine WC.reg ?_
  refine WL.v (Runs.assign rfl) rfl ?_
  refine WL.nil ?_
  refine WN.thn ?_
  refine WC.ret ?_
  refine ret1 rfl rfl ⟨F, lc, Le.refl _, ?_, by rw [set_self ht.ic]; exact h, by rw [set_self ht.ic, exit_no hbad]; exact ht⟩
  rw [exit_no hbad]
set_option maxRecDepth 100000 in
set_option maxHeartbeats 1000000 in
theorem exit_3 {W : World} {F : Snap} {cs : List Res} (w : World) (n c : Int) {bt i j mv mc : Nat} {lv lc : List (Int × Value)} {t : T} (h : St W F cs w) (ht : TR F cs bt i j mv mc lv lc t) (h0 : 0 ≤ c) (hc : c ≤ 255) : Calls Try.prog 23 #[.pointer (some ⟨bt, 0, none⟩), Vi n, Vi c] w fun e w' => ∃ G lc', Le F G ∧ e = .returned (Vi (t.exit n c).1) ∧ St W G (cs.set j [(mc, mobj lc')]) w' ∧ TR G (cs.set j [(mc, mobj lc')]) bt i j mv mc lv lc' (t.exit n c).2  := by
  refine enter (P := Try.prog) (args := [.pointer (some ⟨bt, 0, none⟩), Vi n, Vi c]) Try.func23 rfl rfl rfl ?_
  obtain ⟨A, cap, hs0, hR⟩ := ht.s0
  have hpos := ht.pos
  have hsmall := ht.small
  have hbad : ¬ (c < 0 ∨ 255 < c) := by omega
  refine WC.seq ?_
  refine WC.reg ?_
  refine WL.v (Runs.assign rfl) rfl ?_
  refine WL.nil ?_
  refine WN.thn ?_
  refine WC.seq ?_
  refine WC.seq ?_
  refine WC.reg ?_
  refine WL.v (Runs.move rfl) rfl ?_
  refine WL.v (Runs.peql Try.underlying25 rfl rfl) rfl ?_
  refine WL.v (Runs.move rfl) rfl ?_
  refine WL.gon rfl rfl rfl ?_
  refine WL.v (Runs.move rfl) rfl ?_
  refine WL.gon rfl rfl rfl ?_
  refine WL.v (Runs.boolT (c := false) (Runs.lss rfl rfl) (by rw [decide_eq_false_iff_not]; omega)) rfl ?_
  refine WL.v (Runs.pick rfl rfl rfl) rfl ?_
  refine WL.v (Runs.move rfl) rfl ?_
  refine WL.gon rfl rfl rfl ?_
  refine WL.v (Runs.move rfl) rfl ?_
  refine WL.gon rfl rfl rfl ?_
  refine WL.v (Runs.boolT (c := false) (Runs.gtr rfl rfl) (by rw [decide_eq_false_iff_not]; omega)) rfl ?_
  refine WL.v (Runs.pick rfl rfl rfl) rfl ?_
  refine WL.nil ?_
  refine WN.thn ?_
  refine WC.condF rfl (rfl) ?_
  refine WC.skip ?_
  refine WN.thn ?_
  refine WC.seq ?_
  refine WC.dreg (fun w_ => St W _ _ w_) (fun k => Nat.beq k 9) mixed (by kernel_rfl) (h.drew) (fun hx => ?_)
  refine WM.pure hx (by rfl) rfl (fun w_ => Runs.move rfl) rfl ?_
  refine WM.pure hx (by rfl) rfl (fun w_ => Runs.nilCheckP rfl) rfl ?_
  refine WM.pure hx (by rfl) rfl (fun w_ => Runs.fld fld49_2 rfl) rfl ?_
  refine WM.val 12 hx (by rfl) rfl (by kernel_rfl) (fun w_ hC_ => Runs.load1 Try.underlying46 rfl rfl (hC_.cell ht.s2)) rfl ?_
  refine WM.pure hx (by rfl) rfl (fun w_ => Runs.move rfl) rfl ?_
  refine WM.pure hx (by rfl) rfl (fun w_ => Runs.move rfl) rfl ?_
  refine WM.pure hx (by rfl) rfl (fun w_ => Runs.move rfl) rfl ?_
  refine WM.call 12 hx (by rfl) rfl (by kernel_rfl) can13 rfl rfl (fun w_ hC_ => state_c _ hC_ ht) ?_
  refine WM.pure hx (by rfl) rfl (fun w_ => Runs.eql rfl rfl) rfl ?_
  refine WM.toD hx rfl (by decide) (by kernel_rfl) ?_
  intro w1 h1
  refine WD.op (by rfl) rfl (by kernel_rfl) ?_
  refine WL.call can34 rfl rfl (say_int _ j n c _ h1 ht.ic ht.rc) ?_
  rintro _ w2 ⟨G, l1, hle, rfl, hm1, h2⟩
  refine ⟨_, rfl, ?_⟩
  refine WL.nil ?_
  refine WD.next ?_
  refine WD.pure hx (by rfl) (fun w_ => Runs.assign rfl) rfl ?_
  refine WD.fin rfl (by kernel_rfl) ?_
  refine WN.thn ?_
  refine WC.ret ?_
  refine ret1 rfl rfl ⟨G, l1, hle, ?_, h2, ?_⟩
  · rw [exit_yes hbad]
  · rw [exit_yes hbad]; exact ht.exit hle hm1
theorem exit_c {W : World} {F : Snap} {cs : List Res} (w : World) (n c : Int) {bt i j mv mc : Nat} {lv lc : List (Int × Value)} {t : T} (h : St W F cs w) (ht : TR F cs bt i j mv mc lv lc t) : Calls Try.prog 23 #[.pointer (some ⟨bt, 0, none⟩), Vi n, Vi c] w fun e w' => ∃ G lc', Le F G ∧ e = .returned (Vi (t.exit n c).1) ∧ St W G (cs.set j [(mc, mobj lc')]) w' ∧ TR G (cs.set j [(mc, mobj lc')]) bt i j mv mc lv lc' (t.exit n c).2 := by
  by_cases h1 : c < 0
  · exact exit_1 w n c h ht h1
  · by_cases h2 : 255 < c
    · exact exit_2 w n c h ht (by omega) h2
    · exact exit_3 w n c h ht (by omega) (by omega)
theorem codes_all {t : T} (hl : t.cs.length = t.ns.length) (h : t.state = 3) : ∀ o ∈ t.cs, o.isSome = true := by
  unfold T.state at h
  split at h
  · cases h
  · split at h
    · cases h
    · split at h
      · cases h
      · rename_i h3
        exact (miss_none hl).1 (List.eq_nil_of_length_eq_zero (by omega))
theorem look_at {ns : List Int} {os : List (Option Int)} : ∀ {k : Nat}, ns.Nodup → os.length = ns.length → k < ns.length → look (ns.getD k 0) ns os = some (os.getD k none) := by
  induction ns generalizing os with
  | nil => intro k _ _ h; simp at h
  | cons m ns ih =>
    intro k hd hl hk
    cases os with
    | nil => simp at hl
    | cons o os =>
      have hd' := List.nodup_cons.1 hd
      cases k with
      | zero => simp [look]
      | succ k =>
        simp only [List.length_cons, Nat.add_lt_add_iff_right] at hk hl
        have hne : ns.getD k 0 ≠ m := fun e => hd'.1 (e ▸ mem_at hk)
        have := ih (os := os) hd'.2 (by simpa using hl) hk
        unfold look
        simp only [List.getD_cons_succ]
        rw [if_neg hne]
        exact this
theorem code_at {F : Snap} {ns : List Int} {os : List (Option Int)} {l : List (Int × Value)} {k : Nat} (hm : MR Vi F ns os l) (hd : ns.Nodup) (hk : k < ns.length) (ha : ∀ o ∈ os, o.isSome = true) : ∃ a, ((mfind (ns.getD k 0) l 0).map (·.2)).getD (.pointer none) = .pointer (some a) ∧ cellF F a = some (Vi ((os.map (·.getD 0)).getD k 0)) := by
  have hl := hm.len
  have h1 := look_at hd hl.1 hk
  rcases hm.find (ns.getD k 0) 0 with ⟨h2, _⟩ | ⟨o, i', v, h2, h3, h4⟩
  · rw [h1] at h2; cases h2
  · rw [h1] at h2
    simp only [Option.some.injEq] at h2
    have hk' : k < os.length := by omega
    have e : os.getD k none = os[k] := by rw [List.getD_eq_getElem?_getD, List.getElem?_eq_getElem hk']; rfl
    have hs := ha os[k] (List.getElem_mem hk')
    rw [e] at h2
    subst h2
    have e2 : (os.map (·.getD 0)).getD k 0 = (os[k]).getD 0 := by simp [List.getD_eq_getElem?_getD, List.getElem?_eq_getElem hk']
    rw [h3, e2]
    cases h5 : os[k] with
    | none => rw [h5] at hs; cases hs
    | some x =>
      rw [h5] at h4
      obtain ⟨a, h6, h7⟩ := h4
      exact ⟨a, by rw [← h6]; rfl, h7⟩
set_option maxRecDepth 100000 in
set_option maxHeartbeats 1000000 in
theorem code_c {W : World} {F : Snap} {cs : List Res} (w : World) {bt i j mv mc : Nat} {lv lc : List (Int × Value)} {t : T} (h : St W F cs w) (ht : TR F cs bt i j mv mc lv lc t) : Calls Try.prog 15 #[.pointer (some ⟨bt, 0, none⟩)] w fun e w' => e = .returned (Vi t.code) ∧ St W F cs w'  := by
  refine enter (P := Try.prog) (args := [.pointer (some ⟨bt, 0, none⟩)]) Try.func15 rfl rfl rfl ?_
  obtain ⟨A, cap, hs0, hR⟩ := ht.s0
  have hpos := ht.pos
  have hsmall := ht.small
  refine WC.seq ?_
  refine WC.reg ?_
  refine WL.v (Runs.assign rfl) rfl ?_
  refine WL.nil ?_
  refine WN.thn ?_
  refine WC.seq ?_
  refine WC.seq ?_
  refine WC.reg ?_
  refine WL.v (Runs.move rfl) rfl ?_
  refine WL.call can13 rfl rfl (state_c _ h ht) ?_
  rintro _ w1 ⟨rfl, h1⟩
  refine ⟨_, rfl, ?_⟩
  refine WL.v (Runs.neq rfl rfl) rfl ?_
  refine WL.nil ?_
  refine WN.thn ?_
  refine WC.cond rfl (fun c2 => ?_) (fun c2 => ?_)
  · try simp only [decide_eq_true_eq, decide_eq_false_iff_not, Bool.not_eq_true', Bool.not_eq_false', Bool.and_eq_true, Int.not_lt, Int.not_le] at c2
    first
    | (exfalso; omega)
    | skip
      refine WC.seq ?_
      refine WC.reg ?_
      refine WL.v (Runs.assign rfl) rfl ?_
      refine WL.nil ?_
      refine WN.thn ?_
      refine WC.ret ?_
      refine ret1 rfl rfl ⟨?_, h1⟩
      have : t.state ≠ 3 := by simp_all
      simp [T.code, this]
  · try simp only [decide_eq_true_eq, decide_eq_false_iff_not, Bool.not_eq_true', Bool.not_eq_false', Bool.and_eq_true, Int.not_lt, Int.not_le] at c2
    first
    | (exfalso; omega)
    | skip
      refine WC.skip ?_
      refine WN.thn ?_
      refine WC.seq ?_
      refine WC.reg ?_
      have hst : t.state = 3 := by simp_all
      have hall := codes_all ht.rc.len.1 hst
      have hcl := ht.rc.len.1
      obtain ⟨ad, rfl, hrd⟩ := rd1 hR hpos
      have hN0 := h1.nilRes
      refine WL.v (Runs.assign rfl) rfl ?_
      refine WL.nil ?_
      refine WN.thn ?_
      refine WC.seq ?_
      refine WC.seq ?_
      refine WC.reg ?_
      refine WL.v (Runs.move rfl) rfl ?_
      refine WL.v (Runs.nilCheckP rfl) rfl ?_
      refine WL.v (Runs.fld fld49_0 rfl) rfl ?_
      refine WL.v (Runs.load1 Try.underlying22 rfl rfl (hN0.cell hs0)) rfl ?_
      refine WL.v (Runs.llen Try.underlying22 rfl rfl) rfl ?_
      refine WL.v (Runs.move rfl) rfl ?_
      refine WL.nil ?_
      refine WN.thn ?_
      refine WC.block ?_
      refine WC.loop (σ := Nat × Res × Value) (fun q_ => [(0, .pointer (some ⟨bt, 0, none⟩)), (3, q_.2.2), (12, .slice (some ad) t.ns.length cap), (13, .int .i64 (t.ns.length : Int)), (14, .int .i64 (q_.1 : Int))]) (fun q_ w => q_.1 ≤ t.ns.length ∧ Row 3 Vi q_.2.1 q_.2.2 ((t.cs.map (·.getD 0)).take q_.1) ∧ St W F (q_.2.1 :: cs) w) (fun q_ => t.ns.length - q_.1) (⟨0, [], .slice none 0 0⟩) (by repeat (first | exact trivial | refine ⟨rfl, ?_⟩)) (⟨by omega, Row.nil _ _, hN0⟩) ?_
      rintro ⟨k, r, v⟩ w3 ⟨hk, hro, hL⟩
      try dsimp only at hk hro hL
      refine WC.sub (s := [(0, .pointer (some ⟨bt, 0, none⟩)), (3, v), (12, .slice (some ad) t.ns.length cap), (13, .int .i64 (t.ns.length : Int)), (14, .int .i64 (k : Int))]) (by repeat (first | exact trivial | refine ⟨rfl, ?_⟩)) ?_
      obtain ⟨A1, cap1, rfl, hcap⟩ := hro.val
      have hlen : ((t.cs.map (·.getD 0)).take k).length = k := by rw [List.length_take, List.length_map]; omega
      have hac := fun h => code_at (k := k) ht.rc ht.nd h hall
      refine WC.seq ?_
      refine WC.reg ?_
      refine WL.v (Runs.lss rfl rfl) rfl ?_
      refine WL.nil ?_
      refine WN.thn ?_
      refine WC.seq ?_
      refine WC.cond rfl (fun c4 => ?_) (fun c4 => ?_)
      · try simp only [decide_eq_true_eq, decide_eq_false_iff_not, Bool.not_eq_true', Bool.not_eq_false', Bool.and_eq_true, Int.not_lt, Int.not_le] at c4
        first
        | (exfalso; omega)
        | skip
          refine WC.skip ?_
          refine WN.thn ?_
          refine WC.seq ?_
          refine WC.block ?_
          refine WC.seq ?_
          obtain ⟨ac, hac1, hac2⟩ := hac (by omega)
          refine WC.reg ?_
          refine WL.v (Runs.lidxN Try.underlying22 inf3 rfl rfl (n := k) rfl (by omega)) rfl ?_
          refine WL.v (Runs.loadR (f := Vi) (0 : Int) hL hrd (n := k) (by omega) Try.underlying3 rfl rfl) rfl ?_
          refine WL.v (Runs.assign rfl) rfl ?_
          refine WL.nil ?_
          refine WN.thn ?_
          refine WC.reg ?_
          refine WL.v (Runs.move rfl) rfl ?_
          refine WL.v (Runs.move rfl) rfl ?_
          refine WL.v (Runs.nilCheckP rfl) rfl ?_
          refine WL.v (Runs.fld fld49_2 rfl) rfl ?_
          refine WL.v (Runs.load1 Try.underlying46 rfl rfl (hL.cell ht.s2)) rfl ?_
          refine WL.v (Runs.move rfl) rfl ?_
          refine WL.v (Runs.valT (u := .pointer (some ac)) (Runs.lookup1 hL (j + 1) ht.ic Try.underlying46 Try.underlying3 inf56 rfl rfl) hac1) rfl ?_
          refine WL.v (Runs.nilCheckP rfl) rfl ?_
          refine WL.v (Runs.load1 Try.underlying3 rfl rfl (hL.cell hac2)) rfl ?_
          refine WL.lit (vs := (([(t.cs.map (·.getD 0)).getD k 0] : List Int)).map Vi) hL rfl Try.underlying22 inf3 rfl rfl rfl rfl rfl ?_
          intro lit27 w5 h5
          refine WL.app (ys := ([(t.cs.map (·.getD 0)).getD k 0] : List Int)) 1 h5 rfl rfl rfl rfl Try.underlying22 Try.underlying22 (.inr ⟨_, rfl⟩) inf3 rfl hro (Src.lit h5 0 rfl rfl rfl) rfl rfl (by first | omega | (simp []; done) | (simp []; omega)) (by first | omega | (simp []; done) | (simp []; omega)) ?_
          intro r6 v6 w7 hr6 h7
          simp only [List.set_cons_zero, List.set_cons_succ] at h7
          replace h7 := h7.drop 0
          simp only [List.eraseIdx_cons_zero, List.eraseIdx_cons_succ] at h7
          refine WL.v (Runs.assign rfl) rfl ?_
          refine WL.nil ?_
          refine WN.blk ?_
          refine WN.thn ?_
          refine WC.reg ?_
          refine WL.v (Runs.addn rfl rfl (by omega)) rfl ?_
          refine WL.v (Runs.move rfl) rfl ?_
          refine WL.nil ?_
          refine WN.again (⟨k + 1, r6, v6⟩ : Nat × Res × Value) (by show t.ns.length - (k + 1) < t.ns.length - k; omega) ⟨rfl, rfl, rfl, rfl, rfl, trivial⟩ ⟨by show k + 1 ≤ _; omega, ?_, h7⟩
          have := hr6
          rwa [← take_nx (by simp; omega)] at this
      · try simp only [decide_eq_true_eq, decide_eq_false_iff_not, Bool.not_eq_true', Bool.not_eq_false', Bool.and_eq_true, Int.not_lt, Int.not_le] at c4
        first
        | (exfalso; omega)
        | skip
          refine WC.exit ?_
          refine WX.thn ?_
          refine WX.cut ?_
          refine WX.hit ?_
          refine WN.thn ?_
          refine WC.seq ?_
          refine WC.reg ?_
          obtain rfl : k = t.ns.length := by omega
          obtain ⟨G, A2, cap2, hle, e2, hc2, hR2, hF⟩ := Row.gives hro hL
          injection e2 with e2
          obtain ⟨rfl, _, rfl⟩ := Value.slice.inj e2
          refine WL.v (Runs.move rfl) rfl ?_
          refine WL.call can20 rfl rfl (worst_c _ _ hF hR2 (by rw [hlen]; omega)) ?_
          rintro _ w8 ⟨rfl, h8⟩
          refine ⟨_, rfl, ?_⟩
          refine WL.v (Runs.assign rfl) rfl ?_
          refine WL.nil ?_
          refine WN.thn ?_
          refine WC.ret ?_
          refine ret1 rfl rfl ⟨?_, h8.weak hle⟩
          rw [List.take_of_length_le (by simp; omega)]
          simp [T.code, hst]
set_option maxRecDepth 100000 in
set_option maxHeartbeats 1000000 in
theorem missing_c {W : World} {F : Snap} {cs : List Res} (w : World) {bt i j mv mc : Nat} {lv lc : List (Int × Value)} {t : T} (h : St W F cs w) (ht : TR F cs bt i j mv mc lv lc t) : Calls Try.prog 18 #[.pointer (some ⟨bt, 0, none⟩)] w (Gives W F cs Vi t.missing)  := by
  refine enter (P := Try.prog) (args := [.pointer (some ⟨bt, 0, none⟩)]) Try.func18 rfl rfl rfl ?_
  obtain ⟨A, cap, hs0, hR⟩ := ht.s0
  have hpos := ht.pos
  have hsmall := ht.small
  refine WC.seq ?_
  refine WC.reg ?_
  refine WL.v (Runs.assign rfl) rfl ?_
  refine WL.nil ?_
  refine WN.thn ?_
  refine WC.seq ?_
  refine WC.block ?_
  refine WC.seq ?_
  refine WC.reg ?_
  refine WL.v (Runs.move rfl) rfl ?_
  refine WL.v (Runs.peql Try.underlying25 rfl rfl) rfl ?_
  refine WL.v (Runs.assign rfl) rfl ?_
  refine WL.nil ?_
  refine WN.thn ?_
  refine WC.condF rfl (rfl) ?_
  refine WC.seq ?_
  refine WC.reg ?_
  refine WL.v (Runs.move rfl) rfl ?_
  refine WL.call can13 rfl rfl (state_c _ h ht) ?_
  rintro _ w1 ⟨rfl, h1⟩
  refine ⟨_, rfl, ?_⟩
  refine WL.v (Runs.eql rfl rfl) rfl ?_
  refine WL.v (Runs.assign rfl) rfl ?_
  refine WL.nil ?_
  refine WN.thn ?_
  refine WC.cond rfl (fun c2 => ?_) (fun c2 => ?_)
  · try simp only [decide_eq_true_eq, decide_eq_false_iff_not, Bool.not_eq_true', Bool.not_eq_false', Bool.and_eq_true, Int.not_lt, Int.not_le] at c2
    first
    | (exfalso; omega)
    | skip
      refine WC.seq ?_
      refine WC.dreg (fun w_ => St W _ _ w_) (fun k => Nat.beq k 8) mixed (by kernel_rfl) (h1.drew) (fun hx => ?_)
      refine WM.pure hx (by rfl) rfl (fun w_ => Runs.move rfl) rfl ?_
      refine WM.pure hx (by rfl) rfl (fun w_ => Runs.nilCheckP rfl) rfl ?_
      refine WM.pure hx (by rfl) rfl (fun w_ => Runs.fld fld49_0 rfl) rfl ?_
      refine WM.val 12 hx (by rfl) rfl (by kernel_rfl) (fun w_ hC_ => Runs.load1 Try.underlying22 rfl rfl (hC_.cell hs0)) rfl ?_
      refine WM.pure hx (by rfl) rfl (fun w_ => Runs.move rfl) rfl ?_
      refine WM.pure hx (by rfl) rfl (fun w_ => Runs.nilCheckP rfl) rfl ?_
      refine WM.pure hx (by rfl) rfl (fun w_ => Runs.fld fld49_1 rfl) rfl ?_
      refine WM.val 12 hx (by rfl) rfl (by kernel_rfl) (fun w_ hC_ => Runs.load1 Try.underlying44 rfl rfl (hC_.cell ht.s1)) rfl ?_
      refine WM.toD hx rfl (by decide) (by kernel_rfl) ?_
      intro w3 h3
      refine WD.op (by rfl) rfl (by kernel_rfl) ?_
      refine WL.call can29 rfl rfl (silent_bool _ i h3 ht.iv ht.rv hR ht.pos ht.nd (by omega)) ?_
      rintro _ w4 ⟨G5, A5, cap5, hle5, rfl, hc5, hrd5, h4⟩
      refine ⟨_, rfl, ?_⟩
      refine WL.nil ?_
      refine WD.next ?_
      refine WD.pure hx (by rfl) (fun w_ => Runs.assign rfl) rfl ?_
      refine WD.fin rfl (by kernel_rfl) ?_
      refine WN.thn ?_
      refine WC.ret ?_
      have hst : t.state = 0 := by simp_all
      refine ret1 rfl rfl ?_
      have e : t.missing = miss t.ns t.vs := by simp [T.missing, hst]
      rw [e]
      exact ⟨_, _, _, hle5, rfl, hc5, hrd5, h4⟩
  · try simp only [decide_eq_true_eq, decide_eq_false_iff_not, Bool.not_eq_true', Bool.not_eq_false', Bool.and_eq_true, Int.not_lt, Int.not_le] at c2
    first
    | (exfalso; omega)
    | skip
      refine WC.seq ?_
      refine WC.reg ?_
      refine WL.v (Runs.move rfl) rfl ?_
      refine WL.call can13 rfl rfl (state_c _ h1 ht) ?_
      rintro _ w6 ⟨rfl, h6⟩
      refine ⟨_, rfl, ?_⟩
      refine WL.v (Runs.eql rfl rfl) rfl ?_
      refine WL.v (Runs.assign rfl) rfl ?_
      refine WL.nil ?_
      refine WN.thn ?_
      refine WC.cond rfl (fun c7 => ?_) (fun c7 => ?_)
      · try simp only [decide_eq_true_eq, decide_eq_false_iff_not, Bool.not_eq_true', Bool.not_eq_false', Bool.and_eq_true, Int.not_lt, Int.not_le] at c7
        first
        | (exfalso; omega)
        | skip
          refine WC.seq ?_
          refine WC.dreg (fun w_ => St W _ _ w_) (fun k => Nat.beq k 8) mixed (by kernel_rfl) (h6.drew) (fun hx => ?_)
          refine WM.pure hx (by rfl) rfl (fun w_ => Runs.move rfl) rfl ?_
          refine WM.pure hx (by rfl) rfl (fun w_ => Runs.nilCheckP rfl) rfl ?_
          refine WM.pure hx (by rfl) rfl (fun w_ => Runs.fld fld49_0 rfl) rfl ?_
          refine WM.val 12 hx (by rfl) rfl (by kernel_rfl) (fun w_ hC_ => Runs.load1 Try.underlying22 rfl rfl (hC_.cell hs0)) rfl ?_
          refine WM.pure hx (by rfl) rfl (fun w_ => Runs.move rfl) rfl ?_
          refine WM.pure hx (by rfl) rfl (fun w_ => Runs.nilCheckP rfl) rfl ?_
          refine WM.pure hx (by rfl) rfl (fun w_ => Runs.fld fld49_2 rfl) rfl ?_
          refine WM.val 12 hx (by rfl) rfl (by kernel_rfl) (fun w_ hC_ => Runs.load1 Try.underlying46 rfl rfl (hC_.cell ht.s2)) rfl ?_
          refine WM.toD hx rfl (by decide) (by kernel_rfl) ?_
          intro w8 h8
          refine WD.op (by rfl) rfl (by kernel_rfl) ?_
          refine WL.call can30 rfl rfl (silent_int _ j h8 ht.ic ht.rc hR ht.pos ht.nd (by omega)) ?_
          rintro _ w9 ⟨G10, A10, cap10, hle10, rfl, hc10, hrd10, h9⟩
          refine ⟨_, rfl, ?_⟩
          refine WL.nil ?_
          refine WD.next ?_
          refine WD.pure hx (by rfl) (fun w_ => Runs.assign rfl) rfl ?_
          refine WD.fin rfl (by kernel_rfl) ?_
          refine WN.thn ?_
          refine WC.ret ?_
          have hst : t.state = 1 := by simp_all
          refine ret1 rfl rfl ?_
          have e : t.missing = miss t.ns t.cs := by simp [T.missing, hst]
          rw [e]
          exact ⟨_, _, _, hle10, rfl, hc10, hrd10, h9⟩
      · try simp only [decide_eq_true_eq, decide_eq_false_iff_not, Bool.not_eq_true', Bool.not_eq_false', Bool.and_eq_true, Int.not_lt, Int.not_le] at c7
        first
        | (exfalso; omega)
        | skip
          refine WC.skip ?_
          refine WN.blk ?_
          refine WN.thn ?_
          refine WC.seq ?_
          refine WC.reg ?_
          refine WL.v (Runs.assign rfl) rfl ?_
          refine WL.nil ?_
          refine WN.thn ?_
          refine WC.ret ?_
          have hst : t.state ≠ 0 := by simp_all
          have hst1 : t.state ≠ 1 := by simp_all
          refine ret1 rfl rfl ?_
          have e : t.missing = [] := by simp [T.missing, hst, hst1]
          rw [e]
          exact ⟨_, _, _, Le.refl _, rfl, Nat.le_refl _, .inl rfl, h6⟩
end Tal
end Go.Proofs.Ytkgmlngmojnpmaa
