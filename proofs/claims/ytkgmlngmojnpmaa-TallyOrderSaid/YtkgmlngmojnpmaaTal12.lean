/- Chapter 14: a call on both sides. -/
import Derived.Test.YtkgmlngmojnpmaaProg
import Derived.Test.YtkgmlngmojnpmaaTal11
namespace Go.Proofs.Ytkgmlngmojnpmaa
open Go Go.RowKit B
set_option linter.unusedVariables false
set_option linter.unusedSimpArgs false
namespace Tal

theorem fld31_0 : fldB Try.prog 31 0 0 = true := by kernel_rfl
theorem fld31_1 : fldB Try.prog 31 1 1 = true := by kernel_rfl
theorem fld31_2 : fldB Try.prog 31 2 2 = true := by kernel_rfl
theorem fld31_3 : fldB Try.prog 31 3 3 = true := by kernel_rfl
theorem can27 : B.Can Try.prog 27 := ⟨_, Try.func27, by kernel_rfl, rfl⟩   -- (*roundhouse/roundhouseref14.Tally).Vote
theorem can28 : B.Can Try.prog 28 := ⟨_, Try.func28, by kernel_rfl, rfl⟩   -- (*roundhouse/roundhouseref14.Tally).Exit
set_option maxRecDepth 100000 in
set_option maxHeartbeats 2000000 in
theorem does_v {W : World} {F : Snap} {cs : List Res} (w : World) {a b : Nat} {mv mc bv bc : Nat} {lv lc : List (Int × Value)} {zv zc : List Value} {fv fc : Nat × Nat} {t : T} (n : Int) (y : Bool) (c : Int) (h : St W F ([(mv, mobj lv)] :: [(mc, mobj lc)] :: [(bv, .cells ((t.vs.map eV).map Vi ++ zv).toArray 3 fv)] :: [(bc, .cells ((t.cs.map eC).map Vi ++ zc).toArray 3 fc)] :: cs) w) (ht : TR F ([(mv, mobj lv)] :: [(mc, mobj lc)] :: [(bv, .cells ((t.vs.map eV).map Vi ++ zv).toArray 3 fv)] :: [(bc, .cells ((t.cs.map eC).map Vi ++ zc).toArray 3 fc)] :: cs) a 0 1 mv mc lv lc t) (hr : RR F ([(mv, mobj lv)] :: [(mc, mobj lc)] :: [(bv, .cells ((t.vs.map eV).map Vi ++ zv).toArray 3 fv)] :: [(bc, .cells ((t.cs.map eC).map Vi ++ zc).toArray 3 fc)] :: cs) b 2 3 bv bc zv zc fv fc t) : Calls Try.prog 12 #[.pointer (some ⟨a, 0, none⟩), .pointer (some ⟨b, 0, none⟩), .agg #[.bool true, Vi n, .bool y, Vi c]] w fun e w' => ∃ G p', Le F G ∧ e = .returned (.bool true) ∧ Pr G p' a b (t.does ⟨true, n, y, c⟩) ∧ St W G (p' ++ cs) w'  := by
  refine enter (P := Try.prog) (args := [.pointer (some ⟨a, 0, none⟩), .pointer (some ⟨b, 0, none⟩), .agg #[.bool true, Vi n, .bool y, Vi c]]) Try.func12 rfl rfl rfl ?_
  refine WC.seq ?_
  refine WC.reg ?_
  refine WL.box rfl h rfl ?_
  intro b5 w1 h1
  refine WL.v (Runs.assign rfl) rfl ?_
  refine WL.nil ?_
  refine WN.thn ?_
  refine WC.seq ?_
  refine WC.seq ?_
  obtain ⟨G0, hle0, g0, S0⟩ := h1.freeze (i := 0) rfl
  have hk0 : cellF G0 ⟨b5, 0, none⟩ = some (.bool true) := by unfold cellF; simp only [g0 _ List.mem_cons_self]; rfl
  have hk1 : cellF G0 ⟨b5, 1, none⟩ = some (Vi n) := by unfold cellF; simp only [g0 _ List.mem_cons_self]; rfl
  have hk2 : cellF G0 ⟨b5, 2, none⟩ = some (.bool y) := by unfold cellF; simp only [g0 _ List.mem_cons_self]; rfl
  have hk3 : cellF G0 ⟨b5, 3, none⟩ = some (Vi c) := by unfold cellF; simp only [g0 _ List.mem_cons_self]; rfl
  replace S0 : St W G0 ([(mv, mobj lv)] :: [(mc, mobj lc)] :: [(bv, .cells ((t.vs.map eV).map Vi ++ zv).toArray 3 fv)] :: [(bc, .cells ((t.cs.map eC).map Vi ++ zc).toArray 3 fc)] :: cs) w1 := S0
  replace ht := ht.mono hle0
  replace hr := hr.mono hle0
  refine WC.reg ?_
  refine WL.v (Runs.fld fld31_0 rfl) rfl ?_
  refine WL.v (Runs.load1 Try.underlying4 rfl rfl (S0.cell hk0)) rfl ?_
  refine WL.nil ?_
  refine WN.thn ?_
  refine WC.condT rfl (rfl) ?_
  refine WC.seq ?_
  refine WC.eregF S0 (fun s_ => ([] : List Nat).any (Nat.beq s_)) mixed (by kernel_rfl) (fun hx => ?_)
  intro w2 h2
  refine WE.pure (g := none) hx 0 (by rfl) trivial (by kernel_rfl) (by kernel_rfl) (by kernel_rfl) (by kernel_rfl) (fun w_ => Runs.move rfl) rfl ?_
  refine WE.pure (g := none) hx 1 (by rfl) trivial (by kernel_rfl) (by kernel_rfl) (by kernel_rfl) (by kernel_rfl) (fun w_ => Runs.fld fld31_1 rfl) rfl ?_
  refine WE.pure (g := none) hx 3 (by rfl) trivial (by kernel_rfl) (by kernel_rfl) (by kernel_rfl) (by kernel_rfl) (fun w_ => Runs.fld fld31_2 rfl) rfl ?_
  refine WE.pure (g := none) hx 6 (by rfl) trivial (by kernel_rfl) (by kernel_rfl) (by kernel_rfl) (by kernel_rfl) (fun w_ => Runs.move rfl) rfl ?_
  refine WE.pure (g := none) hx 7 (by rfl) trivial (by kernel_rfl) (by kernel_rfl) (by kernel_rfl) (by kernel_rfl) (fun w_ => Runs.fld fld31_1 rfl) rfl ?_
  refine WE.pure (g := none) hx 9 (by rfl) trivial (by kernel_rfl) (by kernel_rfl) (by kernel_rfl) (by kernel_rfl) (fun w_ => Runs.fld fld31_2 rfl) rfl ?_
  refine WE.val (g := none) 12 hx 2 (by rfl) trivial (by kernel_rfl) (by kernel_rfl) (by kernel_rfl) (by kernel_rfl) (fun w_ hE_ => Exists.elim hE_ (fun cs_ hC_ => Runs.load1 Try.underlying3 rfl rfl (hC_.cell hk1))) rfl ?_
  refine WE.val (g := none) 12 hx 4 (by rfl) trivial (by kernel_rfl) (by kernel_rfl) (by kernel_rfl) (by kernel_rfl) (fun w_ hE_ => Exists.elim hE_ (fun cs_ hC_ => Runs.load1 Try.underlying4 rfl rfl (hC_.cell hk2))) rfl ?_
  refine WE.val (g := none) 12 hx 8 (by rfl) trivial (by kernel_rfl) (by kernel_rfl) (by kernel_rfl) (by kernel_rfl) (fun w_ hE_ => Exists.elim hE_ (fun cs_ hC_ => Runs.load1 Try.underlying3 rfl rfl (hC_.cell hk1))) rfl ?_
  refine WE.val (g := none) 12 hx 10 (by rfl) trivial (by kernel_rfl) (by kernel_rfl) (by kernel_rfl) (by kernel_rfl) (fun w_ hE_ => Exists.elim hE_ (fun cs_ hC_ => Runs.load1 Try.underlying4 rfl rfl (hC_.cell hk2))) rfl ?_
  refine WE.op (.inr (EC.mk h2 (by first | exact Le.refl _ | assumption))) (i := 5) (by rfl) (by kernel_rfl) ?_
  refine WL.call can22 rfl rfl (vote_c _ n y h2 ht) ?_
  rintro _ w3 ⟨G, l1, hle, rfl, h3, ht1⟩
  refine ⟨_, rfl, ?_⟩
  have hr1 := (hr.mono hle).other (k := 0) (r := [(mv, mobj l1)]) (by decide) (by decide)
  refine WL.nil ?_
  refine WE.next ?_
  refine WE.op (.inr (EC.mk h3 (by first | exact Le.refl _ | assumption))) (i := 11) (by rfl) (by kernel_rfl) ?_
  refine WL.call can27 rfl rfl (rvote_r _ n y h3 hr1) ?_
  rintro _ w4 ⟨rfl, hr2, h4⟩
  refine ⟨_, rfl, ?_⟩
  have ht2 := ht1.other (k := 2) (r := [(bv, .cells (((t.vote n y).2.vs.map eV).map Vi ++ zv).toArray 3 fv)]) (by decide) (by decide)
  refine WL.nil ?_
  refine WE.next ?_
  refine WE.pure (g := none) hx 12 (by rfl) trivial (by kernel_rfl) (by kernel_rfl) (by kernel_rfl) (by kernel_rfl) (fun w_ => Runs.boolT (c := true) (Runs.eql rfl rfl) (decide_eq_true rfl)) rfl ?_
  refine WE.pure (g := none) hx 13 (by rfl) trivial (by kernel_rfl) (by kernel_rfl) (by kernel_rfl) (by kernel_rfl) (fun w_ => Runs.assign rfl) rfl ?_
  refine WE.fin (.inr (EC.mk h4 (by first | exact Le.refl _ | assumption))) (by kernel_rfl) ?_
  refine WN.thn ?_
  refine WC.ret ?_
  simp only [List.set_cons_zero, List.set_cons_succ] at h4
  refine ret1 rfl rfl ⟨_, [[(mv, mobj l1)], [(mc, mobj lc)], [(bv, .cells (((t.vote n y).2.vs.map eV).map Vi ++ zv).toArray 3 fv)], [(bc, .cells ((t.cs.map eC).map Vi ++ zc).toArray 3 fc)]], Le.trans hle0 hle, rfl, ⟨mv, mc, _, _, bv, bc, zv, zc, fv, fc, rfl, ?_, ?_⟩, h4⟩
  · exact TR.pre cs ht2 (by simp) (by simp)
  · exact RR.pre cs hr2 (by simp) (by simp)
set_option maxRecDepth 100000 in
set_option maxHeartbeats 2000000 in
theorem does_e {W : World} {F : Snap} {cs : List Res} (w : World) {a b : Nat} {mv mc bv bc : Nat} {lv lc : List (Int × Value)} {zv zc : List Value} {fv fc : Nat × Nat} {t : T} (n : Int) (y : Bool) (c : Int) (h : St W F ([(mv, mobj lv)] :: [(mc, mobj lc)] :: [(bv, .cells ((t.vs.map eV).map Vi ++ zv).toArray 3 fv)] :: [(bc, .cells ((t.cs.map eC).map Vi ++ zc).toArray 3 fc)] :: cs) w) (ht : TR F ([(mv, mobj lv)] :: [(mc, mobj lc)] :: [(bv, .cells ((t.vs.map eV).map Vi ++ zv).toArray 3 fv)] :: [(bc, .cells ((t.cs.map eC).map Vi ++ zc).toArray 3 fc)] :: cs) a 0 1 mv mc lv lc t) (hr : RR F ([(mv, mobj lv)] :: [(mc, mobj lc)] :: [(bv, .cells ((t.vs.map eV).map Vi ++ zv).toArray 3 fv)] :: [(bc, .cells ((t.cs.map eC).map Vi ++ zc).toArray 3 fc)] :: cs) b 2 3 bv bc zv zc fv fc t) : Calls Try.prog 12 #[.pointer (some ⟨a, 0, none⟩), .pointer (some ⟨b, 0, none⟩), .agg #[.bool false, Vi n, .bool y, Vi c]] w fun e w' => ∃ G p', Le F G ∧ e = .returned (.bool true) ∧ Pr G p' a b (t.does ⟨false, n, y, c⟩) ∧ St W G (p' ++ cs) w'  := by
  refine enter (P := Try.prog) (args := [.pointer (some ⟨a, 0, none⟩), .pointer (some ⟨b, 0, none⟩), .agg #[.bool false, Vi n, .bool y, Vi c]]) Try.func12 rfl rfl rfl ?_
  refine WC.seq ?_
  refine WC.reg ?_
  refine WL.box rfl h rfl ?_
  intro b5 w1 h1
  refine WL.v (Runs.assign rfl) rfl ?_
  refine WL.nil ?_
  refine WN.thn ?_
  refine WC.seq ?_
  refine WC.seq ?_
  obtain ⟨G0, hle0, g0, S0⟩ := h1.freeze (i := 0) rfl
  have hk0 : cellF G0 ⟨b5, 0, none⟩ = some (.bool false) := by unfold cellF; simp only [g0 _ List.mem_cons_self]; rfl
  have hk1 : cellF G0 ⟨b5, 1, none⟩ = some (Vi n) := by unfold cellF; simp only [g0 _ List.mem_cons_self]; rfl
  have hk2 : cellF G0 ⟨b5, 2, none⟩ = some (.bool y) := by unfold cellF; simp only [g0 _ List.mem_cons_self]; rfl
  have hk3 : cellF G0 ⟨b5, 3, none⟩ = some (Vi c) := by unfold cellF; simp only [g0 _ List.mem_cons_self]; rfl
  replace S0 : St W G0 ([(mv, mobj lv)] :: [(mc, mobj lc)] :: [(bv, .cells ((t.vs.map eV).map Vi ++ zv).toArray 3 fv)] :: [(bc, .cells ((t.cs.map eC).map Vi ++ zc).toArray 3 fc)] :: cs) w1 := S0
  replace ht := ht.mono hle0
  replace hr := hr.mono hle0
  refine WC.reg ?_
  refine WL.v (Runs.fld fld31_0 rfl) rfl ?_
  refine WL.v (Runs.load1 Try.underlying4 rfl rfl (S0.cell hk0)) rfl ?_
  refine WL.nil ?_
  refine WN.thn ?_
  refine WC.condF rfl (rfl) ?_
  refine WC.skip ?_
  refine WN.thn ?_
  refine WC.seq ?_
  refine WC.eregF S0 (fun s_ => ([] : List Nat).any (Nat.beq s_)) mixed (by kernel_rfl) (fun hx => ?_)
  intro w2 h2
  refine WE.pure (g := none) hx 0 (by rfl) trivial (by kernel_rfl) (by kernel_rfl) (by kernel_rfl) (by kernel_rfl) (fun w_ => Runs.move rfl) rfl ?_
  refine WE.pure (g := none) hx 1 (by rfl) trivial (by kernel_rfl) (by kernel_rfl) (by kernel_rfl) (by kernel_rfl) (fun w_ => Runs.fld fld31_1 rfl) rfl ?_
  refine WE.pure (g := none) hx 3 (by rfl) trivial (by kernel_rfl) (by kernel_rfl) (by kernel_rfl) (by kernel_rfl) (fun w_ => Runs.fld fld31_3 rfl) rfl ?_
  refine WE.pure (g := none) hx 6 (by rfl) trivial (by kernel_rfl) (by kernel_rfl) (by kernel_rfl) (by kernel_rfl) (fun w_ => Runs.move rfl) rfl ?_
  refine WE.pure (g := none) hx 7 (by rfl) trivial (by kernel_rfl) (by kernel_rfl) (by kernel_rfl) (by kernel_rfl) (fun w_ => Runs.fld fld31_1 rfl) rfl ?_
  refine WE.pure (g := none) hx 9 (by rfl) trivial (by kernel_rfl) (by kernel_rfl) (by kernel_rfl) (by kernel_rfl) (fun w_ => Runs.fld fld31_3 rfl) rfl ?_
  refine WE.val (g := none) 12 hx 2 (by rfl) trivial (by kernel_rfl) (by kernel_rfl) (by kernel_rfl) (by kernel_rfl) (fun w_ hE_ => Exists.elim hE_ (fun cs_ hC_ => Runs.load1 Try.underlying3 rfl rfl (hC_.cell hk1))) rfl ?_
  refine WE.val (g := none) 12 hx 4 (by rfl) trivial (by kernel_rfl) (by kernel_rfl) (by kernel_rfl) (by kernel_rfl) (fun w_ hE_ => Exists.elim hE_ (fun cs_ hC_ => Runs.load1 Try.underlying3 rfl rfl (hC_.cell hk3))) rfl ?_
  refine WE.val (g := none) 12 hx 8 (by rfl) trivial (by kernel_rfl) (by kernel_rfl) (by kernel_rfl) (by kernel_rfl) (fun w_ hE_ => Exists.elim hE_ (fun cs_ hC_ => Runs.load1 Try.underlying3 rfl rfl (hC_.cell hk1))) rfl ?_
  refine WE.val (g := none) 12 hx 10 (by rfl) trivial (by kernel_rfl) (by kernel_rfl) (by kernel_rfl) (by kernel_rfl) (fun w_ hE_ => Exists.elim hE_ (fun cs_ hC_ => Runs.load1 Try.underlying3 rfl rfl (hC_.cell hk3))) rfl ?_
  refine WE.op (.inr (EC.mk h2 (by first | exact Le.refl _ | assumption))) (i := 5) (by rfl) (by kernel_rfl) ?_
  refine WL.call can23 rfl rfl (exit_c _ n c h2 ht) ?_
  rintro _ w3 ⟨G, l1, hle, rfl, h3, ht1⟩
  refine ⟨_, rfl, ?_⟩
  have hr1 := (hr.mono hle).other (k := 1) (r := [(mc, mobj l1)]) (by decide) (by decide)
  refine WL.nil ?_
  refine WE.next ?_
  refine WE.op (.inr (EC.mk h3 (by first | exact Le.refl _ | assumption))) (i := 11) (by rfl) (by kernel_rfl) ?_
  refine WL.call can28 rfl rfl (rexit_r _ n c h3 hr1) ?_
  rintro _ w4 ⟨rfl, hr2, h4⟩
  refine ⟨_, rfl, ?_⟩
  have ht2 := ht1.other (k := 3) (r := [(bc, .cells (((t.exit n c).2.cs.map eC).map Vi ++ zc).toArray 3 fc)]) (by decide) (by decide)
  refine WL.nil ?_
  refine WE.next ?_
  refine WE.pure (g := none) hx 12 (by rfl) trivial (by kernel_rfl) (by kernel_rfl) (by kernel_rfl) (by kernel_rfl) (fun w_ => Runs.boolT (c := true) (Runs.eql rfl rfl) (decide_eq_true rfl)) rfl ?_
  refine WE.pure (g := none) hx 13 (by rfl) trivial (by kernel_rfl) (by kernel_rfl) (by kernel_rfl) (by kernel_rfl) (fun w_ => Runs.assign rfl) rfl ?_
  refine WE.fin (.inr (EC.mk h4 (by first | exact Le.refl _ | assumption))) (by kernel_rfl) ?_
  refine WN.thn ?_
  refine WC.ret ?_
  have hev : (t.exit n c).2.vs = t.vs := by unfold T.exit; split <;> rfl
  rw [← hev] at h4 ht2 hr2
  simp only [List.set_cons_zero, List.set_cons_succ] at h4
  refine ret1 rfl rfl ⟨_, [[(mv, mobj lv)], [(mc, mobj l1)], [(bv, .cells (((t.exit n c).2.vs.map eV).map Vi ++ zv).toArray 3 fv)], [(bc, .cells (((t.exit n c).2.cs.map eC).map Vi ++ zc).toArray 3 fc)]], Le.trans hle0 hle, rfl, ⟨mv, mc, _, _, bv, bc, zv, zc, fv, fc, rfl, ?_, ?_⟩, h4⟩
  · exact TR.pre cs ht2 (by simp) (by simp)
  · exact RR.pre cs hr2 (by simp) (by simp)
theorem does_c {W : World} {F : Snap} {p cs : List Res} (w : World) {a b : Nat} {t : T} (o : Op') (h : St W F (p ++ cs) w) (hp : Pr F p a b t) : Calls Try.prog 12 #[.pointer (some ⟨a, 0, none⟩), .pointer (some ⟨b, 0, none⟩), o.val] w fun e w' => ∃ G p', Le F G ∧ e = .returned (.bool true) ∧ Pr G p' a b (t.does o) ∧ St W G (p' ++ cs) w' := by
  obtain ⟨mv, mc, lv, lc, bv, bc, zv, zc, fv, fc, rfl, h1, h2⟩ := hp
  obtain ⟨v, n, y, c⟩ := o
  cases v with
  | true => exact does_v w n y c h (h1.app cs) (h2.app cs)
  | false => exact does_e w n y c h (h1.app cs) (h2.app cs)
end Tal
end Go.Proofs.Ytkgmlngmojnpmaa
