/- What the laws of chapter 14 have in common: some answers that the document gives. -/
import Derived.Test.YtkgmlngmojnpmaaProg
import Derived.Test.YtkgmlngmojnpmaaTal5
namespace Go.Proofs.Ytkgmlngmojnpmaa
open Go Go.RowKit B
set_option linter.unusedVariables false
set_option linter.unusedSimpArgs false
namespace Tal

theorem can10 : B.Can Try.prog 10 := ⟨_, Try.func10, by kernel_rfl, rfl⟩   -- roundhouse/tally.New
theorem can15 : B.Can Try.prog 15 := ⟨_, Try.func15, by kernel_rfl, rfl⟩   -- (*roundhouse/tally.Tally).Code
theorem can17 : B.Can Try.prog 17 := ⟨_, Try.func17, by kernel_rfl, rfl⟩   -- roundhouse/roundhouseref02.Same
theorem can18 : B.Can Try.prog 18 := ⟨_, Try.func18, by kernel_rfl, rfl⟩   -- (*roundhouse/tally.Tally).Missing
theorem can22 : B.Can Try.prog 22 := ⟨_, Try.func22, by kernel_rfl, rfl⟩   -- (*roundhouse/tally.Tally).Vote
theorem can23 : B.Can Try.prog 23 := ⟨_, Try.func23, by kernel_rfl, rfl⟩   -- (*roundhouse/tally.Tally).Exit
theorem oks2 {a b : Int} (h0 : 0 ≤ a) (h1 : a < b) (h2 : b < 16) : oks [a, b] := by
  refine ⟨fun k hk => ?_, fun k hk => ?_⟩
  · have : k = 0 ∨ k = 1 := by simp at hk; omega
    rcases this with rfl | rfl
    · show 0 ≤ a ∧ a < 16; omega
    · show 0 ≤ b ∧ b < 16; omega
  · have : k = 0 := by simp at hk; omega
    subst this
    exact h1
theorem TR.push {F : Snap} {cs : List Res} {r : Res} {bt i j mv mc : Nat} {lv lc : List (Int × Value)} {t : T} (h : TR F cs bt i j mv mc lv lc t) : TR F (r :: cs) bt (i + 1) (j + 1) mv mc lv lc t := by
  obtain ⟨h1, h3, h4, h5, h6, h7, h8, h9, h10, h11, h12⟩ := h
  exact ⟨h1, h3, h4, h5, h6, h7, h8, h9, h10, h11, by omega⟩
theorem TR.other {F : Snap} {cs : List Res} {r : Res} {k : Nat} {bt i j mv mc : Nat} {lv lc : List (Int × Value)} {t : T} (h : TR F cs bt i j mv mc lv lc t) (hi : k ≠ i) (hj : k ≠ j) : TR F (cs.set k r) bt i j mv mc lv lc t := by
  obtain ⟨h1, h3, h4, h5, h6, h7, h8, h9, h10, h11, h12⟩ := h
  exact ⟨h1, h3, h4, by rw [List.getElem?_set_ne hi]; exact h5, by rw [List.getElem?_set_ne hj]; exact h6, h7, h8, h9, h10, h11, h12⟩
set_option maxRecDepth 100000 in
set_option maxHeartbeats 4000000 in
theorem live_c {W : World} {F : Snap} {cs : List Res} (w : World) (h : St W F cs w) : Calls Try.prog 9 #[] w fun e w' => e = .returned (.bool true) ∧ St W F cs w'  := by
  refine enter (P := Try.prog) (args := []) Try.func9 rfl rfl rfl ?_
  refine WC.seq ?_
  refine WC.reg ?_
  refine WL.v (Runs.assign rfl) rfl ?_
  refine WL.nil ?_
  refine WN.thn ?_
  refine WC.seq ?_
  refine WC.reg ?_
  refine WL.lit (vs := (([0, 3] : List Int)).map Vi) h rfl Try.underlying22 inf3 rfl rfl rfl rfl rfl ?_
  intro lit14 w1 h1
  obtain ⟨Ga, ga1, ga2, ga3⟩ := St.litRd (f := Vi) (xs := [0, 3]) h1
  refine WL.call can10 rfl rfl (new_c (A := some ⟨lit14, 0, none⟩) (cap := 2) (ns := [0, 3]) _ ga3 ga2 (by simp) (oks2 (by omega) (by omega) (by omega)) (by simp)) ?_
  rintro _ wa ⟨Ha, bta, mva, mca, lva, lca, rfl, hba, ha, hta⟩
  refine ⟨_, rfl, ?_⟩
  have hFa := Le.trans ga1 hba
  refine WL.v (Runs.assign rfl) rfl ?_
  refine WL.nil ?_
  refine WN.thn ?_
  refine WC.seq ?_
  refine WC.reg ?_
  refine WL.lit (vs := (([1, 2] : List Int)).map Vi) ha rfl Try.underlying22 inf3 rfl rfl rfl rfl rfl ?_
  intro lit16 w2 h2
  obtain ⟨Gb, gb1, gb2, gb3⟩ := St.litRd (f := Vi) (xs := [1, 2]) h2
  refine WL.call can10 rfl rfl (new_c (A := some ⟨lit16, 0, none⟩) (cap := 2) (ns := [1, 2]) _ gb3 gb2 (by simp) (oks2 (by omega) (by omega) (by omega)) (by simp)) ?_
  rintro _ wb ⟨Hb, btb, mvb, mcb, lvb, lcb, rfl, hbb, hb, htb⟩
  refine ⟨_, rfl, ?_⟩
  have htab := ((hta.mono (Le.trans gb1 hbb)).push (r := [(mcb, mobj lcb)])).push (r := [(mvb, mobj lvb)])
  have hFb := Le.trans hFa (Le.trans gb1 hbb)
  refine WL.v (Runs.assign rfl) rfl ?_
  refine WL.nil ?_
  refine WN.thn ?_
  refine WC.seq ?_
  refine WC.seq ?_
  refine WC.reg ?_
  refine WL.v (Runs.move rfl) rfl ?_
  refine WL.v (Runs.peql Try.underlying25 rfl rfl) rfl ?_
  refine WL.v (Runs.move rfl) rfl ?_
  refine WL.gon rfl rfl rfl ?_
  refine WL.v (Runs.move rfl) rfl ?_
  refine WL.gon rfl rfl rfl ?_
  refine WL.v (Runs.peql Try.underlying25 rfl rfl) rfl ?_
  refine WL.v (Runs.pick rfl rfl rfl) rfl ?_
  refine WL.nil ?_
  refine WN.thn ?_
  refine WC.condF rfl (rfl) ?_
  refine WC.skip ?_
  refine WN.thn ?_
  refine WC.seq ?_
  refine WC.reg ?_
  refine WL.v (Runs.move rfl) rfl ?_
  refine WL.call can22 rfl rfl (vote_c _ 3 true hb htab) ?_
  rintro _ w3 ⟨G3, l3, hle3, rfl, h3, hx3⟩
  refine ⟨_, rfl, ?_⟩
  try simp only [List.set_cons_zero, List.set_cons_succ] at h3
  try simp only [List.set_cons_zero, List.set_cons_succ] at hx3
  have hy3 := (htb.mono hle3).other (k := 2) (r := [(mva, mobj l3)]) (by decide) (by decide)
  have hF3 := Le.trans hFb hle3
  try simp only [List.set_cons_zero, List.set_cons_succ] at hy3
  refine WL.v (Runs.assign rfl) rfl ?_
  refine WL.nil ?_
  refine WN.thn ?_
  refine WC.seq ?_
  refine WC.reg ?_
  refine WL.v (Runs.move rfl) rfl ?_
  refine WL.call can13 rfl rfl (state_c _ h3 hx3) ?_
  rintro _ w4 ⟨rfl, h4⟩
  refine ⟨_, rfl, ?_⟩
  refine WL.v (Runs.assign rfl) rfl ?_
  refine WL.nil ?_
  refine WN.thn ?_
  refine WC.seq ?_
  refine WC.reg ?_
  refine WL.v (Runs.move rfl) rfl ?_
  refine WL.call can23 rfl rfl (exit_c _ 0 5 h4 hx3) ?_
  rintro _ w5 ⟨G5, l5, hle5, rfl, h5, hx5⟩
  refine ⟨_, rfl, ?_⟩
  try simp only [List.set_cons_zero, List.set_cons_succ] at h5
  try simp only [List.set_cons_zero, List.set_cons_succ] at hx5
  have hy5 := (hy3.mono hle5).other (k := 3) (r := [(mca, mobj l5)]) (by decide) (by decide)
  have hF5 := Le.trans hF3 hle5
  try simp only [List.set_cons_zero, List.set_cons_succ] at hy5
  refine WL.v (Runs.assign rfl) rfl ?_
  refine WL.nil ?_
  refine WN.thn ?_
  refine WC.seq ?_
  refine WC.reg ?_
  refine WL.v (Runs.move rfl) rfl ?_
  refine WL.call can18 rfl rfl (missing_c _ h5 hx5) ?_
  rintro _ wm ⟨Gm, Am, capm, hlem, rfl, hcm, hrm, hm⟩
  refine ⟨_, rfl, ?_⟩
  have htm := hx5.mono hlem
  have hum := hy5.mono hlem
  have hFm := Le.trans hF5 hlem
  have hmq : T.missing ((((⟨[0, 3], ([0, 3] : List Int).map fun _ => none, ([0, 3] : List Int).map fun _ => none⟩ : T).vote 3 true).2.exit 0 5).2) = [0] := by decide +kernel
  refine WL.v (Runs.assign rfl) rfl ?_
  refine WL.nil ?_
  refine WN.thn ?_
  refine WC.seq ?_
  refine WC.reg ?_
  refine WL.v (Runs.move rfl) rfl ?_
  refine WL.call can22 rfl rfl (vote_c _ 0 true hm htm) ?_
  rintro _ w6 ⟨G6, l6, hle6, rfl, h6, hx6⟩
  refine ⟨_, rfl, ?_⟩
  try simp only [List.set_cons_zero, List.set_cons_succ] at h6
  try simp only [List.set_cons_zero, List.set_cons_succ] at hx6
  have hy6 := (hum.mono hle6).other (k := 2) (r := [(mva, mobj l6)]) (by decide) (by decide)
  have hF6 := Le.trans hFm hle6
  try simp only [List.set_cons_zero, List.set_cons_succ] at hy6
  have hm6 := hrm.mono hle6
  refine WL.v (Runs.assign rfl) rfl ?_
  refine WL.nil ?_
  refine WN.thn ?_
  refine WC.seq ?_
  refine WC.reg ?_
  refine WL.v (Runs.move rfl) rfl ?_
  refine WL.call can13 rfl rfl (state_c _ h6 hx6) ?_
  rintro _ w7 ⟨rfl, h7⟩
  refine ⟨_, rfl, ?_⟩
  refine WL.v (Runs.assign rfl) rfl ?_
  refine WL.nil ?_
  refine WN.thn ?_
  refine WC.seq ?_
  refine WC.reg ?_
  refine WL.v (Runs.move rfl) rfl ?_
  refine WL.call can23 rfl rfl (exit_c _ 0 5 h7 hx6) ?_
  rintro _ w8 ⟨G8, l8, hle8, rfl, h8, hx8⟩
  refine ⟨_, rfl, ?_⟩
  try simp only [List.set_cons_zero, List.set_cons_succ] at h8
  try simp only [List.set_cons_zero, List.set_cons_succ] at hx8
  have hy8 := (hy6.mono hle8).other (k := 3) (r := [(mca, mobj l8)]) (by decide) (by decide)
  have hF8 := Le.trans hF6 hle8
  try simp only [List.set_cons_zero, List.set_cons_succ] at hy8
  have hm8 := hm6.mono hle8
  refine WL.v (Runs.assign rfl) rfl ?_
  refine WL.nil ?_
  refine WN.thn ?_
  refine WC.seq ?_
  refine WC.reg ?_
  refine WL.v (Runs.move rfl) rfl ?_
  refine WL.call can23 rfl rfl (exit_c _ 3 9 h8 hx8) ?_
  rintro _ w9 ⟨G9, l9, hle9, rfl, h9, hx9⟩
  refine ⟨_, rfl, ?_⟩
  try simp only [List.set_cons_zero, List.set_cons_succ] at h9
  try simp only [List.set_cons_zero, List.set_cons_succ] at hx9
  have hy9 := (hy8.mono hle9).other (k := 3) (r := [(mca, mobj l9)]) (by decide) (by decide)
  have hF9 := Le.trans hF8 hle9
  try simp only [List.set_cons_zero, List.set_cons_succ] at hy9
  have hm9 := hm8.mono hle9
  refine WL.v (Runs.assign rfl) rfl ?_
  refine WL.nil ?_
  refine WN.thn ?_
  refine WC.seq ?_
  refine WC.reg ?_
  refine WL.v (Runs.move rfl) rfl ?_
  refine WL.call can22 rfl rfl (vote_c _ 1 false h9 hy9) ?_
  rintro _ w10 ⟨G10, l10, hle10, rfl, h10, hx10⟩
  refine ⟨_, rfl, ?_⟩
  try simp only [List.set_cons_zero, List.set_cons_succ] at h10
  try simp only [List.set_cons_zero, List.set_cons_succ] at hx10
  have hy10 := (hx9.mono hle10).other (k := 0) (r := [(mvb, mobj l10)]) (by decide) (by decide)
  have hF10 := Le.trans hF9 hle10
  try simp only [List.set_cons_zero, List.set_cons_succ] at hy10
  have hm10 := hm9.mono hle10
  refine WL.v (Runs.assign rfl) rfl ?_
  refine WL.nil ?_
  refine WN.thn ?_
  refine WC.seq ?_
  refine WC.reg ?_
  refine WL.v (Runs.move rfl) rfl ?_
  refine WL.call can22 rfl rfl (vote_c _ 2 true h10 hx10) ?_
  rintro _ w11 ⟨G11, l11, hle11, rfl, h11, hx11⟩
  refine ⟨_, rfl, ?_⟩
  try simp only [List.set_cons_zero, List.set_cons_succ] at h11
  try simp only [List.set_cons_zero, List.set_cons_succ] at hx11
  have hy11 := (hy10.mono hle11).other (k := 0) (r := [(mvb, mobj l11)]) (by decide) (by decide)
  have hF11 := Le.trans hF10 hle11
  try simp only [List.set_cons_zero, List.set_cons_succ] at hy11
  have hm11 := hm10.mono hle11
  refine WL.v (Runs.assign rfl) rfl ?_
  refine WL.nil ?_
  refine WN.thn ?_
  refine WC.seq ?_
  refine WC.reg ?_
  refine WL.v (Runs.move rfl) rfl ?_
  refine WL.call can22 rfl rfl (vote_c _ 7 true h11 hy11) ?_
  rintro _ w12 ⟨G12, l12, hle12, rfl, h12, hx12⟩
  refine ⟨_, rfl, ?_⟩
  try simp only [List.set_cons_zero, List.set_cons_succ] at h12
  try simp only [List.set_cons_zero, List.set_cons_succ] at hx12
  have hy12 := (hx11.mono hle12).other (k := 2) (r := [(mva, mobj l12)]) (by decide) (by decide)
  have hF12 := Le.trans hF11 hle12
  try simp only [List.set_cons_zero, List.set_cons_succ] at hy12
  have hm12 := hm11.mono hle12
  refine WL.v (Runs.assign rfl) rfl ?_
  refine WL.nil ?_
  refine WN.thn ?_
  refine WC.seq ?_
  refine WC.reg ?_
  refine WL.v (Runs.move rfl) rfl ?_
  refine WL.v (Runs.boolT (c := true) (Runs.eql rfl rfl) (by decide +kernel)) rfl ?_
  refine WL.v (Runs.move rfl) rfl ?_
  refine WL.gon rfl rfl rfl ?_
  refine WL.v (Runs.move rfl) rfl ?_
  refine WL.gon rfl rfl rfl ?_
  refine WL.v (Runs.boolT (c := true) (Runs.eql rfl rfl) (by decide +kernel)) rfl ?_
  refine WL.v (Runs.pick rfl rfl rfl) rfl ?_
  refine WL.v (Runs.move rfl) rfl ?_
  refine WL.gon rfl rfl rfl ?_
  refine WL.v (Runs.move rfl) rfl ?_
  refine WL.gon rfl rfl rfl ?_
  refine WL.v (Runs.boolT (c := true) (Runs.eql rfl rfl) (by decide +kernel)) rfl ?_
  refine WL.v (Runs.pick rfl rfl rfl) rfl ?_
  refine WL.v (Runs.move rfl) rfl ?_
  refine WL.gon rfl rfl rfl ?_
  refine WL.v (Runs.move rfl) rfl ?_
  refine WL.gon rfl rfl rfl ?_
  refine WL.lit (vs := (([0] : List Int)).map Vi) h12 rfl Try.underlying22 inf3 rfl rfl rfl rfl rfl ?_
  intro lit58 w13 h13
  refine WL.gon rfl rfl rfl ?_
  obtain ⟨Gp, gp1, gp2, gp3⟩ := St.litRd (f := Vi) (xs := [0]) h13
  have htp := hx12.mono gp1
  have hup := hy12.mono gp1
  have hFp := Le.trans hF12 gp1
  have hmp := hm12.mono gp1
  refine WL.call can17 rfl rfl (same_eq (B := some ⟨lit58, 0, none⟩) (cap2 := 1) (ys := [0]) _ gp3 hmp gp2 (Nat.le_trans (Nat.le_of_eq (congrArg List.length hmq)) (by simp)) hmq) ?_
  rintro _ w14 ⟨rfl, h14⟩
  refine ⟨_, rfl, ?_⟩
  refine WL.v (Runs.pick rfl rfl rfl) rfl ?_
  refine WL.v (Runs.move rfl) rfl ?_
  refine WL.gon rfl rfl rfl ?_
  refine WL.v (Runs.move rfl) rfl ?_
  refine WL.gon rfl rfl rfl ?_
  refine WL.v (Runs.boolT (c := true) (Runs.eql rfl rfl) (by decide +kernel)) rfl ?_
  refine WL.v (Runs.pick rfl rfl rfl) rfl ?_
  refine WL.v (Runs.move rfl) rfl ?_
  refine WL.gon rfl rfl rfl ?_
  refine WL.v (Runs.move rfl) rfl ?_
  refine WL.gon rfl rfl rfl ?_
  refine WL.v (Runs.boolT (c := true) (Runs.eql rfl rfl) (by decide +kernel)) rfl ?_
  refine WL.v (Runs.pick rfl rfl rfl) rfl ?_
  refine WL.v (Runs.move rfl) rfl ?_
  refine WL.gon rfl rfl rfl ?_
  refine WL.v (Runs.move rfl) rfl ?_
  refine WL.gon rfl rfl rfl ?_
  refine WL.v (Runs.boolT (c := true) (Runs.eql rfl rfl) (by decide +kernel)) rfl ?_
  refine WL.v (Runs.pick rfl rfl rfl) rfl ?_
  refine WL.v (Runs.move rfl) rfl ?_
  refine WL.gon rfl rfl rfl ?_
  refine WL.v (Runs.move rfl) rfl ?_
  refine WL.gon rfl rfl rfl ?_
  refine WL.v (Runs.boolT (c := true) (Runs.eql rfl rfl) (by decide +kernel)) rfl ?_
  refine WL.v (Runs.pick rfl rfl rfl) rfl ?_
  refine WL.v (Runs.move rfl) rfl ?_
  refine WL.gon rfl rfl rfl ?_
  refine WL.v (Runs.move rfl) rfl ?_
  refine WL.gon rfl rfl rfl ?_
  refine WL.call can13 rfl rfl (state_c _ h14 htp) ?_
  rintro _ w15 ⟨rfl, h15⟩
  refine ⟨_, rfl, ?_⟩
  refine WL.gon rfl rfl rfl ?_
  refine WL.v (Runs.boolT (c := true) (Runs.eql rfl rfl) (by decide +kernel)) rfl ?_
  refine WL.v (Runs.pick rfl rfl rfl) rfl ?_
  refine WL.v (Runs.move rfl) rfl ?_
  refine WL.gon rfl rfl rfl ?_
  refine WL.v (Runs.move rfl) rfl ?_
  refine WL.gon rfl rfl rfl ?_
  refine WL.call can15 rfl rfl (code_c _ h15 htp) ?_
  rintro _ w16 ⟨rfl, h16⟩
  refine ⟨_, rfl, ?_⟩
  refine WL.gon rfl rfl rfl ?_
  refine WL.v (Runs.boolT (c := true) (Runs.eql rfl rfl) (by decide +kernel)) rfl ?_
  refine WL.v (Runs.pick rfl rfl rfl) rfl ?_
  refine WL.v (Runs.move rfl) rfl ?_
  refine WL.gon rfl rfl rfl ?_
  refine WL.v (Runs.move rfl) rfl ?_
  refine WL.gon rfl rfl rfl ?_
  refine WL.v (Runs.boolT (c := true) (Runs.eql rfl rfl) (by decide +kernel)) rfl ?_
  refine WL.v (Runs.pick rfl rfl rfl) rfl ?_
  refine WL.v (Runs.move rfl) rfl ?_
  refine WL.gon rfl rfl rfl ?_
  refine WL.v (Runs.move rfl) rfl ?_
  refine WL.gon rfl rfl rfl ?_
  refine WL.v (Runs.boolT (c := true) (Runs.eql rfl rfl) (by decide +kernel)) rfl ?_
  refine WL.v (Runs.pick rfl rfl rfl) rfl ?_
  refine WL.v (Runs.move rfl) rfl ?_
  refine WL.gon rfl rfl rfl ?_
  refine WL.v (Runs.move rfl) rfl ?_
  refine WL.gon rfl rfl rfl ?_
  refine WL.call can13 rfl rfl (state_c _ h16 hup) ?_
  rintro _ w17 ⟨rfl, h17⟩
  refine ⟨_, rfl, ?_⟩
  refine WL.gon rfl rfl rfl ?_
  refine WL.v (Runs.boolT (c := true) (Runs.eql rfl rfl) (by decide +kernel)) rfl ?_
  refine WL.v (Runs.pick rfl rfl rfl) rfl ?_
  refine WL.v (Runs.move rfl) rfl ?_
  refine WL.gon rfl rfl rfl ?_
  refine WL.v (Runs.move rfl) rfl ?_
  refine WL.gon rfl rfl rfl ?_
  refine WL.v (Runs.boolT (c := true) (Runs.eql rfl rfl) (by decide +kernel)) rfl ?_
  refine WL.v (Runs.pick rfl rfl rfl) rfl ?_
  refine WL.v (Runs.move rfl) rfl ?_
  refine WL.gon rfl rfl rfl ?_
  refine WL.lit (vs := (([3, 9, 1] : List Int)).map Vi) h17 rfl Try.underlying22 inf3 rfl rfl rfl rfl rfl ?_
  intro lit105 w18 h18
  refine WL.gon rfl rfl rfl ?_
  obtain ⟨Gz, gz1, gz2, gz3⟩ := St.litRd (f := Vi) (xs := [3, 9, 1]) h18
  have htz := htp.mono gz1
  have huz := hup.mono gz1
  have hFz := Le.trans hFp gz1
  have hmz := hmp.mono gz1
  refine WL.call can20 rfl rfl (worst_c (A := some ⟨lit105, 0, none⟩) (cap := 3) _ [3, 9, 1] gz3 gz2 (by simp)) ?_
  rintro _ w19 ⟨rfl, h19⟩
  refine ⟨_, rfl, ?_⟩
  refine WL.gon rfl rfl rfl ?_
  refine WL.v (Runs.boolT (c := true) (Runs.eql rfl rfl) (by decide +kernel)) rfl ?_
  refine WL.v (Runs.pick rfl rfl rfl) rfl ?_
  refine WL.v (Runs.move rfl) rfl ?_
  refine WL.gon rfl rfl rfl ?_
  refine WL.call can10 rfl rfl (new_nil _ h19) ?_
  rintro _ w20 ⟨rfl, h20⟩
  refine ⟨_, rfl, ?_⟩
  refine WL.gon rfl rfl rfl ?_
  refine WL.v (Runs.peql Try.underlying25 rfl rfl) rfl ?_
  refine WL.v (Runs.pick rfl rfl rfl) rfl ?_
  refine WL.v (Runs.assign rfl) rfl ?_
  refine WL.nil ?_
  refine WN.thn ?_
  refine WC.ret ?_
  exact ret1 rfl rfl ⟨rfl, ((((h20.drop 0).drop 0).drop 0).drop 0).weak hFz⟩
end Tal
end Go.Proofs.Ytkgmlngmojnpmaa
