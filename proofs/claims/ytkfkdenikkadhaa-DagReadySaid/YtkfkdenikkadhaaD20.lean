/- Walks of package dag: some answers that the document gives. -/
import Derived.Test.YtkfkdenikkadhaaBaseAA
import Derived.Test.YtkfkdenikkadhaaD19
namespace Go.Proofs.Ytkfkdenikkadhaa
open Go Go.RowKit B
set_option linter.unusedVariables false
set_option linter.unusedSimpArgs false
namespace Dg

theorem inf36 : Inf Try.prog 36 (.slice none 0 0) 1 24 := by unfold Inf; kernel_rfl
theorem can13 : B.Can Try.prog 13 := ⟨_, Try.func13, by kernel_rfl, rfl⟩   -- roundhouse/roundhouseref02.Same
theorem can14 : B.Can Try.prog 14 := ⟨_, Try.func14, by kernel_rfl, rfl⟩   -- roundhouse/dag.Order
theorem can16 : B.Can Try.prog 16 := ⟨_, Try.func16, by kernel_rfl, rfl⟩   -- roundhouse/dag.Ready
theorem can20 : B.Can Try.prog 20 := ⟨_, Try.func20, by kernel_rfl, rfl⟩   -- roundhouse/dag.Over
def liveL : List S := [⟨1, 1, 0, 5, []⟩, ⟨1, 1, 0, 5, [⟨0, 0⟩]⟩, ⟨1, 1, 0, 5, [⟨1, 2⟩, ⟨0, 1⟩]⟩]
def kL : List S := [⟨1, 1, 0, 5, [⟨1, 0⟩]⟩, ⟨1, 1, 0, 5, [⟨0, 0⟩]⟩]
theorem Gives2.to {W w : World} {F : Snap} {cs : List Res} {P : Program} {f : FuncId} {a : Array Value} {xs ys : List Int} {e e' : Int} (h1 : xs = ys) (h2 : e = e') (h : Calls P f a w fun r w' => Gives2 W F cs xs e r w') : Calls P f a w fun r w' => Gives2 W F cs ys e' r w' := by
  subst h1
  subst h2
  exact h
theorem C1.to {W : World} {F : Snap} {cs : List Res} {w : World} {P : Program} {f : FuncId} {a : Array Value} {α : Type} {g : α → Value} {x y : α} (h1 : x = y) (h : Calls P f a w fun r w' => r = .returned (g x) ∧ St W F cs w') : Calls P f a w fun r w' => r = .returned (g y) ∧ St W F cs w' := by
  subst h1
  exact h
def ovV (z : Int × Bool) : Value := .tuple #[Vi z.1, .bool z.2]
theorem lv_w0 : withM liveL [-1, -1, -1] = 0 := by decide +kernel
theorem lv_a0 : readyM liveL [-1, -1, -1] = [0] := by decide +kernel
theorem lv_w1 : withM liveL [0, 3, -1] = 0 := by decide +kernel
theorem lv_a1 : readyM liveL [0, 3, -1] = [2] := by decide +kernel
theorem lv_w2 : withM liveL [3, -1, -1] = 0 := by decide +kernel
theorem lv_a2 : settleM liveL [3, -1, -1] = [3, 256, 256] := by decide +kernel
theorem lv_a3 : overM liveL [3, -1, -1] = (3, true) := by decide +kernel
theorem lv_w4 : withM liveL [0] = 5 := by decide +kernel
theorem lv_a4 : readyM liveL [0] = [] := by decide +kernel
theorem lv_a5 : overM liveL [0, -1, -1] = (0, false) := by decide +kernel
theorem lv_k1 : chkM liveL = 0 := by decide +kernel
theorem lv_o1 : odM liveL = [0, 1, 2] := by decide +kernel
theorem lv_k2 : chkM kL = 15 := by decide +kernel
theorem lv_k3 : chkM [] = 1 := by decide +kernel
set_option maxRecDepth 100000 in
set_option maxHeartbeats 8000000 in
theorem live_c {W : World} {F : Snap} {cs : List Res} (w : World) (h : St W F cs w) : Calls Try.prog 10 #[] w fun r w' => r = .returned (.bool true) ∧ St W F cs w'  := by
  refine enter (P := Try.prog) (args := []) Try.func10 rfl rfl rfl ?_
  have hle : Le F F := Le.refl F
  have hl1 : liveL.length ≤ 100000 := by decide
  have hf1 : fewE liveL := (show smallL liveL by decide).few.1
  have hl2 : kL.length ≤ 100000 := by decide
  have hf2 : fewE kL := (show smallL kL by decide).few.1
  refine WC.seq ?_
  refine WC.reg ?_
  refine WL.v (Runs.assign rfl) rfl ?_
  refine WL.nil ?_
  refine WN.thn ?_
  refine WC.seq ?_
  refine WC.reg ?_
  refine WL.v (Runs.build (vs := [(0, Vi 1), (1, Vi 1), (3, Vi 5)]) (cells := #[Vi 1, Vi 1, Vi 0, Vi 5, .slice none 0 0]) rfl (by kernel_rfl)) rfl ?_
  refine WL.v (Runs.build (vs := [(0, Vi 0)]) (cells := #[Vi 0, Vi 0]) rfl (by kernel_rfl)) rfl ?_
  refine WL.buildSlice (vs := [.agg #[Vi 0, Vi 0]]) h rfl Try.underlying36 (inf40.elem rfl rfl) rfl rfl rfl (by decide) ?_
  intro lit17 w1 h1
  try simp only [List.set_cons_zero, List.set_cons_succ, List.eraseIdx_cons_zero, List.eraseIdx_cons_succ] at h1
  obtain ⟨G17, gl17, gf17, hS17⟩ := h1.freeze (i := 0) rfl
  have rd17 : RdS KE G17 (some ⟨lit17, 0, none⟩) [⟨0, 0⟩] := RdS.blks [[Vi 0, Vi 0]] (gf17 _ List.mem_cons_self) rfl ⟨rfl, trivial⟩
  replace h1 := hS17
  simp only [List.eraseIdx_cons_zero] at h1
  
  replace hle := Le.trans hle gl17
  refine WL.v (Runs.build (vs := [(0, Vi 1), (1, Vi 1), (3, Vi 5), (4, .slice (some ⟨lit17, 0, none⟩) 1 1)]) (cells := #[Vi 1, Vi 1, Vi 0, Vi 5, .slice (some ⟨lit17, 0, none⟩) 1 1]) rfl (by kernel_rfl)) rfl ?_
  refine WL.v (Runs.build (vs := [(0, Vi 1), (1, Vi 2)]) (cells := #[Vi 1, Vi 2]) rfl (by kernel_rfl)) rfl ?_
  refine WL.v (Runs.build (vs := [(0, Vi 0), (1, Vi 1)]) (cells := #[Vi 0, Vi 1]) rfl (by kernel_rfl)) rfl ?_
  refine WL.buildSlice (vs := [.agg #[Vi 1, Vi 2], .agg #[Vi 0, Vi 1]]) h1 rfl Try.underlying36 (inf40.elem rfl rfl) rfl rfl rfl (by decide) ?_
  intro lit21 w2 h2
  try simp only [List.set_cons_zero, List.set_cons_succ, List.eraseIdx_cons_zero, List.eraseIdx_cons_succ] at h2
  obtain ⟨G21, gl21, gf21, hS21⟩ := h2.freeze (i := 0) rfl
  have rd21 : RdS KE G21 (some ⟨lit21, 0, none⟩) [⟨1, 2⟩, ⟨0, 1⟩] := RdS.blks [[Vi 1, Vi 2], [Vi 0, Vi 1]] (gf21 _ List.mem_cons_self) rfl ⟨rfl, rfl, trivial⟩
  replace h2 := hS21
  simp only [List.eraseIdx_cons_zero] at h2
  replace rd17 := rd17.mono gl21
  replace hle := Le.trans hle gl21
  refine WL.v (Runs.build (vs := [(0, Vi 1), (1, Vi 1), (3, Vi 5), (4, .slice (some ⟨lit21, 0, none⟩) 2 2)]) (cells := #[Vi 1, Vi 1, Vi 0, Vi 5, .slice (some ⟨lit21, 0, none⟩) 2 2]) rfl (by kernel_rfl)) rfl ?_
  refine WL.buildSlice (vs := [.agg #[Vi 1, Vi 1, Vi 0, Vi 5, .slice none 0 0], .agg #[Vi 1, Vi 1, Vi 0, Vi 5, .slice (some ⟨lit17, 0, none⟩) 1 1], .agg #[Vi 1, Vi 1, Vi 0, Vi 5, .slice (some ⟨lit21, 0, none⟩) 2 2]]) h2 rfl Try.underlying22 (inf38.elem rfl rfl) rfl rfl rfl (by decide) ?_
  intro lit23 w3 h3
  try simp only [List.set_cons_zero, List.set_cons_succ, List.eraseIdx_cons_zero, List.eraseIdx_cons_succ] at h3
  obtain ⟨G23, gl23, gf23, hS23⟩ := h3.freeze (i := 0) rfl
  replace rd17 := rd17.mono gl23
  replace rd21 := rd21.mono gl23
  have hR : RdS KS G23 (some ⟨lit23, 0, none⟩) liveL := RdS.blks [S.cs ⟨1, 1, 0, 5, []⟩ none 0, S.cs ⟨1, 1, 0, 5, [⟨0, 0⟩]⟩ (some ⟨lit17, 0, none⟩) 1, S.cs ⟨1, 1, 0, 5, [⟨1, 2⟩, ⟨0, 1⟩]⟩ (some ⟨lit21, 0, none⟩) 2] (gf23 _ List.mem_cons_self) rfl ⟨⟨none, 0, rfl, .inl rfl⟩, ⟨_, _, rfl, rd17⟩, ⟨_, _, rfl, rd21⟩, trivial⟩
  replace h3 := hS23
  simp only [List.eraseIdx_cons_zero] at h3
  replace hle := Le.trans hle gl23
  refine WL.v (Runs.assign rfl) rfl ?_
  refine WL.nil ?_
  refine WN.thn ?_
  refine WC.seq ?_
  refine WC.reg ?_
  refine WL.v (Runs.move rfl) rfl ?_
  refine WL.lit (vs := ([-1, -1, -1] : List Int).map Vi) h3 rfl Try.underlying28 inf3 rfl rfl rfl rfl rfl ?_
  intro lit26 w4 h4
  try simp only [List.set_cons_zero, List.set_cons_succ, List.eraseIdx_cons_zero, List.eraseIdx_cons_succ] at h4
  obtain ⟨G26, gl26, rd26, hS26⟩ := St.litRd (xs := ([-1, -1, -1] : List Int)) (f := Vi) h4
  replace h4 := hS26
  replace hR := hR.mono gl26
  replace hle := Le.trans hle gl26
  refine WL.call can16 rfl rfl ((Gives2.to lv_a0 lv_w0 (ready_c _ h4 hR hl1 hf1 rd26 (by decide)))) ?_
  rintro _ w5 ⟨Ga, Aa, capa, hGa, rfl, hca, rda, h5⟩
  refine ⟨_, rfl, ?_⟩
  replace hR := hR.mono hGa
  replace rd26 := rd26.mono hGa
  replace hle := Le.trans hle hGa
  refine WL.v (Runs.move rfl) rfl ?_
  refine WL.v (Runs.extract rfl rfl) rfl ?_
  refine WL.v (Runs.extract rfl rfl) rfl ?_
  refine WL.v (Runs.assign rfl) rfl ?_
  refine WL.v (Runs.assign rfl) rfl ?_
  refine WL.nil ?_
  refine WN.thn ?_
  refine WC.seq ?_
  refine WC.reg ?_
  refine WL.v (Runs.move rfl) rfl ?_
  refine WL.lit (vs := ([0, 3, -1] : List Int).map Vi) h5 rfl Try.underlying28 inf3 rfl rfl rfl rfl rfl ?_
  intro lit32 w6 h6
  try simp only [List.set_cons_zero, List.set_cons_succ, List.eraseIdx_cons_zero, List.eraseIdx_cons_succ] at h6
  obtain ⟨G32, gl32, rd32, hS32⟩ := St.litRd (xs := ([0, 3, -1] : List Int)) (f := Vi) h6
  replace h6 := hS32
  replace hR := hR.mono gl32
  replace rd26 := rd26.mono gl32
  replace rda := rda.mono gl32
  replace hle := Le.trans hle gl32
  refine WL.call can16 rfl rfl ((Gives2.to lv_a1 lv_w1 (ready_c _ h6 hR hl1 hf1 rd32 (by decide)))) ?_
  rintro _ w7 ⟨Gb, Ab, capb, hGb, rfl, hcb, rdb, h7⟩
  refine ⟨_, rfl, ?_⟩
  replace hR := hR.mono hGb
  replace rd26 := rd26.mono hGb
  replace rda := rda.mono hGb
  replace rd32 := rd32.mono hGb
  replace hle := Le.trans hle hGb
  refine WL.v (Runs.move rfl) rfl ?_
  refine WL.v (Runs.extract rfl rfl) rfl ?_
  refine WL.v (Runs.extract rfl rfl) rfl ?_
  refine WL.v (Runs.assign rfl) rfl ?_
  refine WL.v (Runs.assign rfl) rfl ?_
  refine WL.nil ?_
  refine WN.thn ?_
  refine WC.seq ?_
  refine WC.reg ?_
  refine WL.v (Runs.move rfl) rfl ?_
  refine WL.lit (vs := ([3, -1, -1] : List Int).map Vi) h7 rfl Try.underlying28 inf3 rfl rfl rfl rfl rfl ?_
  intro lit38 w8 h8
  try simp only [List.set_cons_zero, List.set_cons_succ, List.eraseIdx_cons_zero, List.eraseIdx_cons_succ] at h8
  obtain ⟨G38, gl38, rd38, hS38⟩ := St.litRd (xs := ([3, -1, -1] : List Int)) (f := Vi) h8
  replace h8 := hS38
  replace hR := hR.mono gl38
  replace rd26 := rd26.mono gl38
  replace rda := rda.mono gl38
  replace rd32 := rd32.mono gl38
  replace rdb := rdb.mono gl38
  replace hle := Le.trans hle gl38
  refine WL.call can18 rfl rfl ((Gives2.to lv_a2 lv_w2 (settle_c _ h8 hR hl1 hf1 rd38 (by decide)))) ?_
  rintro _ w9 ⟨Gc, Ac, capc, hGc, rfl, hcc, rdc, h9⟩
  refine ⟨_, rfl, ?_⟩
  replace hR := hR.mono hGc
  replace rd26 := rd26.mono hGc
  replace rda := rda.mono hGc
  replace rd32 := rd32.mono hGc
  replace rdb := rdb.mono hGc
  replace rd38 := rd38.mono hGc
  replace hle := Le.trans hle hGc
  refine WL.v (Runs.move rfl) rfl ?_
  refine WL.v (Runs.extract rfl rfl) rfl ?_
  refine WL.v (Runs.extract rfl rfl) rfl ?_
  refine WL.v (Runs.assign rfl) rfl ?_
  refine WL.v (Runs.assign rfl) rfl ?_
  refine WL.nil ?_
  refine WN.thn ?_
  refine WC.seq ?_
  refine WC.reg ?_
  refine WL.v (Runs.move rfl) rfl ?_
  refine WL.lit (vs := ([3, -1, -1] : List Int).map Vi) h9 rfl Try.underlying28 inf3 rfl rfl rfl rfl rfl ?_
  intro lit44 w10 h10
  try simp only [List.set_cons_zero, List.set_cons_succ, List.eraseIdx_cons_zero, List.eraseIdx_cons_succ] at h10
  obtain ⟨G44, gl44, rd44, hS44⟩ := St.litRd (xs := ([3, -1, -1] : List Int)) (f := Vi) h10
  replace h10 := hS44
  replace hR := hR.mono gl44
  replace rd26 := rd26.mono gl44
  replace rda := rda.mono gl44
  replace rd32 := rd32.mono gl44
  replace rdb := rdb.mono gl44
  replace rd38 := rd38.mono gl44
  replace rdc := rdc.mono gl44
  replace hle := Le.trans hle gl44
  refine WL.call can20 rfl rfl ((C1.to (g := ovV) lv_a3 (over_c _ h10 hR hl1 hf1 rd44 (by decide)))) ?_
  rintro _ w11 ⟨rfl, h11⟩
  refine ⟨_, rfl, ?_⟩
  refine WL.v (Runs.move rfl) rfl ?_
  refine WL.v (Runs.extract rfl rfl) rfl ?_
  refine WL.v (Runs.extract rfl rfl) rfl ?_
  refine WL.v (Runs.assign rfl) rfl ?_
  refine WL.v (Runs.assign rfl) rfl ?_
  refine WL.nil ?_
  refine WN.thn ?_
  refine WC.seq ?_
  refine WC.reg ?_
  refine WL.v (Runs.move rfl) rfl ?_
  refine WL.lit (vs := ([0] : List Int).map Vi) h11 rfl Try.underlying28 inf3 rfl rfl rfl rfl rfl ?_
  intro lit50 w12 h12
  try simp only [List.set_cons_zero, List.set_cons_succ, List.eraseIdx_cons_zero, List.eraseIdx_cons_succ] at h12
  obtain ⟨G50, gl50, rd50, hS50⟩ := St.litRd (xs := ([0] : List Int)) (f := Vi) h12
  replace h12 := hS50
  replace hR := hR.mono gl50
  replace rd26 := rd26.mono gl50
  replace rda := rda.mono gl50
  replace rd32 := rd32.mono gl50
  replace rdb := rdb.mono gl50
  replace rd38 := rd38.mono gl50
  replace rdc := rdc.mono gl50
  replace rd44 := rd44.mono gl50
  replace hle := Le.trans hle gl50
  refine WL.call can16 rfl rfl ((Gives2.to lv_a4 lv_w4 (ready_c _ h12 hR hl1 hf1 rd50 (by decide)))) ?_
  rintro _ w13 ⟨Gd, Ad, capd, hGd, rfl, hcd, rdd, h13⟩
  refine ⟨_, rfl, ?_⟩
  replace hR := hR.mono hGd
  replace rd26 := rd26.mono hGd
  replace rda := rda.mono hGd
  replace rd32 := rd32.mono hGd
  replace rdb := rdb.mono hGd
  replace rd38 := rd38.mono hGd
  replace rdc := rdc.mono hGd
  replace rd44 := rd44.mono hGd
  replace rd50 := rd50.mono hGd
  replace hle := Le.trans hle hGd
  refine WL.v (Runs.move rfl) rfl ?_
  refine WL.v (Runs.extract rfl rfl) rfl ?_
  refine WL.v (Runs.extract rfl rfl) rfl ?_
  refine WL.v (Runs.assign rfl) rfl ?_
  refine WL.v (Runs.assign rfl) rfl ?_
  refine WL.nil ?_
  refine WN.thn ?_
  refine WC.seq ?_
  obtain ⟨ad, A1, cap1, hAd, hE1, hcell⟩ := stepAt hR (n := 0) (by decide)
  injection hAd with hAd
  subst hAd
  refine WC.eregO h13 (fun s_ => ([] : List Nat).any (Nat.beq s_)) mixed (by kernel_rfl) (fun hx => ?_)
  intro w14 h14
  refine WE.pure (g := none) hx 0 (by rfl) trivial (by kernel_rfl) (by kernel_rfl) (by kernel_rfl) (by kernel_rfl) (fun w_ => Runs.move rfl) rfl ?_
  refine WE.pure (g := none) hx 1 (by rfl) trivial (by kernel_rfl) (by kernel_rfl) (by kernel_rfl) (by kernel_rfl) (fun w_ => Runs.lidxK Try.underlying22 inf38 rfl rfl (n := 0) rfl (by decide)) rfl ?_
  refine WE.pure (g := none) hx 3 (by rfl) trivial (by kernel_rfl) (by kernel_rfl) (by kernel_rfl) (by kernel_rfl) (fun w_ => Runs.move rfl) rfl ?_
  refine WE.pure (g := none) hx 4 (by rfl) trivial (by kernel_rfl) (by kernel_rfl) (by kernel_rfl) (by kernel_rfl) (fun w_ => Runs.lidxK Try.underlying22 inf38 rfl rfl (n := 0) rfl (by decide)) rfl ?_
  refine WE.val (g := none) 12 hx 2 (by rfl) trivial (by kernel_rfl) (by kernel_rfl) (by kernel_rfl) (by kernel_rfl) (fun w_ hE_ => Runs.stepA (s := liveL.getD 0 S0) hE_ hcell Try.underlying38 rfl inf38 rfl) rfl ?_
  refine WE.val (g := none) 12 hx 5 (by rfl) trivial (by kernel_rfl) (by kernel_rfl) (by kernel_rfl) (by kernel_rfl) (fun w_ hE_ => Runs.stepA (s := liveL.getD 0 S0) hE_ hcell Try.underlying38 rfl inf38 rfl) rfl ?_
  refine WE.op (.inr h14) (i := 6) (by rfl) (by kernel_rfl) ?_
  refine WL.buildSlice (vs := [.agg #[Vi 1, Vi 1, Vi 0, Vi 5, .slice A1 0 cap1], .agg #[Vi 1, Vi 1, Vi 0, Vi 5, .slice A1 0 cap1]]) h14 rfl Try.underlying22 (inf38.elem rfl rfl) rfl rfl rfl (by decide) ?_
  intro lit60 w15 h15
  try simp only [List.set_cons_zero, List.set_cons_succ, List.eraseIdx_cons_zero, List.eraseIdx_cons_succ] at h15
  refine WL.nil ?_
  refine WE.next ?_
  refine WE.pure (g := none) hx 7 (by rfl) trivial (by kernel_rfl) (by kernel_rfl) (by kernel_rfl) (by kernel_rfl) (fun w_ => Runs.assign rfl) rfl ?_
  refine WE.fin (.inr (h15.drop 0)) (by kernel_rfl) ?_
  refine WN.thn ?_
  refine WC.seq ?_
  refine WC.reg ?_
  refine WL.v (Runs.move rfl) rfl ?_
  refine WL.v (Runs.build (vs := [(0, Vi 1)]) (cells := #[Vi 1, Vi 0]) rfl (by kernel_rfl)) rfl ?_
  refine WL.buildSlice (vs := [.agg #[Vi 1, Vi 0]]) h15 rfl Try.underlying36 (inf40.elem rfl rfl) rfl rfl rfl (by decide) ?_
  intro lit63 w16 h16
  try simp only [List.set_cons_zero, List.set_cons_succ, List.eraseIdx_cons_zero, List.eraseIdx_cons_succ] at h16
  obtain ⟨G63, gl63, gf63, hS63⟩ := h16.freeze (i := 0) rfl
  have rd63 : RdS KE G63 (some ⟨lit63, 0, none⟩) [⟨1, 0⟩] := RdS.blks [[Vi 1, Vi 0]] (gf63 _ List.mem_cons_self) rfl ⟨rfl, trivial⟩
  replace h16 := hS63
  simp only [List.eraseIdx_cons_zero] at h16
  replace hR := hR.mono gl63
  replace rd26 := rd26.mono gl63
  replace rda := rda.mono gl63
  replace rd32 := rd32.mono gl63
  replace rdb := rdb.mono gl63
  replace rd38 := rd38.mono gl63
  replace rdc := rdc.mono gl63
  replace rd44 := rd44.mono gl63
  replace rd50 := rd50.mono gl63
  replace rdd := rdd.mono gl63
  replace hle := Le.trans hle gl63
  refine WL.v (Runs.valT (u := .pointer (some ⟨lit60, 0, none⟩)) (Runs.lidxK Try.underlying22 inf38 rfl rfl (n := 0) rfl (by decide)) (by rw [add_mk, Nat.zero_add])) rfl ?_
  refine WL.v (Runs.fld fld38_4 rfl) rfl ?_
  refine WL.store' h16 0 rfl rfl rfl inf36 rfl rfl (Free.zero _) (Nat.le_of_ble_eq_true rfl) ?_
  intro  w17 h17
  try simp only [List.set_cons_zero, List.set_cons_succ, List.eraseIdx_cons_zero, List.eraseIdx_cons_succ] at h17
  refine WL.nil ?_
  refine WN.thn ?_
  refine WC.seq ?_
  refine WC.reg ?_
  refine WL.v (Runs.move rfl) rfl ?_
  refine WL.v (Runs.build (vs := [(0, Vi 0)]) (cells := #[Vi 0, Vi 0]) rfl (by kernel_rfl)) rfl ?_
  refine WL.buildSlice (vs := [.agg #[Vi 0, Vi 0]]) h17 rfl Try.underlying36 (inf40.elem rfl rfl) rfl rfl rfl (by decide) ?_
  intro lit68 w18 h18
  try simp only [List.set_cons_zero, List.set_cons_succ, List.eraseIdx_cons_zero, List.eraseIdx_cons_succ] at h18
  obtain ⟨G68, gl68, gf68, hS68⟩ := h18.freeze (i := 0) rfl
  have rd68 : RdS KE G68 (some ⟨lit68, 0, none⟩) [⟨0, 0⟩] := RdS.blks [[Vi 0, Vi 0]] (gf68 _ List.mem_cons_self) rfl ⟨rfl, trivial⟩
  replace h18 := hS68
  simp only [List.eraseIdx_cons_zero] at h18
  replace hR := hR.mono gl68
  replace rd26 := rd26.mono gl68
  replace rda := rda.mono gl68
  replace rd32 := rd32.mono gl68
  replace rdb := rdb.mono gl68
  replace rd38 := rd38.mono gl68
  replace rdc := rdc.mono gl68
  replace rd44 := rd44.mono gl68
  replace rd50 := rd50.mono gl68
  replace rdd := rdd.mono gl68
  replace rd63 := rd63.mono gl68
  replace hle := Le.trans hle gl68
  refine WL.v (Runs.valT (u := .pointer (some ⟨lit60, 5, none⟩)) (Runs.lidxK Try.underlying22 inf38 rfl rfl (n := 1) rfl (by decide)) (by rw [add_mk, Nat.zero_add])) rfl ?_
  refine WL.v (Runs.fld fld38_4 rfl) rfl ?_
  refine WL.store' h18 0 rfl rfl rfl inf36 rfl rfl (Free.zero _) (Nat.le_of_ble_eq_true rfl) ?_
  intro  w19 h19
  try simp only [List.set_cons_zero, List.set_cons_succ, List.eraseIdx_cons_zero, List.eraseIdx_cons_succ] at h19
  refine WL.nil ?_
  refine WN.thn ?_
  refine WC.seq ?_
  obtain ⟨G60, gl60, gf60, hS60⟩ := h19.freeze (i := 0) rfl
  replace rd63 := rd63.mono gl60
  replace rd68 := rd68.mono gl60
  have hK : RdS KS G60 (some ⟨lit60, 0, none⟩) kL := RdS.blks [S.cs ⟨1, 1, 0, 5, [⟨1, 0⟩]⟩ (some ⟨lit63, 0, none⟩) 1, S.cs ⟨1, 1, 0, 5, [⟨0, 0⟩]⟩ (some ⟨lit68, 0, none⟩) 1] (gf60 _ List.mem_cons_self) rfl ⟨⟨_, _, rfl, rd63⟩, ⟨_, _, rfl, rd68⟩, trivial⟩
  replace h19 := hS60
  simp only [List.eraseIdx_cons_zero] at h19
  replace hR := hR.mono gl60
  replace rd26 := rd26.mono gl60
  replace rda := rda.mono gl60
  replace rd32 := rd32.mono gl60
  replace rdb := rdb.mono gl60
  replace rd38 := rd38.mono gl60
  replace rdc := rdc.mono gl60
  replace rd44 := rd44.mono gl60
  replace rd50 := rd50.mono gl60
  replace rdd := rdd.mono gl60
  replace hle := Le.trans hle gl60
  
  refine WC.reg ?_
  refine WL.v (Runs.move rfl) rfl ?_
  refine WL.lit (vs := ([0, -1, -1] : List Int).map Vi) h19 rfl Try.underlying28 inf3 rfl rfl rfl rfl rfl ?_
  intro lit73 w20 h20
  try simp only [List.set_cons_zero, List.set_cons_succ, List.eraseIdx_cons_zero, List.eraseIdx_cons_succ] at h20
  obtain ⟨G73, gl73, rd73, hS73⟩ := St.litRd (xs := ([0, -1, -1] : List Int)) (f := Vi) h20
  replace h20 := hS73
  replace hR := hR.mono gl73
  replace rd26 := rd26.mono gl73
  replace rda := rda.mono gl73
  replace rd32 := rd32.mono gl73
  replace rdb := rdb.mono gl73
  replace rd38 := rd38.mono gl73
  replace rdc := rdc.mono gl73
  replace rd44 := rd44.mono gl73
  replace rd50 := rd50.mono gl73
  replace rdd := rdd.mono gl73
  replace hK := hK.mono gl73
  replace hle := Le.trans hle gl73
  refine WL.call can20 rfl rfl ((C1.to (g := ovV) lv_a5 (over_c _ h20 hR hl1 hf1 rd73 (by decide)))) ?_
  rintro _ w21 ⟨rfl, h21⟩
  refine ⟨_, rfl, ?_⟩
  refine WL.v (Runs.move rfl) rfl ?_
  refine WL.v (Runs.extract rfl rfl) rfl ?_
  refine WL.v (Runs.extract rfl rfl) rfl ?_
  refine WL.v (Runs.assign rfl) rfl ?_
  refine WL.v (Runs.assign rfl) rfl ?_
  refine WL.nil ?_
  refine WN.thn ?_
  refine WC.seq ?_
  refine WC.reg ?_
  refine WL.v (Runs.move rfl) rfl ?_
  refine WL.call can11 rfl rfl ((C1.to (g := Vi) lv_k1 (check_c _ h21 hR hl1 hf1))) ?_
  rintro _ w22 ⟨rfl, h22⟩
  refine ⟨_, rfl, ?_⟩
  refine WL.v (Runs.boolT (c := true) (Runs.eql rfl rfl) rfl) rfl ?_
  refine WL.v (Runs.move rfl) rfl ?_
  refine WL.gon rfl rfl rfl ?_
  refine WL.v (Runs.move rfl) rfl ?_
  refine WL.gon rfl rfl rfl ?_
  refine WL.call can14 rfl rfl ((show Calls _ _ _ _ (fun r w' => Gives _ _ _ Vi [0, 1, 2] r w') from lv_o1 ▸ Order_c _ h22 hR hl1 hf1)) ?_
  rintro _ w23 ⟨Go, Ao, capo, hGo, rfl, hco, rdo, h23⟩
  refine ⟨_, rfl, ?_⟩
  replace hR := hR.mono hGo
  replace rd26 := rd26.mono hGo
  replace rda := rda.mono hGo
  replace rd32 := rd32.mono hGo
  replace rdb := rdb.mono hGo
  replace rd38 := rd38.mono hGo
  replace rdc := rdc.mono hGo
  replace rd44 := rd44.mono hGo
  replace rd50 := rd50.mono hGo
  replace rdd := rdd.mono hGo
  replace hK := hK.mono hGo
  replace rd73 := rd73.mono hGo
  replace hle := Le.trans hle hGo
  refine WL.gon rfl rfl rfl ?_
  refine WL.lit (vs := ([0, 1, 2] : List Int).map Vi) h23 rfl Try.underlying28 inf3 rfl rfl rfl rfl rfl ?_
  intro lit83 w24 h24
  try simp only [List.set_cons_zero, List.set_cons_succ, List.eraseIdx_cons_zero, List.eraseIdx_cons_succ] at h24
  obtain ⟨G83, gl83, rd83, hS83⟩ := St.litRd (xs := ([0, 1, 2] : List Int)) (f := Vi) h24
  replace h24 := hS83
  replace hR := hR.mono gl83
  replace rd26 := rd26.mono gl83
  replace rda := rda.mono gl83
  replace rd32 := rd32.mono gl83
  replace rdb := rdb.mono gl83
  replace rd38 := rd38.mono gl83
  replace rdc := rdc.mono gl83
  replace rd44 := rd44.mono gl83
  replace rd50 := rd50.mono gl83
  replace rdd := rdd.mono gl83
  replace hK := hK.mono gl83
  replace rd73 := rd73.mono gl83
  replace rdo := rdo.mono gl83
  replace hle := Le.trans hle gl83
  refine WL.gon rfl rfl rfl ?_
  refine WL.call can13 rfl rfl (same_c _ h24 rdo rd83 (by decide)) ?_
  rintro _ w25 ⟨rfl, h25⟩
  refine ⟨_, rfl, ?_⟩
  refine WL.v (Runs.pick rfl rfl rfl) rfl ?_
  refine WL.v (Runs.move rfl) rfl ?_
  refine WL.gon rfl rfl rfl ?_
  refine WL.v (Runs.move rfl) rfl ?_
  refine WL.gon rfl rfl rfl ?_
  refine WL.v (Runs.eql rfl rfl) rfl ?_
  refine WL.v (Runs.pick rfl rfl rfl) rfl ?_
  refine WL.v (Runs.move rfl) rfl ?_
  refine WL.gon rfl rfl rfl ?_
  refine WL.v (Runs.move rfl) rfl ?_
  refine WL.gon rfl rfl rfl ?_
  refine WL.lit (vs := ([0] : List Int).map Vi) h25 rfl Try.underlying28 inf3 rfl rfl rfl rfl rfl ?_
  intro lit92 w26 h26
  try simp only [List.set_cons_zero, List.set_cons_succ, List.eraseIdx_cons_zero, List.eraseIdx_cons_succ] at h26
  obtain ⟨G92, gl92, rd92, hS92⟩ := St.litRd (xs := ([0] : List Int)) (f := Vi) h26
  replace h26 := hS92
  replace hR := hR.mono gl92
  replace rd26 := rd26.mono gl92
  replace rda := rda.mono gl92
  replace rd32 := rd32.mono gl92
  replace rdb := rdb.mono gl92
  replace rd38 := rd38.mono gl92
  replace rdc := rdc.mono gl92
  replace rd44 := rd44.mono gl92
  replace rd50 := rd50.mono gl92
  replace rdd := rdd.mono gl92
  replace hK := hK.mono gl92
  replace rd73 := rd73.mono gl92
  replace rdo := rdo.mono gl92
  replace rd83 := rd83.mono gl92
  replace hle := Le.trans hle gl92
  refine WL.gon rfl rfl rfl ?_
  refine WL.call can13 rfl rfl (same_c _ h26 rda rd92 (by decide)) ?_
  rintro _ w27 ⟨rfl, h27⟩
  refine ⟨_, rfl, ?_⟩
  refine WL.v (Runs.pick rfl rfl rfl) rfl ?_
  refine WL.v (Runs.move rfl) rfl ?_
  refine WL.gon rfl rfl rfl ?_
  refine WL.v (Runs.move rfl) rfl ?_
  refine WL.gon rfl rfl rfl ?_
  refine WL.lit (vs := ([2] : List Int).map Vi) h27 rfl Try.underlying28 inf3 rfl rfl rfl rfl rfl ?_
  intro lit97 w28 h28
  try simp only [List.set_cons_zero, List.set_cons_succ, List.eraseIdx_cons_zero, List.eraseIdx_cons_succ] at h28
  obtain ⟨G97, gl97, rd97, hS97⟩ := St.litRd (xs := ([2] : List Int)) (f := Vi) h28
  replace h28 := hS97
  replace hR := hR.mono gl97
  replace rd26 := rd26.mono gl97
  replace rda := rda.mono gl97
  replace rd32 := rd32.mono gl97
  replace rdb := rdb.mono gl97
  replace rd38 := rd38.mono gl97
  replace rdc := rdc.mono gl97
  replace rd44 := rd44.mono gl97
  replace rd50 := rd50.mono gl97
  replace rdd := rdd.mono gl97
  replace hK := hK.mono gl97
  replace rd73 := rd73.mono gl97
  replace rdo := rdo.mono gl97
  replace rd83 := rd83.mono gl97
  replace rd92 := rd92.mono gl97
  replace hle := Le.trans hle gl97
  refine WL.gon rfl rfl rfl ?_
  refine WL.call can13 rfl rfl (same_c _ h28 rdb rd97 (by decide)) ?_
  rintro _ w29 ⟨rfl, h29⟩
  refine ⟨_, rfl, ?_⟩
  refine WL.v (Runs.pick rfl rfl rfl) rfl ?_
  refine WL.v (Runs.move rfl) rfl ?_
  refine WL.gon rfl rfl rfl ?_
  refine WL.v (Runs.move rfl) rfl ?_
  refine WL.gon rfl rfl rfl ?_
  refine WL.lit (vs := ([3, 256, 256] : List Int).map Vi) h29 rfl Try.underlying28 inf3 rfl rfl rfl rfl rfl ?_
  intro lit102 w30 h30
  try simp only [List.set_cons_zero, List.set_cons_succ, List.eraseIdx_cons_zero, List.eraseIdx_cons_succ] at h30
  obtain ⟨G102, gl102, rd102, hS102⟩ := St.litRd (xs := ([3, 256, 256] : List Int)) (f := Vi) h30
  replace h30 := hS102
  replace hR := hR.mono gl102
  replace rd26 := rd26.mono gl102
  replace rda := rda.mono gl102
  replace rd32 := rd32.mono gl102
  replace rdb := rdb.mono gl102
  replace rd38 := rd38.mono gl102
  replace rdc := rdc.mono gl102
  replace rd44 := rd44.mono gl102
  replace rd50 := rd50.mono gl102
  replace rdd := rdd.mono gl102
  replace hK := hK.mono gl102
  replace rd73 := rd73.mono gl102
  replace rdo := rdo.mono gl102
  replace rd83 := rd83.mono gl102
  replace rd92 := rd92.mono gl102
  replace rd97 := rd97.mono gl102
  replace hle := Le.trans hle gl102
  refine WL.gon rfl rfl rfl ?_
  refine WL.call can13 rfl rfl (same_c _ h30 rdc rd102 (by decide)) ?_
  rintro _ w31 ⟨rfl, h31⟩
  refine ⟨_, rfl, ?_⟩
  refine WL.v (Runs.pick rfl rfl rfl) rfl ?_
  refine WL.v (Runs.move rfl) rfl ?_
  refine WL.gon rfl rfl rfl ?_
  refine WL.v (Runs.move rfl) rfl ?_
  refine WL.gon rfl rfl rfl ?_
  refine WL.v (Runs.boolT (c := true) (Runs.eql rfl rfl) rfl) rfl ?_
  refine WL.v (Runs.pick rfl rfl rfl) rfl ?_
  refine WL.v (Runs.move rfl) rfl ?_
  refine WL.gon rfl rfl rfl ?_
  refine WL.v (Runs.move rfl) rfl ?_
  refine WL.v (Runs.pick rfl rfl rfl) rfl ?_
  refine WL.v (Runs.move rfl) rfl ?_
  refine WL.gon rfl rfl rfl ?_
  refine WL.v (Runs.move rfl) rfl ?_
  refine WL.gon rfl rfl rfl ?_
  refine WL.v (Runs.boolT (c := true) (Runs.not rfl) rfl) rfl ?_
  refine WL.v (Runs.pick rfl rfl rfl) rfl ?_
  refine WL.v (Runs.move rfl) rfl ?_
  refine WL.gon rfl rfl rfl ?_
  refine WL.v (Runs.move rfl) rfl ?_
  refine WL.gon rfl rfl rfl ?_
  refine WL.v (Runs.eql rfl rfl) rfl ?_
  refine WL.v (Runs.pick rfl rfl rfl) rfl ?_
  refine WL.v (Runs.move rfl) rfl ?_
  refine WL.gon rfl rfl rfl ?_
  refine WL.v (Runs.move rfl) rfl ?_
  refine WL.gon rfl rfl rfl ?_
  refine WL.call can11 rfl rfl ((C1.to (g := Vi) lv_k2 (check_c _ h31 hK hl2 hf2))) ?_
  rintro _ w32 ⟨rfl, h32⟩
  refine ⟨_, rfl, ?_⟩
  refine WL.gon rfl rfl rfl ?_
  refine WL.v (Runs.boolT (c := true) (Runs.eql rfl rfl) rfl) rfl ?_
  refine WL.v (Runs.pick rfl rfl rfl) rfl ?_
  refine WL.v (Runs.move rfl) rfl ?_
  refine WL.gon rfl rfl rfl ?_
  refine WL.call can11 rfl rfl ((C1.to (g := Vi) lv_k3 (check_c (A := none) (cap := 0) (l := []) _ h32 (.inl rfl) (by decide) (fun i hi => absurd hi (Nat.not_lt_zero _))))) ?_
  rintro _ w33 ⟨rfl, h33⟩
  refine ⟨_, rfl, ?_⟩
  refine WL.gon rfl rfl rfl ?_
  refine WL.v (Runs.boolT (c := true) (Runs.eql rfl rfl) rfl) rfl ?_
  refine WL.v (Runs.pick rfl rfl rfl) rfl ?_
  refine WL.v (Runs.assign rfl) rfl ?_
  refine WL.nil ?_
  refine WN.thn ?_
  refine WC.ret ?_
  exact ret1 rfl rfl ⟨rfl, h33.weak hle⟩
end Dg
end Go.Proofs.Ytkfkdenikkadhaa
