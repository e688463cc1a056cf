/- The laws of chapter 15: some answers. -/
import Derived.Test.YthejglgnoingfaaProg
import Derived.KernelRfl
import Derived.Test.YthejglgnoingfaaMBaseAH
import Derived.Test.YthejglgnoingfaaME2
namespace Go.Proofs.Ythejglgnoingfaa
open Go Go.RowKit B
set_option linter.unusedVariables false
set_option linter.unusedSimpArgs false
namespace Rc
open Wir (numB listB rdN rdL rdEnd)

theorem can11 : B.Can Try.prog 11 := ⟨_, Try.func11, by kernel_rfl, rfl⟩   -- roundhouse/rec.Decode
theorem can13 : B.Can Try.prog 13 := ⟨_, Try.func13, by kernel_rfl, rfl⟩   -- roundhouse/rec.Encode
theorem can15 : B.Can Try.prog 15 := ⟨_, Try.func15, by kernel_rfl, rfl⟩   -- roundhouse/roundhouseref15.Recs
theorem can22 : B.Can Try.prog 22 := ⟨_, Try.func22, by kernel_rfl, rfl⟩   -- roundhouse/rec.StepOf
theorem can29 : B.Can Try.prog 29 := ⟨_, Try.func29, by kernel_rfl, rfl⟩   -- roundhouse/rec.Fold
def lL : List R := [⟨0, 1, 0, 0, 0, []⟩, ⟨1, 1, 0, 2, 0, [4, 9]⟩, ⟨3, 1, 0, 2, 0, []⟩, ⟨5, 1, 0, 2, 3, []⟩, ⟨6, 1, 0, 0, 0, []⟩]
def rL0 : R := ⟨0, 1, 0, 0, 0, []⟩
def rL1 : R := ⟨1, 1, 0, 2, 0, [4, 9]⟩
def rL2 : R := ⟨3, 1, 0, 2, 0, []⟩
def rL3 : R := ⟨5, 1, 0, 2, 3, []⟩
def rL4 : R := ⟨6, 1, 0, 0, 0, []⟩
def rLA : R := ⟨4, 1, 0, 2, 0, []⟩
def tL : List R := [lL.getD 0 R0, lL.getD 1 R0, rLA, lL.getD 2 R0]
def zL : Z := (foldM Z0 lL).1
def tz : Z := (foldM Z0 tL).1
def az : Z := (foldM Z0 (lL.take 3)).1
def dz : Z := ⟨[], [], true⟩
theorem zL_few : few zL := ⟨by decide +kernel, by decide +kernel, by decide +kernel⟩
theorem dz_few : few dz := ⟨by decide +kernel, by decide +kernel, by decide +kernel⟩
theorem az_few : few az := ⟨by decide +kernel, by decide +kernel, by decide +kernel⟩
theorem dz_R {F : Snap} : ZR F none none dz := ⟨.inl rfl, .inl rfl⟩
theorem aliveB_c {W w : World} {F : Snap} {cs : List Res} {AJ AS : Option Addr} {cj cS : Nat} {z : Z} {b : Bool} {jb ep : Int} (e : aliveM z jb ep = b) (hz : few z) (hR : ZR F AJ AS z) (h : St W F cs w) : Calls Try.prog 26 #[.agg #[.slice AJ z.js.length cj, .slice AS z.ss.length cS, .bool z.dr], Vi jb, Vi ep] w fun e w' => e = .returned (.bool b) ∧ St W F cs w' := by
  have := alive_c (AJ := AJ) (cj := cj) (cS := cS) w jb ep h (RdK.of hR.s) (by have := hz.s; omega)
  rwa [e] at this
theorem recsT {W : World} {F : Snap} {cs : List Res} (w : World) {Al : Option Addr} {cl : Nat} {r : R} {r' : R} {Bl : Option Addr} {dl : Nat} (e : r = r') (hl : RdS (Kd.one Vi) F Al r.ls) (hn : r.ls.length ≤ 100000) (hl2 : RdS (Kd.one Vi) F Bl r'.ls) (h : St W F cs w) : Calls Try.prog 15 #[.agg #[Vi r.kd, Vi r.jb, Vi r.ep, Vi r.st, Vi r.ar, .slice Al r.ls.length cl], .agg #[Vi r'.kd, Vi r'.jb, Vi r'.ep, Vi r'.st, Vi r'.ar, .slice Bl r'.ls.length dl]] w fun e w' => e = .returned (.bool true) ∧ St W F cs w' := by
  subst e
  exact recs_c w hl hn hl2 h
theorem back1 : (decM (encR (lL.getD 1 R0))).1 = lL.getD 1 R0 := by kernel_rfl
set_option maxRecDepth 100000 in
set_option maxHeartbeats 16000000 in
theorem live_c {W : World} {F : Snap} {cs : List Res} (w : World) (h : St W F cs w) : Calls Try.prog 10 #[] w fun e w' => ∃ G, Le F G ∧ e = .returned (.bool true) ∧ St W G cs w'  := by
  refine enter (P := Try.prog) (args := []) Try.func10 rfl rfl rfl ?_
  have hleF := Le.refl F
  refine WC.seq (WC.reg ?_)
  refine WL.v (Runs.assign rfl) rfl ?_
  refine WL.nil (WN.thn (WC.seq (WC.reg ?_)))
  refine WL.v (Runs.build (vs := [(1, Vi 1)]) (cells := #[Vi 0, Vi 1, Vi 0, Vi 0, Vi 0, .slice none 0 0]) rfl (by kernel_rfl)) rfl ?_
  refine WL.buildSlice (vs := [Vi 4, Vi 9]) h rfl Try.underlying22 (inf3.elem rfl rfl) rfl rfl rfl (by decide) ?_
  intro lit21 w1 h1
  try simp only [lz, ls, ez, es'] at h1
  obtain ⟨Gl21, hGl21, gf21, hS21⟩ := h1.freeze (i := 0) rfl
  have rd21 : RdS (Kd.one Vi) Gl21 (some ⟨lit21, 0, none⟩) [4, 9] := RdS.ints (gf21 _ List.mem_cons_self) rfl
  replace h1 := hS21
  simp only [List.eraseIdx_cons_zero] at h1
  replace hleF := Le.trans hleF hGl21
  refine WL.v (Runs.build (vs := [(0, Vi 1), (1, Vi 1), (3, Vi 2), (5, .slice (some ⟨lit21, 0, none⟩) 2 2)]) (cells := #[Vi 1, Vi 1, Vi 0, Vi 2, Vi 0, .slice (some ⟨lit21, 0, none⟩) 2 2]) rfl (by kernel_rfl)) rfl ?_
  refine WL.v (Runs.build (vs := [(0, Vi 3), (1, Vi 1), (3, Vi 2)]) (cells := #[Vi 3, Vi 1, Vi 0, Vi 2, Vi 0, .slice none 0 0]) rfl (by kernel_rfl)) rfl ?_
  refine WL.v (Runs.build (vs := [(0, Vi 5), (1, Vi 1), (3, Vi 2), (4, Vi 3)]) (cells := #[Vi 5, Vi 1, Vi 0, Vi 2, Vi 3, .slice none 0 0]) rfl (by kernel_rfl)) rfl ?_
  refine WL.v (Runs.build (vs := [(0, Vi 6), (1, Vi 1)]) (cells := #[Vi 6, Vi 1, Vi 0, Vi 0, Vi 0, .slice none 0 0]) rfl (by kernel_rfl)) rfl ?_
  refine WL.buildSlice (vs := [.agg #[Vi rL0.kd, Vi rL0.jb, Vi rL0.ep, Vi rL0.st, Vi rL0.ar, .slice none rL0.ls.length 0], .agg #[Vi rL1.kd, Vi rL1.jb, Vi rL1.ep, Vi rL1.st, Vi rL1.ar, .slice (some ⟨lit21, 0, none⟩) rL1.ls.length 2], .agg #[Vi rL2.kd, Vi rL2.jb, Vi rL2.ep, Vi rL2.st, Vi rL2.ar, .slice none rL2.ls.length 0], .agg #[Vi rL3.kd, Vi rL3.jb, Vi rL3.ep, Vi rL3.st, Vi rL3.ar, .slice none rL3.ls.length 0], .agg #[Vi rL4.kd, Vi rL4.jb, Vi rL4.ep, Vi rL4.st, Vi rL4.ar, .slice none rL4.ls.length 0]]) h1 rfl Try.underlying65 (inf24.elem rfl rfl) rfl rfl rfl (by decide) ?_
  intro lit26 w2 h2
  try simp only [lz, ls, ez, es'] at h2
  obtain ⟨Gl26, hGl26, gf26, hS26⟩ := h2.freeze (i := 0) rfl
  replace h2 := hS26
  simp only [List.eraseIdx_cons_zero] at h2
  replace hleF := Le.trans hleF hGl26
  replace rd21 := rd21.mono hGl26
  have rd26 : RdS KR Gl26 (some ⟨lit26, 0, none⟩) lL := RdS.blks (d := KR) [[Vi rL0.kd, Vi rL0.jb, Vi rL0.ep, Vi rL0.st, Vi rL0.ar, .slice none rL0.ls.length 0], [Vi rL1.kd, Vi rL1.jb, Vi rL1.ep, Vi rL1.st, Vi rL1.ar, .slice (some ⟨lit21, 0, none⟩) rL1.ls.length 2], [Vi rL2.kd, Vi rL2.jb, Vi rL2.ep, Vi rL2.st, Vi rL2.ar, .slice none rL2.ls.length 0], [Vi rL3.kd, Vi rL3.jb, Vi rL3.ep, Vi rL3.st, Vi rL3.ar, .slice none rL3.ls.length 0], [Vi rL4.kd, Vi rL4.jb, Vi rL4.ep, Vi rL4.st, Vi rL4.ar, .slice none rL4.ls.length 0]] (gf26 _ List.mem_cons_self) rfl ⟨⟨none, 0, rfl, .inl rfl⟩, ⟨(some ⟨lit21, 0, none⟩), 2, rfl, rd21⟩, ⟨none, 0, rfl, .inl rfl⟩, ⟨none, 0, rfl, .inl rfl⟩, ⟨none, 0, rfl, .inl rfl⟩,  trivial⟩
  refine WL.v (Runs.assign rfl) rfl ?_
  refine WL.nil (WN.thn (WC.seq (WC.reg ?_)))
  refine WL.v (Runs.move rfl) rfl ?_
  refine WL.call can29 rfl rfl ((show Calls _ _ #[.slice (some ⟨lit26, 0, none⟩) 5 5] _ _ from fold_c (l := lL) _ (by decide) (by decide +kernel) rd26 h2)) ?_
  rintro _ w3 ⟨G29, AJ29, AS29, cj29, cS29, hG29, rfl, hZ29, h3⟩
  refine ⟨_, rfl, ?_⟩
  replace hleF := Le.trans hleF hG29
  replace rd21 := rd21.mono hG29
  replace rd26 := rd26.mono hG29
  refine WL.v (Runs.move rfl) rfl ?_
  refine WL.v (Runs.extract rfl rfl) rfl ?_
  refine WL.v (Runs.extract rfl rfl) rfl ?_
  refine WL.alloc' rfl h3 inf40 ?_
  intro b2 w4 h4
  refine WL.storeAll h4 0 rfl rfl rfl inf40 rfl rfl rfl (Free.zero _) ?_
  intro  w5 h5
  try simp only [lz, ls, ez, es'] at h5
  refine WL.v (Runs.assign rfl) rfl ?_
  refine WL.nil (WN.thn (WC.seq ?_))
  obtain ⟨ad0, ce0, hea0, ⟨Al0, cl0, rfl, hps0⟩, hcell0⟩ := rd26.atD R0 (i := 0) (by decide)
  obtain rfl := Option.some.inj hea0
  obtain ⟨ad1, ce1, hea1, ⟨Al1, cl1, rfl, hps1⟩, hcell1⟩ := rd26.atD R0 (i := 1) (by decide)
  obtain rfl := Option.some.inj hea1
  obtain ⟨ad2, ce2, hea2, ⟨Al2, cl2, rfl, hps2⟩, hcell2⟩ := rd26.atD R0 (i := 2) (by decide)
  obtain rfl := Option.some.inj hea2
  refine WC.eregK h5 h5 (fun s_ => ([16] : List Nat).any (Nat.beq s_)) mixed (by kernel_rfl) (fun hx => ?_)
  intro w6 h6
  refine WE.p0 hx 0 (by rfl) (fun w_ => Runs.move rfl) rfl ?_
  refine WE.p0 hx 1 (by rfl) (fun w_ => Runs.lidxK Try.underlying65 inf24 rfl rfl (n := 0) rfl (by decide)) rfl ?_
  refine WE.p0 hx 3 (by rfl) (fun w_ => Runs.move rfl) rfl ?_
  refine WE.p0 hx 4 (by rfl) (fun w_ => Runs.lidxK Try.underlying65 inf24 rfl rfl (n := 1) rfl (by decide)) rfl ?_
  refine WE.p0 hx 6 (by rfl) (fun w_ => Runs.build (vs := [(0, Vi 4), (1, Vi 1), (3, Vi 2)]) (cells := #[Vi 4, Vi 1, Vi 0, Vi 2, Vi 0, .slice none 0 0]) rfl (by kernel_rfl)) rfl ?_
  refine WE.p0 hx 7 (by rfl) (fun w_ => Runs.move rfl) rfl ?_
  refine WE.p0 hx 8 (by rfl) (fun w_ => Runs.lidxK Try.underlying65 inf24 rfl rfl (n := 2) rfl (by decide)) rfl ?_
  refine WE.v0 12 hx 2 (by rfl) (fun w_ hE_ => Runs.loadKF hE_ hcell0 Try.underlying24 rfl inf24 rfl rfl) rfl ?_
  refine WE.v0 12 hx 5 (by rfl) (fun w_ hE_ => Runs.loadKF hE_ hcell1 Try.underlying24 rfl inf24 rfl rfl) rfl ?_
  refine WE.v0 12 hx 9 (by rfl) (fun w_ hE_ => Runs.loadKF hE_ hcell2 Try.underlying24 rfl inf24 rfl rfl) rfl ?_
  refine WE.op2 (.inr h6) (i := 10) (j := 15) (by rfl) (by rfl) (by kernel_rfl) ?_ ?_
  · skip
    refine WL.buildSlice (vs := [.agg #[Vi (lL.getD 0 R0).kd, Vi (lL.getD 0 R0).jb, Vi (lL.getD 0 R0).ep, Vi (lL.getD 0 R0).st, Vi (lL.getD 0 R0).ar, .slice Al0 (lL.getD 0 R0).ls.length cl0], .agg #[Vi (lL.getD 1 R0).kd, Vi (lL.getD 1 R0).jb, Vi (lL.getD 1 R0).ep, Vi (lL.getD 1 R0).st, Vi (lL.getD 1 R0).ar, .slice Al1 (lL.getD 1 R0).ls.length cl1], .agg #[Vi rLA.kd, Vi rLA.jb, Vi rLA.ep, Vi rLA.st, Vi rLA.ar, .slice none rLA.ls.length 0], .agg #[Vi (lL.getD 2 R0).kd, Vi (lL.getD 2 R0).jb, Vi (lL.getD 2 R0).ep, Vi (lL.getD 2 R0).st, Vi (lL.getD 2 R0).ar, .slice Al2 (lL.getD 2 R0).ls.length cl2]]) h6 rfl Try.underlying65 (inf24.elem rfl rfl) rfl rfl rfl (by decide) ?_
    intro lit43 w7 h7
    try simp only [lz, ls, ez, es'] at h7
    obtain ⟨Gl43, hGl43, gf43, hS43⟩ := h7.freeze (i := 0) rfl
    replace h7 := hS43
    simp only [List.eraseIdx_cons_zero] at h7
    replace hleF := Le.trans hleF hGl43
    replace rd21 := rd21.mono hGl43
    replace rd26 := rd26.mono hGl43
    replace hZ29 := hZ29.mono hGl43
    replace hps0 := hps0.mono hGl43
    replace hps1 := hps1.mono hGl43
    replace hps2 := hps2.mono hGl43
    have rd43 : RdS KR Gl43 (some ⟨lit43, 0, none⟩) tL := RdS.blks (d := KR) [[Vi (lL.getD 0 R0).kd, Vi (lL.getD 0 R0).jb, Vi (lL.getD 0 R0).ep, Vi (lL.getD 0 R0).st, Vi (lL.getD 0 R0).ar, .slice Al0 (lL.getD 0 R0).ls.length cl0], [Vi (lL.getD 1 R0).kd, Vi (lL.getD 1 R0).jb, Vi (lL.getD 1 R0).ep, Vi (lL.getD 1 R0).st, Vi (lL.getD 1 R0).ar, .slice Al1 (lL.getD 1 R0).ls.length cl1], [Vi rLA.kd, Vi rLA.jb, Vi rLA.ep, Vi rLA.st, Vi rLA.ar, .slice none rLA.ls.length 0], [Vi (lL.getD 2 R0).kd, Vi (lL.getD 2 R0).jb, Vi (lL.getD 2 R0).ep, Vi (lL.getD 2 R0).st, Vi (lL.getD 2 R0).ar, .slice Al2 (lL.getD 2 R0).ls.length cl2]] (gf43 _ List.mem_cons_self) rfl ⟨⟨Al0, cl0, rfl, hps0⟩, ⟨Al1, cl1, rfl, hps1⟩, ⟨none, 0, rfl, .inl rfl⟩, ⟨Al2, cl2, rfl, hps2⟩,  trivial⟩
    refine WL.nil (WE.next ?_)
    refine WE.op2 (.inr (h7.weak hGl43)) (i := 11) (j := 15) (by rfl) (by rfl) (by kernel_rfl) ?_ ?_
    · skip
      refine WL.call can29 rfl rfl ((show Calls _ _ #[.slice (some ⟨lit43, 0, none⟩) 4 4] _ _ from fold_c (l := tL) _ (by decide) (by decide +kernel) rd43 h7)) ?_
      rintro _ w8 ⟨G44, AJ44, AS44, cj44, cS44, hG44, rfl, hZ44, h8⟩
      refine ⟨_, rfl, ?_⟩
      replace hleF := Le.trans hleF hG44
      replace rd21 := rd21.mono hG44
      replace rd26 := rd26.mono hG44
      replace hZ29 := hZ29.mono hG44
      replace hps0 := hps0.mono hG44
      replace hps1 := hps1.mono hG44
      replace hps2 := hps2.mono hG44
      replace rd43 := rd43.mono hG44
      refine WL.nil (WE.next ?_)
      refine WE.p0 hx 12 (by rfl) (fun w_ => Runs.move rfl) rfl ?_
      refine WE.p0 hx 13 (by rfl) (fun w_ => Runs.extract rfl rfl) rfl ?_
      refine WE.p0 hx 14 (by rfl) (fun w_ => Runs.extract rfl rfl) rfl ?_
      refine WE.op (.inr (h8.weak (Le.trans hGl43 hG44))) (i := 15) (by rfl) (by kernel_rfl) ?_
      refine WL.alloc' rfl h8 inf40 ?_
      intro b4 w9 h9
      refine WL.nil (WE.next ?_)
      refine WE.op (.inr ((h9.weak (Le.trans hGl43 hG44)).drop 0)) (i := 16) (by rfl) (by kernel_rfl) ?_
      refine WL.storeAll h9 0 rfl rfl rfl inf40 rfl rfl rfl (Free.zero _) ?_
      intro  w10 h10
      try simp only [lz, ls, ez, es'] at h10
      refine WL.nil (WE.next ?_)
      refine WE.p0 hx 17 (by rfl) (fun w_ => Runs.assign rfl) rfl ?_
      refine WE.fin (.inl ⟨16, rfl, by kernel_rfl⟩) (by kernel_rfl) ?_
      refine WN.thn (WC.seq (WC.reg ?_))
      refine WL.v (Runs.move rfl) rfl ?_
      refine WL.v (Runs.valT (u := .slice (some ⟨lit26, 0, none⟩) 3 5) (Runs.lsl_hi Try.underlying65 inf24 rfl rfl (n := 3) rfl (by decide)) rfl) rfl ?_
      refine WL.call can29 rfl rfl ((show Calls _ _ #[.slice (some ⟨lit26, 0, none⟩) 3 5] _ _ from fold_c (l := (lL.take 3)) _ (by decide) (by decide +kernel) (rd26.take 3) h10)) ?_
      rintro _ w11 ⟨G50, AJ50, AS50, cj50, cS50, hG50, rfl, hZ50, h11⟩
      refine ⟨_, rfl, ?_⟩
      replace hleF := Le.trans hleF hG50
      replace rd21 := rd21.mono hG50
      replace rd26 := rd26.mono hG50
      replace hZ29 := hZ29.mono hG50
      replace hps0 := hps0.mono hG50
      replace hps1 := hps1.mono hG50
      replace hps2 := hps2.mono hG50
      replace rd43 := rd43.mono hG50
      replace hZ44 := hZ44.mono hG50
      refine WL.v (Runs.move rfl) rfl ?_
      refine WL.v (Runs.extract rfl rfl) rfl ?_
      refine WL.v (Runs.extract rfl rfl) rfl ?_
      refine WL.alloc' rfl h11 inf40 ?_
      intro b6 w12 h12
      refine WL.storeAll h12 0 rfl rfl rfl inf40 rfl rfl rfl (Free.zero _) ?_
      intro  w13 h13
      try simp only [lz, ls, ez, es'] at h13
      refine WL.v (Runs.assign rfl) rfl ?_
      refine WL.nil (WN.thn (WC.seq (WC.reg ?_)))
      refine WL.v (Runs.loadAll h13 2 rfl Try.underlying40 rfl inf40 rfl rfl) rfl ?_
      refine WL.call can20 rfl rfl (find_c (z := zL) _ 1 0 h13 (RdK.of hZ29.j) (by decide +kernel)) ?_
      rintro _ w14 ⟨rfl, h14⟩
      refine ⟨_, rfl, ?_⟩
      refine WL.v (Runs.move rfl) rfl ?_
      refine WL.v (Runs.extract rfl rfl) rfl ?_
      refine WL.v (Runs.extract rfl rfl) rfl ?_
      refine WL.alloc' rfl h14 inf47 ?_
      intro b8 w15 h15
      refine WL.storeAll h15 0 rfl rfl rfl inf47 rfl rfl rfl (Free.zero _) ?_
      intro  w16 h16
      try simp only [lz, ls, ez, es'] at h16
      refine WL.v (Runs.assign rfl) rfl ?_
      refine WL.nil (WN.thn (WC.seq (WC.reg ?_)))
      refine WL.v (Runs.loadAll h16 3 rfl Try.underlying40 rfl inf40 rfl rfl) rfl ?_
      refine WL.call can22 rfl rfl (stepOf_c (z := zL) _ 1 0 2 h16 (RdK.of hZ29.s) (by decide +kernel)) ?_
      rintro _ w17 ⟨⟨A60, c60, rfl, hrd60⟩, h17⟩
      refine ⟨_, rfl, ?_⟩
      refine WL.v (Runs.move rfl) rfl ?_
      refine WL.v (Runs.extract rfl rfl) rfl ?_
      refine WL.v (Runs.extract rfl rfl) rfl ?_
      refine WL.alloc' rfl h17 inf54 ?_
      intro b10 w18 h18
      refine WL.storeAll h18 0 rfl rfl rfl inf54 rfl rfl rfl (Free.zero _) ?_
      intro  w19 h19
      try simp only [lz, ls, ez, es'] at h19
      refine WL.v (Runs.assign rfl) rfl ?_
      refine WL.nil (WN.thn (WC.seq ?_))
      obtain ⟨ad4, ce4, hea4, ⟨Al4, cl4, rfl, hps4⟩, hcell4⟩ := rd26.atD R0 (i := 4) (by decide)
      obtain rfl := Option.some.inj hea4
      refine WC.eregK h19 h19 (fun s_ => ([9] : List Nat).any (Nat.beq s_)) mixed (by kernel_rfl) (fun hx => ?_)
      intro w20 h20
      refine WE.p0 hx 1 (by rfl) (fun w_ => Runs.move rfl) rfl ?_
      refine WE.p0 hx 2 (by rfl) (fun w_ => Runs.lidxK Try.underlying65 inf24 rfl rfl (n := 4) rfl (by decide)) rfl ?_
      refine WE.v0 12 hx 0 (by rfl) (fun w_ hE_ => Runs.loadAll hE_ 4 rfl Try.underlying40 rfl inf40 rfl rfl) rfl ?_
      refine WE.v0 12 hx 3 (by rfl) (fun w_ hE_ => Runs.loadKF hE_ hcell4 Try.underlying24 rfl inf24 rfl rfl) rfl ?_
      refine WE.op2 (.inr h20) (i := 4) (j := 8) (by rfl) (by rfl) (by kernel_rfl) ?_ ?_
      · skip
        refine WL.call can18 rfl rfl (apply_c (r := (lL.getD 4 R0))  _ hps4 (by decide +kernel) zL_few hZ29 h20) ?_
        rintro _ w21 ⟨G68, AJ68, AS68, cj68, cS68, hG68, rfl, hZ68, h21⟩
        refine ⟨_, rfl, ?_⟩
        replace hleF := Le.trans hleF hG68
        replace rd21 := rd21.mono hG68
        replace rd26 := rd26.mono hG68
        replace hZ29 := hZ29.mono hG68
        replace hps0 := hps0.mono hG68
        replace hps1 := hps1.mono hG68
        replace hps2 := hps2.mono hG68
        replace rd43 := rd43.mono hG68
        replace hZ44 := hZ44.mono hG68
        replace hZ50 := hZ50.mono hG68
        refine WL.nil (WE.next ?_)
        refine WE.p0 hx 5 (by rfl) (fun w_ => Runs.move rfl) rfl ?_
        refine WE.p0 hx 6 (by rfl) (fun w_ => Runs.extract rfl rfl) rfl ?_
        refine WE.p0 hx 7 (by rfl) (fun w_ => Runs.extract rfl rfl) rfl ?_
        refine WE.op (.inr (h21.weak hG68)) (i := 8) (by rfl) (by kernel_rfl) ?_
        refine WL.alloc' rfl h21 inf40 ?_
        intro b12 w22 h22
        refine WL.nil (WE.next ?_)
        refine WE.op (.inr ((h22.weak hG68).drop 0)) (i := 9) (by rfl) (by kernel_rfl) ?_
        refine WL.storeAll h22 0 rfl rfl rfl inf40 rfl rfl rfl (Free.zero _) ?_
        intro  w23 h23
        try simp only [lz, ls, ez, es'] at h23
        refine WL.nil (WE.next ?_)
        refine WE.p0 hx 10 (by rfl) (fun w_ => Runs.assign rfl) rfl ?_
        refine WE.fin (.inl ⟨9, rfl, by kernel_rfl⟩) (by kernel_rfl) ?_
        refine WN.thn (WC.seq ?_)
        obtain ⟨ad0, ce0, hea0, ⟨Al0, cl0, rfl, hps0⟩, hcell0⟩ := rd26.atD R0 (i := 0) (by decide)
        obtain rfl := Option.some.inj hea0
        refine WC.reg ?_
        refine WL.v (Runs.build (vs := [(2, .bool true)]) (cells := #[.slice none 0 0, .slice none 0 0, .bool true]) rfl (by kernel_rfl)) rfl ?_
        refine WL.v (Runs.move rfl) rfl ?_
        refine WL.v (Runs.lidxK Try.underlying65 inf24 rfl rfl (n := 0) rfl (by decide)) rfl ?_
        refine WL.v (Runs.loadKF h23 hcell0 Try.underlying24 rfl inf24 rfl rfl) rfl ?_
        refine WL.call can18 rfl rfl ((show Calls _ _ #[.agg #[.slice none 0 0, .slice none 0 0, .bool true], _] _ _ from apply_c (r := (lL.getD 0 R0)) (AJ := none) (AS := none) (cj := 0) (cS := 0) (z := dz) _ hps0 (by decide +kernel) dz_few dz_R h23)) ?_
        rintro _ w24 ⟨G76, AJ76, AS76, cj76, cS76, hG76, rfl, hZ76, h24⟩
        refine ⟨_, rfl, ?_⟩
        replace hleF := Le.trans hleF hG76
        replace rd21 := rd21.mono hG76
        replace rd26 := rd26.mono hG76
        replace hZ29 := hZ29.mono hG76
        replace hps0 := hps0.mono hG76
        replace hps1 := hps1.mono hG76
        replace hps2 := hps2.mono hG76
        replace rd43 := rd43.mono hG76
        replace hZ44 := hZ44.mono hG76
        replace hZ50 := hZ50.mono hG76
        replace hZ68 := hZ68.mono hG76
        refine WL.v (Runs.move rfl) rfl ?_
        refine WL.v (Runs.extract rfl rfl) rfl ?_
        refine WL.v (Runs.extract rfl rfl) rfl ?_
        refine WL.alloc' rfl h24 inf40 ?_
        intro b14 w25 h25
        refine WL.storeAll h25 0 rfl rfl rfl inf40 rfl rfl rfl (Free.zero _) ?_
        intro  w26 h26
        try simp only [lz, ls, ez, es'] at h26
        refine WL.v (Runs.assign rfl) rfl ?_
        refine WL.nil (WN.thn (WC.seq ?_))
        obtain ⟨ad1, ce1, hea1, ⟨Al1, cl1, rfl, hps1⟩, hcell1⟩ := rd26.atD R0 (i := 1) (by decide)
        obtain rfl := Option.some.inj hea1
        refine WC.reg ?_
        refine WL.v (Runs.move rfl) rfl ?_
        refine WL.v (Runs.lidxK Try.underlying65 inf24 rfl rfl (n := 1) rfl (by decide)) rfl ?_
        refine WL.v (Runs.loadKF h26 hcell1 Try.underlying24 rfl inf24 rfl rfl) rfl ?_
        refine WL.call can13 rfl rfl (encode_c (r := (lL.getD 1 R0)) _ h26 hps1 (by decide +kernel)) ?_
        rintro _ w27 ⟨rfl, h27⟩
        refine ⟨_, rfl, ?_⟩
        refine WL.call can11 rfl rfl (decode_c _ (encR (lL.getD 1 R0)) h27 (by have := encR_len (r := (lL.getD 1 R0)); omega)) ?_
        rintro _ w28 ⟨G84, A84, c84, hG84, rfl, hrd84, h28⟩
        refine ⟨_, rfl, ?_⟩
        replace hleF := Le.trans hleF hG84
        replace rd21 := rd21.mono hG84
        replace rd26 := rd26.mono hG84
        replace hZ29 := hZ29.mono hG84
        replace hps0 := hps0.mono hG84
        replace hps1 := hps1.mono hG84
        replace hps2 := hps2.mono hG84
        replace rd43 := rd43.mono hG84
        replace hZ44 := hZ44.mono hG84
        replace hZ50 := hZ50.mono hG84
        replace hZ68 := hZ68.mono hG84
        replace hZ76 := hZ76.mono hG84
        refine WL.v (Runs.move rfl) rfl ?_
        refine WL.v (Runs.extract rfl rfl) rfl ?_
        refine WL.v (Runs.extract rfl rfl) rfl ?_
        refine WL.alloc' rfl h28 inf24 ?_
        intro b16 w29 h29
        refine WL.storeAll h29 0 rfl rfl rfl inf24 rfl rfl rfl (Free.zero _) ?_
        intro  w30 h30
        try simp only [lz, ls, ez, es'] at h30
        refine WL.v (Runs.assign rfl) rfl ?_
        refine WL.nil (WN.thn (WC.seq (WC.reg ?_)))
        refine WL.call can11 rfl rfl ((show Calls _ _ #[.string ⟨#[1, 8, 0, 0, 0, 0, 0]⟩] _ _ from decode_c _ [1, 8, 0, 0, 0, 0, 0] h30 (by simp))) ?_
        rintro _ w31 ⟨G88, A88, c88, hG88, rfl, hrd88, h31⟩
        refine ⟨_, rfl, ?_⟩
        replace hleF := Le.trans hleF hG88
        replace rd21 := rd21.mono hG88
        replace rd26 := rd26.mono hG88
        replace hZ29 := hZ29.mono hG88
        replace hps0 := hps0.mono hG88
        replace hps1 := hps1.mono hG88
        replace hps2 := hps2.mono hG88
        replace rd43 := rd43.mono hG88
        replace hZ44 := hZ44.mono hG88
        replace hZ50 := hZ50.mono hG88
        replace hZ68 := hZ68.mono hG88
        replace hZ76 := hZ76.mono hG88
        replace hrd84 := hrd84.mono hG88
        refine WL.v (Runs.move rfl) rfl ?_
        refine WL.v (Runs.extract rfl rfl) rfl ?_
        refine WL.v (Runs.extract rfl rfl) rfl ?_
        refine WL.alloc' rfl h31 inf24 ?_
        intro b18 w32 h32
        refine WL.storeAll h32 0 rfl rfl rfl inf24 rfl rfl rfl (Free.zero _) ?_
        intro  w33 h33
        try simp only [lz, ls, ez, es'] at h33
        refine WL.v (Runs.assign rfl) rfl ?_
        refine WL.nil (WN.thn (WC.seq ?_))
        obtain ⟨ad1, ce1, hea1, ⟨Al1, cl1, rfl, hps1⟩, hcell1⟩ := rd26.atD R0 (i := 1) (by decide)
        obtain rfl := Option.some.inj hea1
        refine WC.eregK h33 h33 (fun s_ => ([] : List Nat).any (Nat.beq s_)) mixed (by kernel_rfl) (fun hx => ?_)
        intro w34 h34
        refine WE.p0 hx 0 (by rfl) (fun w_ => Runs.move rfl) rfl ?_
        refine WE.p0 hx 1 (by rfl) (fun w_ => Runs.boolT (c := true) (Runs.eql rfl rfl) (by decide +kernel)) rfl ?_
        refine WE.p0 hx 2 (by rfl) (fun w_ => Runs.move rfl) rfl ?_
        refine WE.p1 (j := 2) (b := true) hx 4 (by rfl) ⟨_, _, rfl, rfl, rfl⟩ (fun w_ => Runs.build (vs := [(0, Vi 1), (2, Vi 2)]) (cells := #[Vi 1, Vi 0, Vi 2]) rfl (by kernel_rfl)) rfl ?_
        refine WE.v1 (j := 2) (b := true) 12 hx 3 (by rfl) ⟨_, _, rfl, rfl, rfl⟩ (fun w_ hE_ => Runs.loadAll hE_ 5 rfl Try.underlying47 rfl inf47 rfl rfl) rfl ?_
        refine WE.p1 (j := 2) (b := true) hx 5 (by rfl) ⟨_, _, rfl, rfl, rfl⟩ (fun w_ => Runs.boolT (c := true) (Runs.aeql (by kernel_rfl) rfl rfl (eqJob _ (.inl rfl) _ (findM zL 1 0).1 ⟨1, 0, 2⟩)) (by decide +kernel)) rfl ?_
        refine WE.p0 hx 6 (by rfl) (fun w_ => Runs.pick rfl rfl rfl) rfl ?_
        refine WE.p0 hx 7 (by rfl) (fun w_ => Runs.move rfl) rfl ?_
        refine WE.p1 (j := 7) (b := true) hx 8 (by rfl) ⟨_, _, rfl, rfl, rfl⟩ (fun w_ => Runs.move rfl) rfl ?_
        refine WE.p0 hx 9 (by rfl) (fun w_ => Runs.pick rfl rfl rfl) rfl ?_
        refine WE.p0 hx 10 (by rfl) (fun w_ => Runs.move rfl) rfl ?_
        refine WE.p1 (j := 10) (b := true) hx 11 (by rfl) ⟨_, _, rfl, rfl, rfl⟩ (fun w_ => Runs.move rfl) rfl ?_
        refine WE.p0 hx 12 (by rfl) (fun w_ => Runs.pick rfl rfl rfl) rfl ?_
        refine WE.p0 hx 13 (by rfl) (fun w_ => Runs.move rfl) rfl ?_
        refine WE.p1 (j := 13) (b := true) hx 14 (by rfl) ⟨_, _, rfl, rfl, rfl⟩ (fun w_ => Runs.fld fld54_3 rfl) rfl ?_
        refine WE.v1 (j := 13) (b := true) 12 hx 15 (by rfl) ⟨_, _, rfl, rfl, rfl⟩ (fun w_ hE_ => Runs.load1 Try.underlying3 rfl rfl (hE_.ocell (i := 4) rfl rfl)) rfl ?_
        refine WE.p1 (j := 13) (b := true) hx 16 (by rfl) ⟨_, _, rfl, rfl, rfl⟩ (fun w_ => Runs.boolT (c := true) (Runs.eql rfl rfl) (by decide +kernel)) rfl ?_
        refine WE.p0 hx 17 (by rfl) (fun w_ => Runs.pick rfl rfl rfl) rfl ?_
        refine WE.p0 hx 18 (by rfl) (fun w_ => Runs.move rfl) rfl ?_
        refine WE.p1 (j := 18) (b := true) hx 19 (by rfl) ⟨_, _, rfl, rfl, rfl⟩ (fun w_ => Runs.fld fld54_4 rfl) rfl ?_
        refine WE.v1 (j := 18) (b := true) 12 hx 20 (by rfl) ⟨_, _, rfl, rfl, rfl⟩ (fun w_ hE_ => Runs.load1 Try.underlying3 rfl rfl (hE_.ocell (i := 4) rfl rfl)) rfl ?_
        refine WE.p1 (j := 18) (b := true) hx 21 (by rfl) ⟨_, _, rfl, rfl, rfl⟩ (fun w_ => Runs.boolT (c := true) (Runs.eql rfl rfl) (by decide +kernel)) rfl ?_
        refine WE.p0 hx 22 (by rfl) (fun w_ => Runs.pick rfl rfl rfl) rfl ?_
        refine WE.p0 hx 23 (by rfl) (fun w_ => Runs.move rfl) rfl ?_
        refine WE.p1 (j := 23) (b := true) hx 24 (by rfl) ⟨_, _, rfl, rfl, rfl⟩ (fun w_ => Runs.fld fld54_5 rfl) rfl ?_
        refine WE.v1 (j := 23) (b := true) 12 hx 25 (by rfl) ⟨_, _, rfl, rfl, rfl⟩ (fun w_ hE_ => Runs.load1 Try.underlying22 rfl rfl (hE_.ocell (i := 4) rfl rfl)) rfl ?_
        refine WE.p1 (j := 23) (b := true) hx 26 (by rfl) ⟨_, _, rfl, rfl, rfl⟩ (fun w_ => Runs.llen Try.underlying22 rfl rfl) rfl ?_
        refine WE.p1 (j := 23) (b := true) hx 27 (by rfl) ⟨_, _, rfl, rfl, rfl⟩ (fun w_ => Runs.boolT (c := true) (Runs.eql rfl rfl) (by decide +kernel)) rfl ?_
        refine WE.p0 hx 28 (by rfl) (fun w_ => Runs.pick rfl rfl rfl) rfl ?_
        refine WE.p0 hx 29 (by rfl) (fun w_ => Runs.move rfl) rfl ?_
        refine WE.p1 (j := 29) (b := true) hx 30 (by rfl) ⟨_, _, rfl, rfl, rfl⟩ (fun w_ => Runs.move rfl) rfl ?_
        refine WE.p1 (j := 29) (b := true) hx 31 (by rfl) ⟨_, _, rfl, rfl, rfl⟩ (fun w_ => Runs.boolT (c := true) (Runs.eql rfl rfl) (by decide +kernel)) rfl ?_
        refine WE.p0 hx 32 (by rfl) (fun w_ => Runs.pick rfl rfl rfl) rfl ?_
        refine WE.p0 hx 33 (by rfl) (fun w_ => Runs.move rfl) rfl ?_
        refine WE.p1 (j := 33) (b := true) hx 34 (by rfl) ⟨_, _, rfl, rfl, rfl⟩ (fun w_ => Runs.fld fld40_1 rfl) rfl ?_
        refine WE.v1 (j := 33) (b := true) 12 hx 35 (by rfl) ⟨_, _, rfl, rfl, rfl⟩ (fun w_ hE_ => Runs.load1 Try.underlying38 rfl rfl (hE_.ocell (i := 7) rfl rfl)) rfl ?_
        refine WE.p1 (j := 33) (b := true) hx 36 (by rfl) ⟨_, _, rfl, rfl, rfl⟩ (fun w_ => Runs.llen Try.underlying38 rfl rfl) rfl ?_
        refine WE.p1 (j := 33) (b := true) hx 37 (by rfl) ⟨_, _, rfl, rfl, rfl⟩ (fun w_ => Runs.boolT (c := true) (Runs.eql rfl rfl) (by decide +kernel)) rfl ?_
        refine WE.p0 hx 38 (by rfl) (fun w_ => Runs.pick rfl rfl rfl) rfl ?_
        refine WE.p0 hx 39 (by rfl) (fun w_ => Runs.move rfl) rfl ?_
        refine WE.v1 (j := 39) (b := true) 12 hx 40 (by rfl) ⟨_, _, rfl, rfl, rfl⟩ (fun w_ hE_ => Runs.loadAll hE_ 6 rfl Try.underlying40 rfl inf40 rfl rfl) rfl ?_
        refine WE.op (.inr h34) (i := 41) (by rfl) (by kernel_rfl) ?_
        refine WL.gon rfl rfl rfl ?_
        refine WL.call can26 rfl rfl (aliveB_c (z := az) (b := true) (by decide +kernel) az_few hZ50 h34) ?_
        rintro _ w35 ⟨rfl, h35⟩
        refine ⟨_, rfl, ?_⟩
        refine WL.nil (WE.next ?_)
        refine WE.p0 hx 42 (by rfl) (fun w_ => Runs.pick rfl rfl rfl) rfl ?_
        refine WE.p0 hx 43 (by rfl) (fun w_ => Runs.move rfl) rfl ?_
        refine WE.v1 (j := 43) (b := true) 12 hx 44 (by rfl) ⟨_, _, rfl, rfl, rfl⟩ (fun w_ hE_ => Runs.loadAll hE_ 8 rfl Try.underlying40 rfl inf40 rfl rfl) rfl ?_
        refine WE.op (.inr h35) (i := 45) (by rfl) (by kernel_rfl) ?_
        refine WL.gon rfl rfl rfl ?_
        refine WL.call can26 rfl rfl (aliveB_c (z := zL) (b := false) (by decide +kernel) zL_few hZ29 h35) ?_
        rintro _ w36 ⟨rfl, h36⟩
        refine ⟨_, rfl, ?_⟩
        refine WL.nil (WE.next ?_)
        refine WE.p1 (j := 43) (b := true) hx 46 (by rfl) ⟨_, _, rfl, rfl, rfl⟩ (fun w_ => Runs.not rfl) rfl ?_
        refine WE.p0 hx 47 (by rfl) (fun w_ => Runs.pick rfl rfl rfl) rfl ?_
        refine WE.p0 hx 48 (by rfl) (fun w_ => Runs.move rfl) rfl ?_
        refine WE.p1 (j := 48) (b := true) hx 49 (by rfl) ⟨_, _, rfl, rfl, rfl⟩ (fun w_ => Runs.move rfl) rfl ?_
        refine WE.p1 (j := 48) (b := true) hx 50 (by rfl) ⟨_, _, rfl, rfl, rfl⟩ (fun w_ => Runs.boolT (c := true) (Runs.eql rfl rfl) (by decide +kernel)) rfl ?_
        refine WE.p0 hx 51 (by rfl) (fun w_ => Runs.pick rfl rfl rfl) rfl ?_
        refine WE.p0 hx 52 (by rfl) (fun w_ => Runs.move rfl) rfl ?_
        refine WE.p1 (j := 52) (b := true) hx 53 (by rfl) ⟨_, _, rfl, rfl, rfl⟩ (fun w_ => Runs.move rfl) rfl ?_
        refine WE.p1 (j := 52) (b := true) hx 54 (by rfl) ⟨_, _, rfl, rfl, rfl⟩ (fun w_ => Runs.boolT (c := true) (Runs.eql rfl rfl) (by decide +kernel)) rfl ?_
        refine WE.p0 hx 55 (by rfl) (fun w_ => Runs.pick rfl rfl rfl) rfl ?_
        refine WE.p0 hx 56 (by rfl) (fun w_ => Runs.move rfl) rfl ?_
        refine WE.p1 (j := 56) (b := true) hx 57 (by rfl) ⟨_, _, rfl, rfl, rfl⟩ (fun w_ => Runs.move rfl) rfl ?_
        refine WE.p1 (j := 56) (b := true) hx 58 (by rfl) ⟨_, _, rfl, rfl, rfl⟩ (fun w_ => Runs.boolT (c := true) (Runs.eql rfl rfl) (by decide +kernel)) rfl ?_
        refine WE.p0 hx 59 (by rfl) (fun w_ => Runs.pick rfl rfl rfl) rfl ?_
        refine WE.p0 hx 60 (by rfl) (fun w_ => Runs.move rfl) rfl ?_
        refine WE.p1 (j := 60) (b := true) hx 62 (by rfl) ⟨_, _, rfl, rfl, rfl⟩ (fun w_ => Runs.move rfl) rfl ?_
        refine WE.p1 (j := 60) (b := true) hx 63 (by rfl) ⟨_, _, rfl, rfl, rfl⟩ (fun w_ => Runs.lidxK Try.underlying65 inf24 rfl rfl (n := 1) rfl (by decide)) rfl ?_
        refine WE.v1 (j := 60) (b := true) 12 hx 61 (by rfl) ⟨_, _, rfl, rfl, rfl⟩ (fun w_ hE_ => Runs.loadAll hE_ 1 rfl Try.underlying24 rfl inf24 rfl rfl) rfl ?_
        refine WE.v1 (j := 60) (b := true) 12 hx 64 (by rfl) ⟨_, _, rfl, rfl, rfl⟩ (fun w_ hE_ => Runs.loadKF hE_ hcell1 Try.underlying24 rfl inf24 rfl rfl) rfl ?_
        refine WE.op (.inr h36) (i := 65) (by rfl) (by kernel_rfl) ?_
        refine WL.gon rfl rfl rfl ?_
        refine WL.call can15 rfl rfl (recsT _ back1 hrd84 (by rw [back1]; decide +kernel) hps1 h36) ?_
        rintro _ w37 ⟨rfl, h37⟩
        refine ⟨_, rfl, ?_⟩
        refine WL.nil (WE.next ?_)
        refine WE.p0 hx 66 (by rfl) (fun w_ => Runs.pick rfl rfl rfl) rfl ?_
        refine WE.p0 hx 67 (by rfl) (fun w_ => Runs.move rfl) rfl ?_
        refine WE.p1 (j := 67) (b := true) hx 68 (by rfl) ⟨_, _, rfl, rfl, rfl⟩ (fun w_ => Runs.move rfl) rfl ?_
        refine WE.p1 (j := 67) (b := true) hx 69 (by rfl) ⟨_, _, rfl, rfl, rfl⟩ (fun w_ => Runs.boolT (c := true) (Runs.eql rfl rfl) (by decide +kernel)) rfl ?_
        refine WE.p0 hx 70 (by rfl) (fun w_ => Runs.pick rfl rfl rfl) rfl ?_
        refine WE.p0 hx 71 (by rfl) (fun w_ => Runs.assign rfl) rfl ?_
        refine WE.fin (.inr h37) (by kernel_rfl) ?_
        refine WN.thn (WC.ret ?_)
        have h90 := (((((((((h37.drop 0).drop 0).drop 0).drop 0).drop 0).drop 0).drop 0).drop 0).drop 0)
        simp only [List.eraseIdx_cons_zero] at h90
        exact ret1 rfl rfl ⟨_, hleF, rfl, h90⟩
      · skip
        refine WL.alloc' rfl h20 inf40 ?_
        intro b12 w38 h38
        refine WL.nil (WE.next ?_)
        refine WE.op (.inr (h38.drop 0)) (i := 4) (by rfl) (by kernel_rfl) ?_
        refine WL.call can18 rfl rfl (apply_c (r := (lL.getD 4 R0))  _ hps4 (by decide +kernel) zL_few hZ29 h38) ?_
        rintro _ w39 ⟨G68, AJ68, AS68, cj68, cS68, hG68, rfl, hZ68, h39⟩
        refine ⟨_, rfl, ?_⟩
        replace hleF := Le.trans hleF hG68
        replace rd21 := rd21.mono hG68
        replace rd26 := rd26.mono hG68
        replace hZ29 := hZ29.mono hG68
        replace hps0 := hps0.mono hG68
        replace hps1 := hps1.mono hG68
        replace hps2 := hps2.mono hG68
        replace rd43 := rd43.mono hG68
        replace hZ44 := hZ44.mono hG68
        replace hZ50 := hZ50.mono hG68
        refine WL.nil (WE.next ?_)
        refine WE.p0 hx 5 (by rfl) (fun w_ => Runs.move rfl) rfl ?_
        refine WE.p0 hx 6 (by rfl) (fun w_ => Runs.extract rfl rfl) rfl ?_
        refine WE.p0 hx 7 (by rfl) (fun w_ => Runs.extract rfl rfl) rfl ?_
        refine WE.op (.inr ((h39.weak hG68).drop 0)) (i := 9) (by rfl) (by kernel_rfl) ?_
        refine WL.storeAll h39 0 rfl rfl rfl inf40 rfl rfl rfl (Free.zero _) ?_
        intro  w40 h40
        try simp only [lz, ls, ez, es'] at h40
        refine WL.nil (WE.next ?_)
        refine WE.p0 hx 10 (by rfl) (fun w_ => Runs.assign rfl) rfl ?_
        refine WE.fin (.inl ⟨9, rfl, by kernel_rfl⟩) (by kernel_rfl) ?_
        refine WN.thn (WC.seq ?_)
        obtain ⟨ad0, ce0, hea0, ⟨Al0, cl0, rfl, hps0⟩, hcell0⟩ := rd26.atD R0 (i := 0) (by decide)
        obtain rfl := Option.some.inj hea0
        refine WC.reg ?_
        refine WL.v (Runs.build (vs := [(2, .bool true)]) (cells := #[.slice none 0 0, .slice none 0 0, .bool true]) rfl (by kernel_rfl)) rfl ?_
        refine WL.v (Runs.move rfl) rfl ?_
        refine WL.v (Runs.lidxK Try.underlying65 inf24 rfl rfl (n := 0) rfl (by decide)) rfl ?_
        refine WL.v (Runs.loadKF h40 hcell0 Try.underlying24 rfl inf24 rfl rfl) rfl ?_
        refine WL.call can18 rfl rfl ((show Calls _ _ #[.agg #[.slice none 0 0, .slice none 0 0, .bool true], _] _ _ from apply_c (r := (lL.getD 0 R0)) (AJ := none) (AS := none) (cj := 0) (cS := 0) (z := dz) _ hps0 (by decide +kernel) dz_few dz_R h40)) ?_
        rintro _ w41 ⟨G76, AJ76, AS76, cj76, cS76, hG76, rfl, hZ76, h41⟩
        refine ⟨_, rfl, ?_⟩
        replace hleF := Le.trans hleF hG76
        replace rd21 := rd21.mono hG76
        replace rd26 := rd26.mono hG76
        replace hZ29 := hZ29.mono hG76
        replace hps0 := hps0.mono hG76
        replace hps1 := hps1.mono hG76
        replace hps2 := hps2.mono hG76
        replace rd43 := rd43.mono hG76
        replace hZ44 := hZ44.mono hG76
        replace hZ50 := hZ50.mono hG76
        replace hZ68 := hZ68.mono hG76
        refine WL.v (Runs.move rfl) rfl ?_
        refine WL.v (Runs.extract rfl rfl) rfl ?_
        refine WL.v (Runs.extract rfl rfl) rfl ?_
        refine WL.alloc' rfl h41 inf40 ?_
        intro b14 w42 h42
        refine WL.storeAll h42 0 rfl rfl rfl inf40 rfl rfl rfl (Free.zero _) ?_
        intro  w43 h43
        try simp only [lz, ls, ez, es'] at h43
        refine WL.v (Runs.assign rfl) rfl ?_
        refine WL.nil (WN.thn (WC.seq ?_))
        obtain ⟨ad1, ce1, hea1, ⟨Al1, cl1, rfl, hps1⟩, hcell1⟩ := rd26.atD R0 (i := 1) (by decide)
        obtain rfl := Option.some.inj hea1
        refine WC.reg ?_
        refine WL.v (Runs.move rfl) rfl ?_
        refine WL.v (Runs.lidxK Try.underlying65 inf24 rfl rfl (n := 1) rfl (by decide)) rfl ?_
        refine WL.v (Runs.loadKF h43 hcell1 Try.underlying24 rfl inf24 rfl rfl) rfl ?_
        refine WL.call can13 rfl rfl (encode_c (r := (lL.getD 1 R0)) _ h43 hps1 (by decide +kernel)) ?_
        rintro _ w44 ⟨rfl, h44⟩
        refine ⟨_, rfl, ?_⟩
        refine WL.call can11 rfl rfl (decode_c _ (encR (lL.getD 1 R0)) h44 (by have := encR_len (r := (lL.getD 1 R0)); omega)) ?_
        rintro _ w45 ⟨G84, A84, c84, hG84, rfl, hrd84, h45⟩
        refine ⟨_, rfl, ?_⟩
        replace hleF := Le.trans hleF hG84
        replace rd21 := rd21.mono hG84
        replace rd26 := rd26.mono hG84
        replace hZ29 := hZ29.mono hG84
        replace hps0 := hps0.mono hG84
        replace hps1 := hps1.mono hG84
        replace hps2 := hps2.mono hG84
        replace rd43 := rd43.mono hG84
        replace hZ44 := hZ44.mono hG84
        replace hZ50 := hZ50.mono hG84
        replace hZ68 := hZ68.mono hG84
        replace hZ76 := hZ76.mono hG84
        refine WL.v (Runs.move rfl) rfl ?_
        refine WL.v (Runs.extract rfl rfl) rfl ?_
        refine WL.v (Runs.extract rfl rfl) rfl ?_
        refine WL.alloc' rfl h45 inf24 ?_
        intro b16 w46 h46
        refine WL.storeAll h46 0 rfl rfl rfl inf24 rfl rfl rfl (Free.zero _) ?_
        intro  w47 h47
        try simp only [lz, ls, ez, es'] at h47
        refine WL.v (Runs.assign rfl) rfl ?_
        refine WL.nil (WN.thn (WC.seq (WC.reg ?_)))
        refine WL.call can11 rfl rfl ((show Calls _ _ #[.string ⟨#[1, 8, 0, 0, 0, 0, 0]⟩] _ _ from decode_c _ [1, 8, 0, 0, 0, 0, 0] h47 (by simp))) ?_
        rintro _ w48 ⟨G88, A88, c88, hG88, rfl, hrd88, h48⟩
        refine ⟨_, rfl, ?_⟩
        replace hleF := Le.trans hleF hG88
        replace rd21 := rd21.mono hG88
        replace rd26 := rd26.mono hG88
        replace hZ29 := hZ29.mono hG88
        replace hps0 := hps0.mono hG88
        replace hps1 := hps1.mono hG88
        replace hps2 := hps2.mono hG88
        replace rd43 := rd43.mono hG88
        replace hZ44 := hZ44.mono hG88
        replace hZ50 := hZ50.mono hG88
        replace hZ68 := hZ68.mono hG88
        replace hZ76 := hZ76.mono hG88
        replace hrd84 := hrd84.mono hG88
        refine WL.v (Runs.move rfl) rfl ?_
        refine WL.v (Runs.extract rfl rfl) rfl ?_
        refine WL.v (Runs.extract rfl rfl) rfl ?_
        refine WL.alloc' rfl h48 inf24 ?_
        intro b18 w49 h49
        refine WL.storeAll h49 0 rfl rfl rfl inf24 rfl rfl rfl (Free.zero _) ?_
        intro  w50 h50
        try simp only [lz, ls, ez, es'] at h50
        refine WL.v (Runs.assign rfl) rfl ?_
        refine WL.nil (WN.thn (WC.seq ?_))
        obtain ⟨ad1, ce1, hea1, ⟨Al1, cl1, rfl, hps1⟩, hcell1⟩ := rd26.atD R0 (i := 1) (by decide)
        obtain rfl := Option.some.inj hea1
        refine WC.eregK h50 h50 (fun s_ => ([] : List Nat).any (Nat.beq s_)) mixed (by kernel_rfl) (fun hx => ?_)
        intro w51 h51
        refine WE.p0 hx 0 (by rfl) (fun w_ => Runs.move rfl) rfl ?_
        refine WE.p0 hx 1 (by rfl) (fun w_ => Runs.boolT (c := true) (Runs.eql rfl rfl) (by decide +kernel)) rfl ?_
        refine WE.p0 hx 2 (by rfl) (fun w_ => Runs.move rfl) rfl ?_
        refine WE.p1 (j := 2) (b := true) hx 4 (by rfl) ⟨_, _, rfl, rfl, rfl⟩ (fun w_ => Runs.build (vs := [(0, Vi 1), (2, Vi 2)]) (cells := #[Vi 1, Vi 0, Vi 2]) rfl (by kernel_rfl)) rfl ?_
        refine WE.v1 (j := 2) (b := true) 12 hx 3 (by rfl) ⟨_, _, rfl, rfl, rfl⟩ (fun w_ hE_ => Runs.loadAll hE_ 5 rfl Try.underlying47 rfl inf47 rfl rfl) rfl ?_
        refine WE.p1 (j := 2) (b := true) hx 5 (by rfl) ⟨_, _, rfl, rfl, rfl⟩ (fun w_ => Runs.boolT (c := true) (Runs.aeql (by kernel_rfl) rfl rfl (eqJob _ (.inl rfl) _ (findM zL 1 0).1 ⟨1, 0, 2⟩)) (by decide +kernel)) rfl ?_
        refine WE.p0 hx 6 (by rfl) (fun w_ => Runs.pick rfl rfl rfl) rfl ?_
        refine WE.p0 hx 7 (by rfl) (fun w_ => Runs.move rfl) rfl ?_
        refine WE.p1 (j := 7) (b := true) hx 8 (by rfl) ⟨_, _, rfl, rfl, rfl⟩ (fun w_ => Runs.move rfl) rfl ?_
        refine WE.p0 hx 9 (by rfl) (fun w_ => Runs.pick rfl rfl rfl) rfl ?_
        refine WE.p0 hx 10 (by rfl) (fun w_ => Runs.move rfl) rfl ?_
        refine WE.p1 (j := 10) (b := true) hx 11 (by rfl) ⟨_, _, rfl, rfl, rfl⟩ (fun w_ => Runs.move rfl) rfl ?_
        refine WE.p0 hx 12 (by rfl) (fun w_ => Runs.pick rfl rfl rfl) rfl ?_
        refine WE.p0 hx 13 (by rfl) (fun w_ => Runs.move rfl) rfl ?_
        refine WE.p1 (j := 13) (b := true) hx 14 (by rfl) ⟨_, _, rfl, rfl, rfl⟩ (fun w_ => Runs.fld fld54_3 rfl) rfl ?_
        refine WE.v1 (j := 13) (b := true) 12 hx 15 (by rfl) ⟨_, _, rfl, rfl, rfl⟩ (fun w_ hE_ => Runs.load1 Try.underlying3 rfl rfl (hE_.ocell (i := 4) rfl rfl)) rfl ?_
        refine WE.p1 (j := 13) (b := true) hx 16 (by rfl) ⟨_, _, rfl, rfl, rfl⟩ (fun w_ => Runs.boolT (c := true) (Runs.eql rfl rfl) (by decide +kernel)) rfl ?_
        refine WE.p0 hx 17 (by rfl) (fun w_ => Runs.pick rfl rfl rfl) rfl ?_
        refine WE.p0 hx 18 (by rfl) (fun w_ => Runs.move rfl) rfl ?_
        refine WE.p1 (j := 18) (b := true) hx 19 (by rfl) ⟨_, _, rfl, rfl, rfl⟩ (fun w_ => Runs.fld fld54_4 rfl) rfl ?_
        refine WE.v1 (j := 18) (b := true) 12 hx 20 (by rfl) ⟨_, _, rfl, rfl, rfl⟩ (fun w_ hE_ => Runs.load1 Try.underlying3 rfl rfl (hE_.ocell (i := 4) rfl rfl)) rfl ?_
        refine WE.p1 (j := 18) (b := true) hx 21 (by rfl) ⟨_, _, rfl, rfl, rfl⟩ (fun w_ => Runs.boolT (c := true) (Runs.eql rfl rfl) (by decide +kernel)) rfl ?_
        refine WE.p0 hx 22 (by rfl) (fun w_ => Runs.pick rfl rfl rfl) rfl ?_
        refine WE.p0 hx 23 (by rfl) (fun w_ => Runs.move rfl) rfl ?_
        refine WE.p1 (j := 23) (b := true) hx 24 (by rfl) ⟨_, _, rfl, rfl, rfl⟩ (fun w_ => Runs.fld fld54_5 rfl) rfl ?_
        refine WE.v1 (j := 23) (b := true) 12 hx 25 (by rfl) ⟨_, _, rfl, rfl, rfl⟩ (fun w_ hE_ => Runs.load1 Try.underlying22 rfl rfl (hE_.ocell (i := 4) rfl rfl)) rfl ?_
        refine WE.p1 (j := 23) (b := true) hx 26 (by rfl) ⟨_, _, rfl, rfl, rfl⟩ (fun w_ => Runs.llen Try.underlying22 rfl rfl) rfl ?_
        refine WE.p1 (j := 23) (b := true) hx 27 (by rfl) ⟨_, _, rfl, rfl, rfl⟩ (fun w_ => Runs.boolT (c := true) (Runs.eql rfl rfl) (by decide +kernel)) rfl ?_
        refine WE.p0 hx 28 (by rfl) (fun w_ => Runs.pick rfl rfl rfl) rfl ?_
        refine WE.p0 hx 29 (by rfl) (fun w_ => Runs.move rfl) rfl ?_
        refine WE.p1 (j := 29) (b := true) hx 30 (by rfl) ⟨_, _, rfl, rfl, rfl⟩ (fun w_ => Runs.move rfl) rfl ?_
        refine WE.p1 (j := 29) (b := true) hx 31 (by rfl) ⟨_, _, rfl, rfl, rfl⟩ (fun w_ => Runs.boolT (c := true) (Runs.eql rfl rfl) (by decide +kernel)) rfl ?_
        refine WE.p0 hx 32 (by rfl) (fun w_ => Runs.pick rfl rfl rfl) rfl ?_
        refine WE.p0 hx 33 (by rfl) (fun w_ => Runs.move rfl) rfl ?_
        refine WE.p1 (j := 33) (b := true) hx 34 (by rfl) ⟨_, _, rfl, rfl, rfl⟩ (fun w_ => Runs.fld fld40_1 rfl) rfl ?_
        refine WE.v1 (j := 33) (b := true) 12 hx 35 (by rfl) ⟨_, _, rfl, rfl, rfl⟩ (fun w_ hE_ => Runs.load1 Try.underlying38 rfl rfl (hE_.ocell (i := 7) rfl rfl)) rfl ?_
        refine WE.p1 (j := 33) (b := true) hx 36 (by rfl) ⟨_, _, rfl, rfl, rfl⟩ (fun w_ => Runs.llen Try.underlying38 rfl rfl) rfl ?_
        refine WE.p1 (j := 33) (b := true) hx 37 (by rfl) ⟨_, _, rfl, rfl, rfl⟩ (fun w_ => Runs.boolT (c := true) (Runs.eql rfl rfl) (by decide +kernel)) rfl ?_
        refine WE.p0 hx 38 (by rfl) (fun w_ => Runs.pick rfl rfl rfl) rfl ?_
        refine WE.p0 hx 39 (by rfl) (fun w_ => Runs.move rfl) rfl ?_
        refine WE.v1 (j := 39) (b := true) 12 hx 40 (by rfl) ⟨_, _, rfl, rfl, rfl⟩ (fun w_ hE_ => Runs.loadAll hE_ 6 rfl Try.underlying40 rfl inf40 rfl rfl) rfl ?_
        refine WE.op (.inr h51) (i := 41) (by rfl) (by kernel_rfl) ?_
        refine WL.gon rfl rfl rfl ?_
        refine WL.call can26 rfl rfl (aliveB_c (z := az) (b := true) (by decide +kernel) az_few hZ50 h51) ?_
        rintro _ w52 ⟨rfl, h52⟩
        refine ⟨_, rfl, ?_⟩
        refine WL.nil (WE.next ?_)
        refine WE.p0 hx 42 (by rfl) (fun w_ => Runs.pick rfl rfl rfl) rfl ?_
        refine WE.p0 hx 43 (by rfl) (fun w_ => Runs.move rfl) rfl ?_
        refine WE.v1 (j := 43) (b := true) 12 hx 44 (by rfl) ⟨_, _, rfl, rfl, rfl⟩ (fun w_ hE_ => Runs.loadAll hE_ 8 rfl Try.underlying40 rfl inf40 rfl rfl) rfl ?_
        refine WE.op (.inr h52) (i := 45) (by rfl) (by kernel_rfl) ?_
        refine WL.gon rfl rfl rfl ?_
        refine WL.call can26 rfl rfl (aliveB_c (z := zL) (b := false) (by decide +kernel) zL_few hZ29 h52) ?_
        rintro _ w53 ⟨rfl, h53⟩
        refine ⟨_, rfl, ?_⟩
        refine WL.nil (WE.next ?_)
        refine WE.p1 (j := 43) (b := true) hx 46 (by rfl) ⟨_, _, rfl, rfl, rfl⟩ (fun w_ => Runs.not rfl) rfl ?_
        refine WE.p0 hx 47 (by rfl) (fun w_ => Runs.pick rfl rfl rfl) rfl ?_
        refine WE.p0 hx 48 (by rfl) (fun w_ => Runs.move rfl) rfl ?_
        refine WE.p1 (j := 48) (b := true) hx 49 (by rfl) ⟨_, _, rfl, rfl, rfl⟩ (fun w_ => Runs.move rfl) rfl ?_
        refine WE.p1 (j := 48) (b := true) hx 50 (by rfl) ⟨_, _, rfl, rfl, rfl⟩ (fun w_ => Runs.boolT (c := true) (Runs.eql rfl rfl) (by decide +kernel)) rfl ?_
        refine WE.p0 hx 51 (by rfl) (fun w_ => Runs.pick rfl rfl rfl) rfl ?_
        refine WE.p0 hx 52 (by rfl) (fun w_ => Runs.move rfl) rfl ?_
        refine WE.p1 (j := 52) (b := true) hx 53 (by rfl) ⟨_, _, rfl, rfl, rfl⟩ (fun w_ => Runs.move rfl) rfl ?_
        refine WE.p1 (j := 52) (b := true) hx 54 (by rfl) ⟨_, _, rfl, rfl, rfl⟩ (fun w_ => Runs.boolT (c := true) (Runs.eql rfl rfl) (by decide +kernel)) rfl ?_
        refine WE.p0 hx 55 (by rfl) (fun w_ => Runs.pick rfl rfl rfl) rfl ?_
        refine WE.p0 hx 56 (by rfl) (fun w_ => Runs.move rfl) rfl ?_
        refine WE.p1 (j := 56) (b := true) hx 57 (by rfl) ⟨_, _, rfl, rfl, rfl⟩ (fun w_ => Runs.move rfl) rfl ?_
        refine WE.p1 (j := 56) (b := true) hx 58 (by rfl) ⟨_, _, rfl, rfl, rfl⟩ (fun w_ => Runs.boolT (c := true) (Runs.eql rfl rfl) (by decide +kernel)) rfl ?_
        refine WE.p0 hx 59 (by rfl) (fun w_ => Runs.pick rfl rfl rfl) rfl ?_
        refine WE.p0 hx 60 (by rfl) (fun w_ => Runs.move rfl) rfl ?_
        refine WE.p1 (j := 60) (b := true) hx 62 (by rfl) ⟨_, _, rfl, rfl, rfl⟩ (fun w_ => Runs.move rfl) rfl ?_
        refine WE.p1 (j := 60) (b := true) hx 63 (by rfl) ⟨_, _, rfl, rfl, rfl⟩ (fun w_ => Runs.lidxK Try.underlying65 inf24 rfl rfl (n := 1) rfl (by decide)) rfl ?_
        refine WE.v1 (j := 60) (b := true) 12 hx 61 (by rfl) ⟨_, _, rfl, rfl, rfl⟩ (fun w_ hE_ => Runs.loadAll hE_ 1 rfl Try.underlying24 rfl inf24 rfl rfl) rfl ?_
        refine WE.v1 (j := 60) (b := true) 12 hx 64 (by rfl) ⟨_, _, rfl, rfl, rfl⟩ (fun w_ hE_ => Runs.loadKF hE_ hcell1 Try.underlying24 rfl inf24 rfl rfl) rfl ?_
        refine WE.op (.inr h53) (i := 65) (by rfl) (by kernel_rfl) ?_
        refine WL.gon rfl rfl rfl ?_
        refine WL.call can15 rfl rfl (recsT _ back1 hrd84 (by rw [back1]; decide +kernel) hps1 h53) ?_
        rintro _ w54 ⟨rfl, h54⟩
        refine ⟨_, rfl, ?_⟩
        refine WL.nil (WE.next ?_)
        refine WE.p0 hx 66 (by rfl) (fun w_ => Runs.pick rfl rfl rfl) rfl ?_
        refine WE.p0 hx 67 (by rfl) (fun w_ => Runs.move rfl) rfl ?_
        refine WE.p1 (j := 67) (b := true) hx 68 (by rfl) ⟨_, _, rfl, rfl, rfl⟩ (fun w_ => Runs.move rfl) rfl ?_
        refine WE.p1 (j := 67) (b := true) hx 69 (by rfl) ⟨_, _, rfl, rfl, rfl⟩ (fun w_ => Runs.boolT (c := true) (Runs.eql rfl rfl) (by decide +kernel)) rfl ?_
        refine WE.p0 hx 70 (by rfl) (fun w_ => Runs.pick rfl rfl rfl) rfl ?_
        refine WE.p0 hx 71 (by rfl) (fun w_ => Runs.assign rfl) rfl ?_
        refine WE.fin (.inr h54) (by kernel_rfl) ?_
        refine WN.thn (WC.ret ?_)
        have h90 := (((((((((h54.drop 0).drop 0).drop 0).drop 0).drop 0).drop 0).drop 0).drop 0).drop 0)
        simp only [List.eraseIdx_cons_zero] at h90
        exact ret1 rfl rfl ⟨_, hleF, rfl, h90⟩
    · skip
      refine WL.alloc' rfl h7 inf40 ?_
      intro b4 w55 h55
      refine WL.nil (WE.next ?_)
      refine WE.op (.inr ((h55.weak hGl43).drop 0)) (i := 11) (by rfl) (by kernel_rfl) ?_
      refine WL.call can29 rfl rfl ((show Calls _ _ #[.slice (some ⟨lit43, 0, none⟩) 4 4] _ _ from fold_c (l := tL) _ (by decide) (by decide +kernel) rd43 h55)) ?_
      rintro _ w56 ⟨G44, AJ44, AS44, cj44, cS44, hG44, rfl, hZ44, h56⟩
      refine ⟨_, rfl, ?_⟩
      replace hleF := Le.trans hleF hG44
      replace rd21 := rd21.mono hG44
      replace rd26 := rd26.mono hG44
      replace hZ29 := hZ29.mono hG44
      replace hps0 := hps0.mono hG44
      replace hps1 := hps1.mono hG44
      replace hps2 := hps2.mono hG44
      replace rd43 := rd43.mono hG44
      refine WL.nil (WE.next ?_)
      refine WE.p0 hx 12 (by rfl) (fun w_ => Runs.move rfl) rfl ?_
      refine WE.p0 hx 13 (by rfl) (fun w_ => Runs.extract rfl rfl) rfl ?_
      refine WE.p0 hx 14 (by rfl) (fun w_ => Runs.extract rfl rfl) rfl ?_
      refine WE.op (.inr ((h56.weak (Le.trans hGl43 hG44)).drop 0)) (i := 16) (by rfl) (by kernel_rfl) ?_
      refine WL.storeAll h56 0 rfl rfl rfl inf40 rfl rfl rfl (Free.zero _) ?_
      intro  w57 h57
      try simp only [lz, ls, ez, es'] at h57
      refine WL.nil (WE.next ?_)
      refine WE.p0 hx 17 (by rfl) (fun w_ => Runs.assign rfl) rfl ?_
      refine WE.fin (.inl ⟨16, rfl, by kernel_rfl⟩) (by kernel_rfl) ?_
      refine WN.thn (WC.seq (WC.reg ?_))
      refine WL.v (Runs.move rfl) rfl ?_
      refine WL.v (Runs.valT (u := .slice (some ⟨lit26, 0, none⟩) 3 5) (Runs.lsl_hi Try.underlying65 inf24 rfl rfl (n := 3) rfl (by decide)) rfl) rfl ?_
      refine WL.call can29 rfl rfl ((show Calls _ _ #[.slice (some ⟨lit26, 0, none⟩) 3 5] _ _ from fold_c (l := (lL.take 3)) _ (by decide) (by decide +kernel) (rd26.take 3) h57)) ?_
      rintro _ w58 ⟨G50, AJ50, AS50, cj50, cS50, hG50, rfl, hZ50, h58⟩
      refine ⟨_, rfl, ?_⟩
      replace hleF := Le.trans hleF hG50
      replace rd21 := rd21.mono hG50
      replace rd26 := rd26.mono hG50
      replace hZ29 := hZ29.mono hG50
      replace hps0 := hps0.mono hG50
      replace hps1 := hps1.mono hG50
      replace hps2 := hps2.mono hG50
      replace rd43 := rd43.mono hG50
      replace hZ44 := hZ44.mono hG50
      refine WL.v (Runs.move rfl) rfl ?_
      refine WL.v (Runs.extract rfl rfl) rfl ?_
      refine WL.v (Runs.extract rfl rfl) rfl ?_
      refine WL.alloc' rfl h58 inf40 ?_
      intro b6 w59 h59
      refine WL.storeAll h59 0 rfl rfl rfl inf40 rfl rfl rfl (Free.zero _) ?_
      intro  w60 h60
      try simp only [lz, ls, ez, es'] at h60
      refine WL.v (Runs.assign rfl) rfl ?_
      refine WL.nil (WN.thn (WC.seq (WC.reg ?_)))
      refine WL.v (Runs.loadAll h60 2 rfl Try.underlying40 rfl inf40 rfl rfl) rfl ?_
      refine WL.call can20 rfl rfl (find_c (z := zL) _ 1 0 h60 (RdK.of hZ29.j) (by decide +kernel)) ?_
      rintro _ w61 ⟨rfl, h61⟩
      refine ⟨_, rfl, ?_⟩
      refine WL.v (Runs.move rfl) rfl ?_
      refine WL.v (Runs.extract rfl rfl) rfl ?_
      refine WL.v (Runs.extract rfl rfl) rfl ?_
      refine WL.alloc' rfl h61 inf47 ?_
      intro b8 w62 h62
      refine WL.storeAll h62 0 rfl rfl rfl inf47 rfl rfl rfl (Free.zero _) ?_
      intro  w63 h63
      try simp only [lz, ls, ez, es'] at h63
      refine WL.v (Runs.assign rfl) rfl ?_
      refine WL.nil (WN.thn (WC.seq (WC.reg ?_)))
      refine WL.v (Runs.loadAll h63 3 rfl Try.underlying40 rfl inf40 rfl rfl) rfl ?_
      refine WL.call can22 rfl rfl (stepOf_c (z := zL) _ 1 0 2 h63 (RdK.of hZ29.s) (by decide +kernel)) ?_
      rintro _ w64 ⟨⟨A60, c60, rfl, hrd60⟩, h64⟩
      refine ⟨_, rfl, ?_⟩
      refine WL.v (Runs.move rfl) rfl ?_
      refine WL.v (Runs.extract rfl rfl) rfl ?_
      refine WL.v (Runs.extract rfl rfl) rfl ?_
      refine WL.alloc' rfl h64 inf54 ?_
      intro b10 w65 h65
      refine WL.storeAll h65 0 rfl rfl rfl inf54 rfl rfl rfl (Free.zero _) ?_
      intro  w66 h66
      try simp only [lz, ls, ez, es'] at h66
      refine WL.v (Runs.assign rfl) rfl ?_
      refine WL.nil (WN.thn (WC.seq ?_))
      obtain ⟨ad4, ce4, hea4, ⟨Al4, cl4, rfl, hps4⟩, hcell4⟩ := rd26.atD R0 (i := 4) (by decide)
      obtain rfl := Option.some.inj hea4
      refine WC.eregK h66 h66 (fun s_ => ([9] : List Nat).any (Nat.beq s_)) mixed (by kernel_rfl) (fun hx => ?_)
      intro w67 h67
      refine WE.p0 hx 1 (by rfl) (fun w_ => Runs.move rfl) rfl ?_
      refine WE.p0 hx 2 (by rfl) (fun w_ => Runs.lidxK Try.underlying65 inf24 rfl rfl (n := 4) rfl (by decide)) rfl ?_
      refine WE.v0 12 hx 0 (by rfl) (fun w_ hE_ => Runs.loadAll hE_ 4 rfl Try.underlying40 rfl inf40 rfl rfl) rfl ?_
      refine WE.v0 12 hx 3 (by rfl) (fun w_ hE_ => Runs.loadKF hE_ hcell4 Try.underlying24 rfl inf24 rfl rfl) rfl ?_
      refine WE.op2 (.inr h67) (i := 4) (j := 8) (by rfl) (by rfl) (by kernel_rfl) ?_ ?_
      · skip
        refine WL.call can18 rfl rfl (apply_c (r := (lL.getD 4 R0))  _ hps4 (by decide +kernel) zL_few hZ29 h67) ?_
        rintro _ w68 ⟨G68, AJ68, AS68, cj68, cS68, hG68, rfl, hZ68, h68⟩
        refine ⟨_, rfl, ?_⟩
        replace hleF := Le.trans hleF hG68
        replace rd21 := rd21.mono hG68
        replace rd26 := rd26.mono hG68
        replace hZ29 := hZ29.mono hG68
        replace hps0 := hps0.mono hG68
        replace hps1 := hps1.mono hG68
        replace hps2 := hps2.mono hG68
        replace rd43 := rd43.mono hG68
        replace hZ44 := hZ44.mono hG68
        replace hZ50 := hZ50.mono hG68
        refine WL.nil (WE.next ?_)
        refine WE.p0 hx 5 (by rfl) (fun w_ => Runs.move rfl) rfl ?_
        refine WE.p0 hx 6 (by rfl) (fun w_ => Runs.extract rfl rfl) rfl ?_
        refine WE.p0 hx 7 (by rfl) (fun w_ => Runs.extract rfl rfl) rfl ?_
        refine WE.op (.inr (h68.weak hG68)) (i := 8) (by rfl) (by kernel_rfl) ?_
        refine WL.alloc' rfl h68 inf40 ?_
        intro b12 w69 h69
        refine WL.nil (WE.next ?_)
        refine WE.op (.inr ((h69.weak hG68).drop 0)) (i := 9) (by rfl) (by kernel_rfl) ?_
        refine WL.storeAll h69 0 rfl rfl rfl inf40 rfl rfl rfl (Free.zero _) ?_
        intro  w70 h70
        try simp only [lz, ls, ez, es'] at h70
        refine WL.nil (WE.next ?_)
        refine WE.p0 hx 10 (by rfl) (fun w_ => Runs.assign rfl) rfl ?_
        refine WE.fin (.inl ⟨9, rfl, by kernel_rfl⟩) (by kernel_rfl) ?_
        refine WN.thn (WC.seq ?_)
        obtain ⟨ad0, ce0, hea0, ⟨Al0, cl0, rfl, hps0⟩, hcell0⟩ := rd26.atD R0 (i := 0) (by decide)
        obtain rfl := Option.some.inj hea0
        refine WC.reg ?_
        refine WL.v (Runs.build (vs := [(2, .bool true)]) (cells := #[.slice none 0 0, .slice none 0 0, .bool true]) rfl (by kernel_rfl)) rfl ?_
        refine WL.v (Runs.move rfl) rfl ?_
        refine WL.v (Runs.lidxK Try.underlying65 inf24 rfl rfl (n := 0) rfl (by decide)) rfl ?_
        refine WL.v (Runs.loadKF h70 hcell0 Try.underlying24 rfl inf24 rfl rfl) rfl ?_
        refine WL.call can18 rfl rfl ((show Calls _ _ #[.agg #[.slice none 0 0, .slice none 0 0, .bool true], _] _ _ from apply_c (r := (lL.getD 0 R0)) (AJ := none) (AS := none) (cj := 0) (cS := 0) (z := dz) _ hps0 (by decide +kernel) dz_few dz_R h70)) ?_
        rintro _ w71 ⟨G76, AJ76, AS76, cj76, cS76, hG76, rfl, hZ76, h71⟩
        refine ⟨_, rfl, ?_⟩
        replace hleF := Le.trans hleF hG76
        replace rd21 := rd21.mono hG76
        replace rd26 := rd26.mono hG76
        replace hZ29 := hZ29.mono hG76
        replace hps0 := hps0.mono hG76
        replace hps1 := hps1.mono hG76
        replace hps2 := hps2.mono hG76
        replace rd43 := rd43.mono hG76
        replace hZ44 := hZ44.mono hG76
        replace hZ50 := hZ50.mono hG76
        replace hZ68 := hZ68.mono hG76
        refine WL.v (Runs.move rfl) rfl ?_
        refine WL.v (Runs.extract rfl rfl) rfl ?_
        refine WL.v (Runs.extract rfl rfl) rfl ?_
        refine WL.alloc' rfl h71 inf40 ?_
        intro b14 w72 h72
        refine WL.storeAll h72 0 rfl rfl rfl inf40 rfl rfl rfl (Free.zero _) ?_
        intro  w73 h73
        try simp only [lz, ls, ez, es'] at h73
        refine WL.v (Runs.assign rfl) rfl ?_
        refine WL.nil (WN.thn (WC.seq ?_))
        obtain ⟨ad1, ce1, hea1, ⟨Al1, cl1, rfl, hps1⟩, hcell1⟩ := rd26.atD R0 (i := 1) (by decide)
        obtain rfl := Option.some.inj hea1
        refine WC.reg ?_
        refine WL.v (Runs.move rfl) rfl ?_
        refine WL.v (Runs.lidxK Try.underlying65 inf24 rfl rfl (n := 1) rfl (by decide)) rfl ?_
        refine WL.v (Runs.loadKF h73 hcell1 Try.underlying24 rfl inf24 rfl rfl) rfl ?_
        refine WL.call can13 rfl rfl (encode_c (r := (lL.getD 1 R0)) _ h73 hps1 (by decide +kernel)) ?_
        rintro _ w74 ⟨rfl, h74⟩
        refine ⟨_, rfl, ?_⟩
        refine WL.call can11 rfl rfl (decode_c _ (encR (lL.getD 1 R0)) h74 (by have := encR_len (r := (lL.getD 1 R0)); omega)) ?_
        rintro _ w75 ⟨G84, A84, c84, hG84, rfl, hrd84, h75⟩
        refine ⟨_, rfl, ?_⟩
        replace hleF := Le.trans hleF hG84
        replace rd21 := rd21.mono hG84
        replace rd26 := rd26.mono hG84
        replace hZ29 := hZ29.mono hG84
        replace hps0 := hps0.mono hG84
        replace hps1 := hps1.mono hG84
        replace hps2 := hps2.mono hG84
        replace rd43 := rd43.mono hG84
        replace hZ44 := hZ44.mono hG84
        replace hZ50 := hZ50.mono hG84
        replace hZ68 := hZ68.mono hG84
        replace hZ76 := hZ76.mono hG84
        refine WL.v (Runs.move rfl) rfl ?_
        refine WL.v (Runs.extract rfl rfl) rfl ?_
        refine WL.v (Runs.extract rfl rfl) rfl ?_
        refine WL.alloc' rfl h75 inf24 ?_
        intro b16 w76 h76
        refine WL.storeAll h76 0 rfl rfl rfl inf24 rfl rfl rfl (Free.zero _) ?_
        intro  w77 h77
        try simp only [lz, ls, ez, es'] at h77
        refine WL.v (Runs.assign rfl) rfl ?_
        refine WL.nil (WN.thn (WC.seq (WC.reg ?_)))
        refine WL.call can11 rfl rfl ((show Calls _ _ #[.string ⟨#[1, 8, 0, 0, 0, 0, 0]⟩] _ _ from decode_c _ [1, 8, 0, 0, 0, 0, 0] h77 (by simp))) ?_
        rintro _ w78 ⟨G88, A88, c88, hG88, rfl, hrd88, h78⟩
        refine ⟨_, rfl, ?_⟩
        replace hleF := Le.trans hleF hG88
        replace rd21 := rd21.mono hG88
        replace rd26 := rd26.mono hG88
        replace hZ29 := hZ29.mono hG88
        replace hps0 := hps0.mono hG88
        replace hps1 := hps1.mono hG88
        replace hps2 := hps2.mono hG88
        replace rd43 := rd43.mono hG88
        replace hZ44 := hZ44.mono hG88
        replace hZ50 := hZ50.mono hG88
        replace hZ68 := hZ68.mono hG88
        replace hZ76 := hZ76.mono hG88
        replace hrd84 := hrd84.mono hG88
        refine WL.v (Runs.move rfl) rfl ?_
        refine WL.v (Runs.extract rfl rfl) rfl ?_
        refine WL.v (Runs.extract rfl rfl) rfl ?_
        refine WL.alloc' rfl h78 inf24 ?_
        intro b18 w79 h79
        refine WL.storeAll h79 0 rfl rfl rfl inf24 rfl rfl rfl (Free.zero _) ?_
        intro  w80 h80
        try simp only [lz, ls, ez, es'] at h80
        refine WL.v (Runs.assign rfl) rfl ?_
        refine WL.nil (WN.thn (WC.seq ?_))
        obtain ⟨ad1, ce1, hea1, ⟨Al1, cl1, rfl, hps1⟩, hcell1⟩ := rd26.atD R0 (i := 1) (by decide)
        obtain rfl := Option.some.inj hea1
        refine WC.eregK h80 h80 (fun s_ => ([] : List Nat).any (Nat.beq s_)) mixed (by kernel_rfl) (fun hx => ?_)
        intro w81 h81
        refine WE.p0 hx 0 (by rfl) (fun w_ => Runs.move rfl) rfl ?_
        refine WE.p0 hx 1 (by rfl) (fun w_ => Runs.boolT (c := true) (Runs.eql rfl rfl) (by decide +kernel)) rfl ?_
        refine WE.p0 hx 2 (by rfl) (fun w_ => Runs.move rfl) rfl ?_
        refine WE.p1 (j := 2) (b := true) hx 4 (by rfl) ⟨_, _, rfl, rfl, rfl⟩ (fun w_ => Runs.build (vs := [(0, Vi 1), (2, Vi 2)]) (cells := #[Vi 1, Vi 0, Vi 2]) rfl (by kernel_rfl)) rfl ?_
        refine WE.v1 (j := 2) (b := true) 12 hx 3 (by rfl) ⟨_, _, rfl, rfl, rfl⟩ (fun w_ hE_ => Runs.loadAll hE_ 5 rfl Try.underlying47 rfl inf47 rfl rfl) rfl ?_
        refine WE.p1 (j := 2) (b := true) hx 5 (by rfl) ⟨_, _, rfl, rfl, rfl⟩ (fun w_ => Runs.boolT (c := true) (Runs.aeql (by kernel_rfl) rfl rfl (eqJob _ (.inl rfl) _ (findM zL 1 0).1 ⟨1, 0, 2⟩)) (by decide +kernel)) rfl ?_
        refine WE.p0 hx 6 (by rfl) (fun w_ => Runs.pick rfl rfl rfl) rfl ?_
        refine WE.p0 hx 7 (by rfl) (fun w_ => Runs.move rfl) rfl ?_
        refine WE.p1 (j := 7) (b := true) hx 8 (by rfl) ⟨_, _, rfl, rfl, rfl⟩ (fun w_ => Runs.move rfl) rfl ?_
        refine WE.p0 hx 9 (by rfl) (fun w_ => Runs.pick rfl rfl rfl) rfl ?_
        refine WE.p0 hx 10 (by rfl) (fun w_ => Runs.move rfl) rfl ?_
        refine WE.p1 (j := 10) (b := true) hx 11 (by rfl) ⟨_, _, rfl, rfl, rfl⟩ (fun w_ => Runs.move rfl) rfl ?_
        refine WE.p0 hx 12 (by rfl) (fun w_ => Runs.pick rfl rfl rfl) rfl ?_
        refine WE.p0 hx 13 (by rfl) (fun w_ => Runs.move rfl) rfl ?_
        refine WE.p1 (j := 13) (b := true) hx 14 (by rfl) ⟨_, _, rfl, rfl, rfl⟩ (fun w_ => Runs.fld fld54_3 rfl) rfl ?_
        refine WE.v1 (j := 13) (b := true) 12 hx 15 (by rfl) ⟨_, _, rfl, rfl, rfl⟩ (fun w_ hE_ => Runs.load1 Try.underlying3 rfl rfl (hE_.ocell (i := 4) rfl rfl)) rfl ?_
        refine WE.p1 (j := 13) (b := true) hx 16 (by rfl) ⟨_, _, rfl, rfl, rfl⟩ (fun w_ => Runs.boolT (c := true) (Runs.eql rfl rfl) (by decide +kernel)) rfl ?_
        refine WE.p0 hx 17 (by rfl) (fun w_ => Runs.pick rfl rfl rfl) rfl ?_
        refine WE.p0 hx 18 (by rfl) (fun w_ => Runs.move rfl) rfl ?_
        refine WE.p1 (j := 18) (b := true) hx 19 (by rfl) ⟨_, _, rfl, rfl, rfl⟩ (fun w_ => Runs.fld fld54_4 rfl) rfl ?_
        refine WE.v1 (j := 18) (b := true) 12 hx 20 (by rfl) ⟨_, _, rfl, rfl, rfl⟩ (fun w_ hE_ => Runs.load1 Try.underlying3 rfl rfl (hE_.ocell (i := 4) rfl rfl)) rfl ?_
        refine WE.p1 (j := 18) (b := true) hx 21 (by rfl) ⟨_, _, rfl, rfl, rfl⟩ (fun w_ => Runs.boolT (c := true) (Runs.eql rfl rfl) (by decide +kernel)) rfl ?_
        refine WE.p0 hx 22 (by rfl) (fun w_ => Runs.pick rfl rfl rfl) rfl ?_
        refine WE.p0 hx 23 (by rfl) (fun w_ => Runs.move rfl) rfl ?_
        refine WE.p1 (j := 23) (b := true) hx 24 (by rfl) ⟨_, _, rfl, rfl, rfl⟩ (fun w_ => Runs.fld fld54_5 rfl) rfl ?_
        refine WE.v1 (j := 23) (b := true) 12 hx 25 (by rfl) ⟨_, _, rfl, rfl, rfl⟩ (fun w_ hE_ => Runs.load1 Try.underlying22 rfl rfl (hE_.ocell (i := 4) rfl rfl)) rfl ?_
        refine WE.p1 (j := 23) (b := true) hx 26 (by rfl) ⟨_, _, rfl, rfl, rfl⟩ (fun w_ => Runs.llen Try.underlying22 rfl rfl) rfl ?_
        refine WE.p1 (j := 23) (b := true) hx 27 (by rfl) ⟨_, _, rfl, rfl, rfl⟩ (fun w_ => Runs.boolT (c := true) (Runs.eql rfl rfl) (by decide +kernel)) rfl ?_
        refine WE.p0 hx 28 (by rfl) (fun w_ => Runs.pick rfl rfl rfl) rfl ?_
        refine WE.p0 hx 29 (by rfl) (fun w_ => Runs.move rfl) rfl ?_
        refine WE.p1 (j := 29) (b := true) hx 30 (by rfl) ⟨_, _, rfl, rfl, rfl⟩ (fun w_ => Runs.move rfl) rfl ?_
        refine WE.p1 (j := 29) (b := true) hx 31 (by rfl) ⟨_, _, rfl, rfl, rfl⟩ (fun w_ => Runs.boolT (c := true) (Runs.eql rfl rfl) (by decide +kernel)) rfl ?_
        refine WE.p0 hx 32 (by rfl) (fun w_ => Runs.pick rfl rfl rfl) rfl ?_
        refine WE.p0 hx 33 (by rfl) (fun w_ => Runs.move rfl) rfl ?_
        refine WE.p1 (j := 33) (b := true) hx 34 (by rfl) ⟨_, _, rfl, rfl, rfl⟩ (fun w_ => Runs.fld fld40_1 rfl) rfl ?_
        refine WE.v1 (j := 33) (b := true) 12 hx 35 (by rfl) ⟨_, _, rfl, rfl, rfl⟩ (fun w_ hE_ => Runs.load1 Try.underlying38 rfl rfl (hE_.ocell (i := 7) rfl rfl)) rfl ?_
        refine WE.p1 (j := 33) (b := true) hx 36 (by rfl) ⟨_, _, rfl, rfl, rfl⟩ (fun w_ => Runs.llen Try.underlying38 rfl rfl) rfl ?_
        refine WE.p1 (j := 33) (b := true) hx 37 (by rfl) ⟨_, _, rfl, rfl, rfl⟩ (fun w_ => Runs.boolT (c := true) (Runs.eql rfl rfl) (by decide +kernel)) rfl ?_
        refine WE.p0 hx 38 (by rfl) (fun w_ => Runs.pick rfl rfl rfl) rfl ?_
        refine WE.p0 hx 39 (by rfl) (fun w_ => Runs.move rfl) rfl ?_
        refine WE.v1 (j := 39) (b := true) 12 hx 40 (by rfl) ⟨_, _, rfl, rfl, rfl⟩ (fun w_ hE_ => Runs.loadAll hE_ 6 rfl Try.underlying40 rfl inf40 rfl rfl) rfl ?_
        refine WE.op (.inr h81) (i := 41) (by rfl) (by kernel_rfl) ?_
        refine WL.gon rfl rfl rfl ?_
        refine WL.call can26 rfl rfl (aliveB_c (z := az) (b := true) (by decide +kernel) az_few hZ50 h81) ?_
        rintro _ w82 ⟨rfl, h82⟩
        refine ⟨_, rfl, ?_⟩
        refine WL.nil (WE.next ?_)
        refine WE.p0 hx 42 (by rfl) (fun w_ => Runs.pick rfl rfl rfl) rfl ?_
        refine WE.p0 hx 43 (by rfl) (fun w_ => Runs.move rfl) rfl ?_
        refine WE.v1 (j := 43) (b := true) 12 hx 44 (by rfl) ⟨_, _, rfl, rfl, rfl⟩ (fun w_ hE_ => Runs.loadAll hE_ 8 rfl Try.underlying40 rfl inf40 rfl rfl) rfl ?_
        refine WE.op (.inr h82) (i := 45) (by rfl) (by kernel_rfl) ?_
        refine WL.gon rfl rfl rfl ?_
        refine WL.call can26 rfl rfl (aliveB_c (z := zL) (b := false) (by decide +kernel) zL_few hZ29 h82) ?_
        rintro _ w83 ⟨rfl, h83⟩
        refine ⟨_, rfl, ?_⟩
        refine WL.nil (WE.next ?_)
        refine WE.p1 (j := 43) (b := true) hx 46 (by rfl) ⟨_, _, rfl, rfl, rfl⟩ (fun w_ => Runs.not rfl) rfl ?_
        refine WE.p0 hx 47 (by rfl) (fun w_ => Runs.pick rfl rfl rfl) rfl ?_
        refine WE.p0 hx 48 (by rfl) (fun w_ => Runs.move rfl) rfl ?_
        refine WE.p1 (j := 48) (b := true) hx 49 (by rfl) ⟨_, _, rfl, rfl, rfl⟩ (fun w_ => Runs.move rfl) rfl ?_
        refine WE.p1 (j := 48) (b := true) hx 50 (by rfl) ⟨_, _, rfl, rfl, rfl⟩ (fun w_ => Runs.boolT (c := true) (Runs.eql rfl rfl) (by decide +kernel)) rfl ?_
        refine WE.p0 hx 51 (by rfl) (fun w_ => Runs.pick rfl rfl rfl) rfl ?_
        refine WE.p0 hx 52 (by rfl) (fun w_ => Runs.move rfl) rfl ?_
        refine WE.p1 (j := 52) (b := true) hx 53 (by rfl) ⟨_, _, rfl, rfl, rfl⟩ (fun w_ => Runs.move rfl) rfl ?_
        refine WE.p1 (j := 52) (b := true) hx 54 (by rfl) ⟨_, _, rfl, rfl, rfl⟩ (fun w_ => Runs.boolT (c := true) (Runs.eql rfl rfl) (by decide +kernel)) rfl ?_
        refine WE.p0 hx 55 (by rfl) (fun w_ => Runs.pick rfl rfl rfl) rfl ?_
        refine WE.p0 hx 56 (by rfl) (fun w_ => Runs.move rfl) rfl ?_
        refine WE.p1 (j := 56) (b := true) hx 57 (by rfl) ⟨_, _, rfl, rfl, rfl⟩ (fun w_ => Runs.move rfl) rfl ?_
        refine WE.p1 (j := 56) (b := true) hx 58 (by rfl) ⟨_, _, rfl, rfl, rfl⟩ (fun w_ => Runs.boolT (c := true) (Runs.eql rfl rfl) (by decide +kernel)) rfl ?_
        refine WE.p0 hx 59 (by rfl) (fun w_ => Runs.pick rfl rfl rfl) rfl ?_
        refine WE.p0 hx 60 (by rfl) (fun w_ => Runs.move rfl) rfl ?_
        refine WE.p1 (j := 60) (b := true) hx 62 (by rfl) ⟨_, _, rfl, rfl, rfl⟩ (fun w_ => Runs.move rfl) rfl ?_
        refine WE.p1 (j := 60) (b := true) hx 63 (by rfl) ⟨_, _, rfl, rfl, rfl⟩ (fun w_ => Runs.lidxK Try.underlying65 inf24 rfl rfl (n := 1) rfl (by decide)) rfl ?_
        refine WE.v1 (j := 60) (b := true) 12 hx 61 (by rfl) ⟨_, _, rfl, rfl, rfl⟩ (fun w_ hE_ => Runs.loadAll hE_ 1 rfl Try.underlying24 rfl inf24 rfl rfl) rfl ?_
        refine WE.v1 (j := 60) (b := true) 12 hx 64 (by rfl) ⟨_, _, rfl, rfl, rfl⟩ (fun w_ hE_ => Runs.loadKF hE_ hcell1 Try.underlying24 rfl inf24 rfl rfl) rfl ?_
        refine WE.op (.inr h83) (i := 65) (by rfl) (by kernel_rfl) ?_
        refine WL.gon rfl rfl rfl ?_
        refine WL.call can15 rfl rfl (recsT _ back1 hrd84 (by rw [back1]; decide +kernel) hps1 h83) ?_
        rintro _ w84 ⟨rfl, h84⟩
        refine ⟨_, rfl, ?_⟩
        refine WL.nil (WE.next ?_)
        refine WE.p0 hx 66 (by rfl) (fun w_ => Runs.pick rfl rfl rfl) rfl ?_
        refine WE.p0 hx 67 (by rfl) (fun w_ => Runs.move rfl) rfl ?_
        refine WE.p1 (j := 67) (b := true) hx 68 (by rfl) ⟨_, _, rfl, rfl, rfl⟩ (fun w_ => Runs.move rfl) rfl ?_
        refine WE.p1 (j := 67) (b := true) hx 69 (by rfl) ⟨_, _, rfl, rfl, rfl⟩ (fun w_ => Runs.boolT (c := true) (Runs.eql rfl rfl) (by decide +kernel)) rfl ?_
        refine WE.p0 hx 70 (by rfl) (fun w_ => Runs.pick rfl rfl rfl) rfl ?_
        refine WE.p0 hx 71 (by rfl) (fun w_ => Runs.assign rfl) rfl ?_
        refine WE.fin (.inr h84) (by kernel_rfl) ?_
        refine WN.thn (WC.ret ?_)
        have h90 := (((((((((h84.drop 0).drop 0).drop 0).drop 0).drop 0).drop 0).drop 0).drop 0).drop 0)
        simp only [List.eraseIdx_cons_zero] at h90
        exact ret1 rfl rfl ⟨_, hleF, rfl, h90⟩
      · skip
        refine WL.alloc' rfl h67 inf40 ?_
        intro b12 w85 h85
        refine WL.nil (WE.next ?_)
        refine WE.op (.inr (h85.drop 0)) (i := 4) (by rfl) (by kernel_rfl) ?_
        refine WL.call can18 rfl rfl (apply_c (r := (lL.getD 4 R0))  _ hps4 (by decide +kernel) zL_few hZ29 h85) ?_
        rintro _ w86 ⟨G68, AJ68, AS68, cj68, cS68, hG68, rfl, hZ68, h86⟩
        refine ⟨_, rfl, ?_⟩
        replace hleF := Le.trans hleF hG68
        replace rd21 := rd21.mono hG68
        replace rd26 := rd26.mono hG68
        replace hZ29 := hZ29.mono hG68
        replace hps0 := hps0.mono hG68
        replace hps1 := hps1.mono hG68
        replace hps2 := hps2.mono hG68
        replace rd43 := rd43.mono hG68
        replace hZ44 := hZ44.mono hG68
        replace hZ50 := hZ50.mono hG68
        refine WL.nil (WE.next ?_)
        refine WE.p0 hx 5 (by rfl) (fun w_ => Runs.move rfl) rfl ?_
        refine WE.p0 hx 6 (by rfl) (fun w_ => Runs.extract rfl rfl) rfl ?_
        refine WE.p0 hx 7 (by rfl) (fun w_ => Runs.extract rfl rfl) rfl ?_
        refine WE.op (.inr ((h86.weak hG68).drop 0)) (i := 9) (by rfl) (by kernel_rfl) ?_
        refine WL.storeAll h86 0 rfl rfl rfl inf40 rfl rfl rfl (Free.zero _) ?_
        intro  w87 h87
        try simp only [lz, ls, ez, es'] at h87
        refine WL.nil (WE.next ?_)
        refine WE.p0 hx 10 (by rfl) (fun w_ => Runs.assign rfl) rfl ?_
        refine WE.fin (.inl ⟨9, rfl, by kernel_rfl⟩) (by kernel_rfl) ?_
        refine WN.thn (WC.seq ?_)
        obtain ⟨ad0, ce0, hea0, ⟨Al0, cl0, rfl, hps0⟩, hcell0⟩ := rd26.atD R0 (i := 0) (by decide)
        obtain rfl := Option.some.inj hea0
        refine WC.reg ?_
        refine WL.v (Runs.build (vs := [(2, .bool true)]) (cells := #[.slice none 0 0, .slice none 0 0, .bool true]) rfl (by kernel_rfl)) rfl ?_
        refine WL.v (Runs.move rfl) rfl ?_
        refine WL.v (Runs.lidxK Try.underlying65 inf24 rfl rfl (n := 0) rfl (by decide)) rfl ?_
        refine WL.v (Runs.loadKF h87 hcell0 Try.underlying24 rfl inf24 rfl rfl) rfl ?_
        refine WL.call can18 rfl rfl ((show Calls _ _ #[.agg #[.slice none 0 0, .slice none 0 0, .bool true], _] _ _ from apply_c (r := (lL.getD 0 R0)) (AJ := none) (AS := none) (cj := 0) (cS := 0) (z := dz) _ hps0 (by decide +kernel) dz_few dz_R h87)) ?_
        rintro _ w88 ⟨G76, AJ76, AS76, cj76, cS76, hG76, rfl, hZ76, h88⟩
        refine ⟨_, rfl, ?_⟩
        replace hleF := Le.trans hleF hG76
        replace rd21 := rd21.mono hG76
        replace rd26 := rd26.mono hG76
        replace hZ29 := hZ29.mono hG76
        replace hps0 := hps0.mono hG76
        replace hps1 := hps1.mono hG76
        replace hps2 := hps2.mono hG76
        replace rd43 := rd43.mono hG76
        replace hZ44 := hZ44.mono hG76
        replace hZ50 := hZ50.mono hG76
        replace hZ68 := hZ68.mono hG76
        refine WL.v (Runs.move rfl) rfl ?_
        refine WL.v (Runs.extract rfl rfl) rfl ?_
        refine WL.v (Runs.extract rfl rfl) rfl ?_
        refine WL.alloc' rfl h88 inf40 ?_
        intro b14 w89 h89
        refine WL.storeAll h89 0 rfl rfl rfl inf40 rfl rfl rfl (Free.zero _) ?_
        intro  w90 h90
        try simp only [lz, ls, ez, es'] at h90
        refine WL.v (Runs.assign rfl) rfl ?_
        refine WL.nil (WN.thn (WC.seq ?_))
        obtain ⟨ad1, ce1, hea1, ⟨Al1, cl1, rfl, hps1⟩, hcell1⟩ := rd26.atD R0 (i := 1) (by decide)
        obtain rfl := Option.some.inj hea1
        refine WC.reg ?_
        refine WL.v (Runs.move rfl) rfl ?_
        refine WL.v (Runs.lidxK Try.underlying65 inf24 rfl rfl (n := 1) rfl (by decide)) rfl ?_
        refine WL.v (Runs.loadKF h90 hcell1 Try.underlying24 rfl inf24 rfl rfl) rfl ?_
        refine WL.call can13 rfl rfl (encode_c (r := (lL.getD 1 R0)) _ h90 hps1 (by decide +kernel)) ?_
        rintro _ w91 ⟨rfl, h91⟩
        refine ⟨_, rfl, ?_⟩
        refine WL.call can11 rfl rfl (decode_c _ (encR (lL.getD 1 R0)) h91 (by have := encR_len (r := (lL.getD 1 R0)); omega)) ?_
        rintro _ w92 ⟨G84, A84, c84, hG84, rfl, hrd84, h92⟩
        refine ⟨_, rfl, ?_⟩
        replace hleF := Le.trans hleF hG84
        replace rd21 := rd21.mono hG84
        replace rd26 := rd26.mono hG84
        replace hZ29 := hZ29.mono hG84
        replace hps0 := hps0.mono hG84
        replace hps1 := hps1.mono hG84
        replace hps2 := hps2.mono hG84
        replace rd43 := rd43.mono hG84
        replace hZ44 := hZ44.mono hG84
        replace hZ50 := hZ50.mono hG84
        replace hZ68 := hZ68.mono hG84
        replace hZ76 := hZ76.mono hG84
        refine WL.v (Runs.move rfl) rfl ?_
        refine WL.v (Runs.extract rfl rfl) rfl ?_
        refine WL.v (Runs.extract rfl rfl) rfl ?_
        refine WL.alloc' rfl h92 inf24 ?_
        intro b16 w93 h93
        refine WL.storeAll h93 0 rfl rfl rfl inf24 rfl rfl rfl (Free.zero _) ?_
        intro  w94 h94
        try simp only [lz, ls, ez, es'] at h94
        refine WL.v (Runs.assign rfl) rfl ?_
        refine WL.nil (WN.thn (WC.seq (WC.reg ?_)))
        refine WL.call can11 rfl rfl ((show Calls _ _ #[.string ⟨#[1, 8, 0, 0, 0, 0, 0]⟩] _ _ from decode_c _ [1, 8, 0, 0, 0, 0, 0] h94 (by simp))) ?_
        rintro _ w95 ⟨G88, A88, c88, hG88, rfl, hrd88, h95⟩
        refine ⟨_, rfl, ?_⟩
        replace hleF := Le.trans hleF hG88
        replace rd21 := rd21.mono hG88
        replace rd26 := rd26.mono hG88
        replace hZ29 := hZ29.mono hG88
        replace hps0 := hps0.mono hG88
        replace hps1 := hps1.mono hG88
        replace hps2 := hps2.mono hG88
        replace rd43 := rd43.mono hG88
        replace hZ44 := hZ44.mono hG88
        replace hZ50 := hZ50.mono hG88
        replace hZ68 := hZ68.mono hG88
        replace hZ76 := hZ76.mono hG88
        replace hrd84 := hrd84.mono hG88
        refine WL.v (Runs.move rfl) rfl ?_
        refine WL.v (Runs.extract rfl rfl) rfl ?_
        refine WL.v (Runs.extract rfl rfl) rfl ?_
        refine WL.alloc' rfl h95 inf24 ?_
        intro b18 w96 h96
        refine WL.storeAll h96 0 rfl rfl rfl inf24 rfl rfl rfl (Free.zero _) ?_
        intro  w97 h97
        try simp only [lz, ls, ez, es'] at h97
        refine WL.v (Runs.assign rfl) rfl ?_
        refine WL.nil (WN.thn (WC.seq ?_))
        obtain ⟨ad1, ce1, hea1, ⟨Al1, cl1, rfl, hps1⟩, hcell1⟩ := rd26.atD R0 (i := 1) (by decide)
        obtain rfl := Option.some.inj hea1
        refine WC.eregK h97 h97 (fun s_ => ([] : List Nat).any (Nat.beq s_)) mixed (by kernel_rfl) (fun hx => ?_)
        intro w98 h98
        refine WE.p0 hx 0 (by rfl) (fun w_ => Runs.move rfl) rfl ?_
        refine WE.p0 hx 1 (by rfl) (fun w_ => Runs.boolT (c := true) (Runs.eql rfl rfl) (by decide +kernel)) rfl ?_
        refine WE.p0 hx 2 (by rfl) (fun w_ => Runs.move rfl) rfl ?_
        refine WE.p1 (j := 2) (b := true) hx 4 (by rfl) ⟨_, _, rfl, rfl, rfl⟩ (fun w_ => Runs.build (vs := [(0, Vi 1), (2, Vi 2)]) (cells := #[Vi 1, Vi 0, Vi 2]) rfl (by kernel_rfl)) rfl ?_
        refine WE.v1 (j := 2) (b := true) 12 hx 3 (by rfl) ⟨_, _, rfl, rfl, rfl⟩ (fun w_ hE_ => Runs.loadAll hE_ 5 rfl Try.underlying47 rfl inf47 rfl rfl) rfl ?_
        refine WE.p1 (j := 2) (b := true) hx 5 (by rfl) ⟨_, _, rfl, rfl, rfl⟩ (fun w_ => Runs.boolT (c := true) (Runs.aeql (by kernel_rfl) rfl rfl (eqJob _ (.inl rfl) _ (findM zL 1 0).1 ⟨1, 0, 2⟩)) (by decide +kernel)) rfl ?_
        refine WE.p0 hx 6 (by rfl) (fun w_ => Runs.pick rfl rfl rfl) rfl ?_
        refine WE.p0 hx 7 (by rfl) (fun w_ => Runs.move rfl) rfl ?_
        refine WE.p1 (j := 7) (b := true) hx 8 (by rfl) ⟨_, _, rfl, rfl, rfl⟩ (fun w_ => Runs.move rfl) rfl ?_
        refine WE.p0 hx 9 (by rfl) (fun w_ => Runs.pick rfl rfl rfl) rfl ?_
        refine WE.p0 hx 10 (by rfl) (fun w_ => Runs.move rfl) rfl ?_
        refine WE.p1 (j := 10) (b := true) hx 11 (by rfl) ⟨_, _, rfl, rfl, rfl⟩ (fun w_ => Runs.move rfl) rfl ?_
        refine WE.p0 hx 12 (by rfl) (fun w_ => Runs.pick rfl rfl rfl) rfl ?_
        refine WE.p0 hx 13 (by rfl) (fun w_ => Runs.move rfl) rfl ?_
        refine WE.p1 (j := 13) (b := true) hx 14 (by rfl) ⟨_, _, rfl, rfl, rfl⟩ (fun w_ => Runs.fld fld54_3 rfl) rfl ?_
        refine WE.v1 (j := 13) (b := true) 12 hx 15 (by rfl) ⟨_, _, rfl, rfl, rfl⟩ (fun w_ hE_ => Runs.load1 Try.underlying3 rfl rfl (hE_.ocell (i := 4) rfl rfl)) rfl ?_
        refine WE.p1 (j := 13) (b := true) hx 16 (by rfl) ⟨_, _, rfl, rfl, rfl⟩ (fun w_ => Runs.boolT (c := true) (Runs.eql rfl rfl) (by decide +kernel)) rfl ?_
        refine WE.p0 hx 17 (by rfl) (fun w_ => Runs.pick rfl rfl rfl) rfl ?_
        refine WE.p0 hx 18 (by rfl) (fun w_ => Runs.move rfl) rfl ?_
        refine WE.p1 (j := 18) (b := true) hx 19 (by rfl) ⟨_, _, rfl, rfl, rfl⟩ (fun w_ => Runs.fld fld54_4 rfl) rfl ?_
        refine WE.v1 (j := 18) (b := true) 12 hx 20 (by rfl) ⟨_, _, rfl, rfl, rfl⟩ (fun w_ hE_ => Runs.load1 Try.underlying3 rfl rfl (hE_.ocell (i := 4) rfl rfl)) rfl ?_
        refine WE.p1 (j := 18) (b := true) hx 21 (by rfl) ⟨_, _, rfl, rfl, rfl⟩ (fun w_ => Runs.boolT (c := true) (Runs.eql rfl rfl) (by decide +kernel)) rfl ?_
        refine WE.p0 hx 22 (by rfl) (fun w_ => Runs.pick rfl rfl rfl) rfl ?_
        refine WE.p0 hx 23 (by rfl) (fun w_ => Runs.move rfl) rfl ?_
        refine WE.p1 (j := 23) (b := true) hx 24 (by rfl) ⟨_, _, rfl, rfl, rfl⟩ (fun w_ => Runs.fld fld54_5 rfl) rfl ?_
        refine WE.v1 (j := 23) (b := true) 12 hx 25 (by rfl) ⟨_, _, rfl, rfl, rfl⟩ (fun w_ hE_ => Runs.load1 Try.underlying22 rfl rfl (hE_.ocell (i := 4) rfl rfl)) rfl ?_
        refine WE.p1 (j := 23) (b := true) hx 26 (by rfl) ⟨_, _, rfl, rfl, rfl⟩ (fun w_ => Runs.llen Try.underlying22 rfl rfl) rfl ?_
        refine WE.p1 (j := 23) (b := true) hx 27 (by rfl) ⟨_, _, rfl, rfl, rfl⟩ (fun w_ => Runs.boolT (c := true) (Runs.eql rfl rfl) (by decide +kernel)) rfl ?_
        refine WE.p0 hx 28 (by rfl) (fun w_ => Runs.pick rfl rfl rfl) rfl ?_
        refine WE.p0 hx 29 (by rfl) (fun w_ => Runs.move rfl) rfl ?_
        refine WE.p1 (j := 29) (b := true) hx 30 (by rfl) ⟨_, _, rfl, rfl, rfl⟩ (fun w_ => Runs.move rfl) rfl ?_
        refine WE.p1 (j := 29) (b := true) hx 31 (by rfl) ⟨_, _, rfl, rfl, rfl⟩ (fun w_ => Runs.boolT (c := true) (Runs.eql rfl rfl) (by decide +kernel)) rfl ?_
        refine WE.p0 hx 32 (by rfl) (fun w_ => Runs.pick rfl rfl rfl) rfl ?_
        refine WE.p0 hx 33 (by rfl) (fun w_ => Runs.move rfl) rfl ?_
        refine WE.p1 (j := 33) (b := true) hx 34 (by rfl) ⟨_, _, rfl, rfl, rfl⟩ (fun w_ => Runs.fld fld40_1 rfl) rfl ?_
        refine WE.v1 (j := 33) (b := true) 12 hx 35 (by rfl) ⟨_, _, rfl, rfl, rfl⟩ (fun w_ hE_ => Runs.load1 Try.underlying38 rfl rfl (hE_.ocell (i := 7) rfl rfl)) rfl ?_
        refine WE.p1 (j := 33) (b := true) hx 36 (by rfl) ⟨_, _, rfl, rfl, rfl⟩ (fun w_ => Runs.llen Try.underlying38 rfl rfl) rfl ?_
        refine WE.p1 (j := 33) (b := true) hx 37 (by rfl) ⟨_, _, rfl, rfl, rfl⟩ (fun w_ => Runs.boolT (c := true) (Runs.eql rfl rfl) (by decide +kernel)) rfl ?_
        refine WE.p0 hx 38 (by rfl) (fun w_ => Runs.pick rfl rfl rfl) rfl ?_
        refine WE.p0 hx 39 (by rfl) (fun w_ => Runs.move rfl) rfl ?_
        refine WE.v1 (j := 39) (b := true) 12 hx 40 (by rfl) ⟨_, _, rfl, rfl, rfl⟩ (fun w_ hE_ => Runs.loadAll hE_ 6 rfl Try.underlying40 rfl inf40 rfl rfl) rfl ?_
        refine WE.op (.inr h98) (i := 41) (by rfl) (by kernel_rfl) ?_
        refine WL.gon rfl rfl rfl ?_
        refine WL.call can26 rfl rfl (aliveB_c (z := az) (b := true) (by decide +kernel) az_few hZ50 h98) ?_
        rintro _ w99 ⟨rfl, h99⟩
        refine ⟨_, rfl, ?_⟩
        refine WL.nil (WE.next ?_)
        refine WE.p0 hx 42 (by rfl) (fun w_ => Runs.pick rfl rfl rfl) rfl ?_
        refine WE.p0 hx 43 (by rfl) (fun w_ => Runs.move rfl) rfl ?_
        refine WE.v1 (j := 43) (b := true) 12 hx 44 (by rfl) ⟨_, _, rfl, rfl, rfl⟩ (fun w_ hE_ => Runs.loadAll hE_ 8 rfl Try.underlying40 rfl inf40 rfl rfl) rfl ?_
        refine WE.op (.inr h99) (i := 45) (by rfl) (by kernel_rfl) ?_
        refine WL.gon rfl rfl rfl ?_
        refine WL.call can26 rfl rfl (aliveB_c (z := zL) (b := false) (by decide +kernel) zL_few hZ29 h99) ?_
        rintro _ w100 ⟨rfl, h100⟩
        refine ⟨_, rfl, ?_⟩
        refine WL.nil (WE.next ?_)
        refine WE.p1 (j := 43) (b := true) hx 46 (by rfl) ⟨_, _, rfl, rfl, rfl⟩ (fun w_ => Runs.not rfl) rfl ?_
        refine WE.p0 hx 47 (by rfl) (fun w_ => Runs.pick rfl rfl rfl) rfl ?_
        refine WE.p0 hx 48 (by rfl) (fun w_ => Runs.move rfl) rfl ?_
        refine WE.p1 (j := 48) (b := true) hx 49 (by rfl) ⟨_, _, rfl, rfl, rfl⟩ (fun w_ => Runs.move rfl) rfl ?_
        refine WE.p1 (j := 48) (b := true) hx 50 (by rfl) ⟨_, _, rfl, rfl, rfl⟩ (fun w_ => Runs.boolT (c := true) (Runs.eql rfl rfl) (by decide +kernel)) rfl ?_
        refine WE.p0 hx 51 (by rfl) (fun w_ => Runs.pick rfl rfl rfl) rfl ?_
        refine WE.p0 hx 52 (by rfl) (fun w_ => Runs.move rfl) rfl ?_
        refine WE.p1 (j := 52) (b := true) hx 53 (by rfl) ⟨_, _, rfl, rfl, rfl⟩ (fun w_ => Runs.move rfl) rfl ?_
        refine WE.p1 (j := 52) (b := true) hx 54 (by rfl) ⟨_, _, rfl, rfl, rfl⟩ (fun w_ => Runs.boolT (c := true) (Runs.eql rfl rfl) (by decide +kernel)) rfl ?_
        refine WE.p0 hx 55 (by rfl) (fun w_ => Runs.pick rfl rfl rfl) rfl ?_
        refine WE.p0 hx 56 (by rfl) (fun w_ => Runs.move rfl) rfl ?_
        refine WE.p1 (j := 56) (b := true) hx 57 (by rfl) ⟨_, _, rfl, rfl, rfl⟩ (fun w_ => Runs.move rfl) rfl ?_
        refine WE.p1 (j := 56) (b := true) hx 58 (by rfl) ⟨_, _, rfl, rfl, rfl⟩ (fun w_ => Runs.boolT (c := true) (Runs.eql rfl rfl) (by decide +kernel)) rfl ?_
        refine WE.p0 hx 59 (by rfl) (fun w_ => Runs.pick rfl rfl rfl) rfl ?_
        refine WE.p0 hx 60 (by rfl) (fun w_ => Runs.move rfl) rfl ?_
        refine WE.p1 (j := 60) (b := true) hx 62 (by rfl) ⟨_, _, rfl, rfl, rfl⟩ (fun w_ => Runs.move rfl) rfl ?_
        refine WE.p1 (j := 60) (b := true) hx 63 (by rfl) ⟨_, _, rfl, rfl, rfl⟩ (fun w_ => Runs.lidxK Try.underlying65 inf24 rfl rfl (n := 1) rfl (by decide)) rfl ?_
        refine WE.v1 (j := 60) (b := true) 12 hx 61 (by rfl) ⟨_, _, rfl, rfl, rfl⟩ (fun w_ hE_ => Runs.loadAll hE_ 1 rfl Try.underlying24 rfl inf24 rfl rfl) rfl ?_
        refine WE.v1 (j := 60) (b := true) 12 hx 64 (by rfl) ⟨_, _, rfl, rfl, rfl⟩ (fun w_ hE_ => Runs.loadKF hE_ hcell1 Try.underlying24 rfl inf24 rfl rfl) rfl ?_
        refine WE.op (.inr h100) (i := 65) (by rfl) (by kernel_rfl) ?_
        refine WL.gon rfl rfl rfl ?_
        refine WL.call can15 rfl rfl (recsT _ back1 hrd84 (by rw [back1]; decide +kernel) hps1 h100) ?_
        rintro _ w101 ⟨rfl, h101⟩
        refine ⟨_, rfl, ?_⟩
        refine WL.nil (WE.next ?_)
        refine WE.p0 hx 66 (by rfl) (fun w_ => Runs.pick rfl rfl rfl) rfl ?_
        refine WE.p0 hx 67 (by rfl) (fun w_ => Runs.move rfl) rfl ?_
        refine WE.p1 (j := 67) (b := true) hx 68 (by rfl) ⟨_, _, rfl, rfl, rfl⟩ (fun w_ => Runs.move rfl) rfl ?_
        refine WE.p1 (j := 67) (b := true) hx 69 (by rfl) ⟨_, _, rfl, rfl, rfl⟩ (fun w_ => Runs.boolT (c := true) (Runs.eql rfl rfl) (by decide +kernel)) rfl ?_
        refine WE.p0 hx 70 (by rfl) (fun w_ => Runs.pick rfl rfl rfl) rfl ?_
        refine WE.p0 hx 71 (by rfl) (fun w_ => Runs.assign rfl) rfl ?_
        refine WE.fin (.inr h101) (by kernel_rfl) ?_
        refine WN.thn (WC.ret ?_)
        have h90 := (((((((((h101.drop 0).drop 0).drop 0).drop 0).drop 0).drop 0).drop 0).drop 0).drop 0)
        simp only [List.eraseIdx_cons_zero] at h90
        exact ret1 rfl rfl ⟨_, hleF, rfl, h90⟩
  · skip
    refine WL.alloc' rfl h6 inf40 ?_
    intro b4 w102 h102
    refine WL.nil (WE.next ?_)
    refine WE.op (.inr (h102.drop 0)) (i := 10) (by rfl) (by kernel_rfl) ?_
    refine WL.buildSlice (vs := [.agg #[Vi (lL.getD 0 R0).kd, Vi (lL.getD 0 R0).jb, Vi (lL.getD 0 R0).ep, Vi (lL.getD 0 R0).st, Vi (lL.getD 0 R0).ar, .slice Al0 (lL.getD 0 R0).ls.length cl0], .agg #[Vi (lL.getD 1 R0).kd, Vi (lL.getD 1 R0).jb, Vi (lL.getD 1 R0).ep, Vi (lL.getD 1 R0).st, Vi (lL.getD 1 R0).ar, .slice Al1 (lL.getD 1 R0).ls.length cl1], .agg #[Vi rLA.kd, Vi rLA.jb, Vi rLA.ep, Vi rLA.st, Vi rLA.ar, .slice none rLA.ls.length 0], .agg #[Vi (lL.getD 2 R0).kd, Vi (lL.getD 2 R0).jb, Vi (lL.getD 2 R0).ep, Vi (lL.getD 2 R0).st, Vi (lL.getD 2 R0).ar, .slice Al2 (lL.getD 2 R0).ls.length cl2]]) h102 rfl Try.underlying65 (inf24.elem rfl rfl) rfl rfl rfl (by decide) ?_
    intro lit43 w103 h103
    try simp only [lz, ls, ez, es'] at h103
    obtain ⟨Gl43, hGl43, gf43, hS43⟩ := h103.freeze (i := 0) rfl
    replace h103 := hS43
    simp only [List.eraseIdx_cons_zero] at h103
    replace hleF := Le.trans hleF hGl43
    replace rd21 := rd21.mono hGl43
    replace rd26 := rd26.mono hGl43
    replace hZ29 := hZ29.mono hGl43
    replace hps0 := hps0.mono hGl43
    replace hps1 := hps1.mono hGl43
    replace hps2 := hps2.mono hGl43
    have rd43 : RdS KR Gl43 (some ⟨lit43, 0, none⟩) tL := RdS.blks (d := KR) [[Vi (lL.getD 0 R0).kd, Vi (lL.getD 0 R0).jb, Vi (lL.getD 0 R0).ep, Vi (lL.getD 0 R0).st, Vi (lL.getD 0 R0).ar, .slice Al0 (lL.getD 0 R0).ls.length cl0], [Vi (lL.getD 1 R0).kd, Vi (lL.getD 1 R0).jb, Vi (lL.getD 1 R0).ep, Vi (lL.getD 1 R0).st, Vi (lL.getD 1 R0).ar, .slice Al1 (lL.getD 1 R0).ls.length cl1], [Vi rLA.kd, Vi rLA.jb, Vi rLA.ep, Vi rLA.st, Vi rLA.ar, .slice none rLA.ls.length 0], [Vi (lL.getD 2 R0).kd, Vi (lL.getD 2 R0).jb, Vi (lL.getD 2 R0).ep, Vi (lL.getD 2 R0).st, Vi (lL.getD 2 R0).ar, .slice Al2 (lL.getD 2 R0).ls.length cl2]] (gf43 _ List.mem_cons_self) rfl ⟨⟨Al0, cl0, rfl, hps0⟩, ⟨Al1, cl1, rfl, hps1⟩, ⟨none, 0, rfl, .inl rfl⟩, ⟨Al2, cl2, rfl, hps2⟩,  trivial⟩
    refine WL.nil (WE.next ?_)
    refine WE.op (.inr ((h103.weak hGl43).drop 0)) (i := 11) (by rfl) (by kernel_rfl) ?_
    refine WL.call can29 rfl rfl ((show Calls _ _ #[.slice (some ⟨lit43, 0, none⟩) 4 4] _ _ from fold_c (l := tL) _ (by decide) (by decide +kernel) rd43 h103)) ?_
    rintro _ w104 ⟨G44, AJ44, AS44, cj44, cS44, hG44, rfl, hZ44, h104⟩
    refine ⟨_, rfl, ?_⟩
    replace hleF := Le.trans hleF hG44
    replace rd21 := rd21.mono hG44
    replace rd26 := rd26.mono hG44
    replace hZ29 := hZ29.mono hG44
    replace hps0 := hps0.mono hG44
    replace hps1 := hps1.mono hG44
    replace hps2 := hps2.mono hG44
    replace rd43 := rd43.mono hG44
    refine WL.nil (WE.next ?_)
    refine WE.p0 hx 12 (by rfl) (fun w_ => Runs.move rfl) rfl ?_
    refine WE.p0 hx 13 (by rfl) (fun w_ => Runs.extract rfl rfl) rfl ?_
    refine WE.p0 hx 14 (by rfl) (fun w_ => Runs.extract rfl rfl) rfl ?_
    refine WE.op (.inr ((h104.weak (Le.trans hGl43 hG44)).drop 0)) (i := 16) (by rfl) (by kernel_rfl) ?_
    refine WL.storeAll h104 0 rfl rfl rfl inf40 rfl rfl rfl (Free.zero _) ?_
    intro  w105 h105
    try simp only [lz, ls, ez, es'] at h105
    refine WL.nil (WE.next ?_)
    refine WE.p0 hx 17 (by rfl) (fun w_ => Runs.assign rfl) rfl ?_
    refine WE.fin (.inl ⟨16, rfl, by kernel_rfl⟩) (by kernel_rfl) ?_
    refine WN.thn (WC.seq (WC.reg ?_))
    refine WL.v (Runs.move rfl) rfl ?_
    refine WL.v (Runs.valT (u := .slice (some ⟨lit26, 0, none⟩) 3 5) (Runs.lsl_hi Try.underlying65 inf24 rfl rfl (n := 3) rfl (by decide)) rfl) rfl ?_
    refine WL.call can29 rfl rfl ((show Calls _ _ #[.slice (some ⟨lit26, 0, none⟩) 3 5] _ _ from fold_c (l := (lL.take 3)) _ (by decide) (by decide +kernel) (rd26.take 3) h105)) ?_
    rintro _ w106 ⟨G50, AJ50, AS50, cj50, cS50, hG50, rfl, hZ50, h106⟩
    refine ⟨_, rfl, ?_⟩
    replace hleF := Le.trans hleF hG50
    replace rd21 := rd21.mono hG50
    replace rd26 := rd26.mono hG50
    replace hZ29 := hZ29.mono hG50
    replace hps0 := hps0.mono hG50
    replace hps1 := hps1.mono hG50
    replace hps2 := hps2.mono hG50
    replace rd43 := rd43.mono hG50
    replace hZ44 := hZ44.mono hG50
    refine WL.v (Runs.move rfl) rfl ?_
    refine WL.v (Runs.extract rfl rfl) rfl ?_
    refine WL.v (Runs.extract rfl rfl) rfl ?_
    refine WL.alloc' rfl h106 inf40 ?_
    intro b6 w107 h107
    refine WL.storeAll h107 0 rfl rfl rfl inf40 rfl rfl rfl (Free.zero _) ?_
    intro  w108 h108
    try simp only [lz, ls, ez, es'] at h108
    refine WL.v (Runs.assign rfl) rfl ?_
    refine WL.nil (WN.thn (WC.seq (WC.reg ?_)))
    refine WL.v (Runs.loadAll h108 2 rfl Try.underlying40 rfl inf40 rfl rfl) rfl ?_
    refine WL.call can20 rfl rfl (find_c (z := zL) _ 1 0 h108 (RdK.of hZ29.j) (by decide +kernel)) ?_
    rintro _ w109 ⟨rfl, h109⟩
    refine ⟨_, rfl, ?_⟩
    refine WL.v (Runs.move rfl) rfl ?_
    refine WL.v (Runs.extract rfl rfl) rfl ?_
    refine WL.v (Runs.extract rfl rfl) rfl ?_
    refine WL.alloc' rfl h109 inf47 ?_
    intro b8 w110 h110
    refine WL.storeAll h110 0 rfl rfl rfl inf47 rfl rfl rfl (Free.zero _) ?_
    intro  w111 h111
    try simp only [lz, ls, ez, es'] at h111
    refine WL.v (Runs.assign rfl) rfl ?_
    refine WL.nil (WN.thn (WC.seq (WC.reg ?_)))
    refine WL.v (Runs.loadAll h111 3 rfl Try.underlying40 rfl inf40 rfl rfl) rfl ?_
    refine WL.call can22 rfl rfl (stepOf_c (z := zL) _ 1 0 2 h111 (RdK.of hZ29.s) (by decide +kernel)) ?_
    rintro _ w112 ⟨⟨A60, c60, rfl, hrd60⟩, h112⟩
    refine ⟨_, rfl, ?_⟩
    refine WL.v (Runs.move rfl) rfl ?_
    refine WL.v (Runs.extract rfl rfl) rfl ?_
    refine WL.v (Runs.extract rfl rfl) rfl ?_
    refine WL.alloc' rfl h112 inf54 ?_
    intro b10 w113 h113
    refine WL.storeAll h113 0 rfl rfl rfl inf54 rfl rfl rfl (Free.zero _) ?_
    intro  w114 h114
    try simp only [lz, ls, ez, es'] at h114
    refine WL.v (Runs.assign rfl) rfl ?_
    refine WL.nil (WN.thn (WC.seq ?_))
    obtain ⟨ad4, ce4, hea4, ⟨Al4, cl4, rfl, hps4⟩, hcell4⟩ := rd26.atD R0 (i := 4) (by decide)
    obtain rfl := Option.some.inj hea4
    refine WC.eregK h114 h114 (fun s_ => ([9] : List Nat).any (Nat.beq s_)) mixed (by kernel_rfl) (fun hx => ?_)
    intro w115 h115
    refine WE.p0 hx 1 (by rfl) (fun w_ => Runs.move rfl) rfl ?_
    refine WE.p0 hx 2 (by rfl) (fun w_ => Runs.lidxK Try.underlying65 inf24 rfl rfl (n := 4) rfl (by decide)) rfl ?_
    refine WE.v0 12 hx 0 (by rfl) (fun w_ hE_ => Runs.loadAll hE_ 4 rfl Try.underlying40 rfl inf40 rfl rfl) rfl ?_
    refine WE.v0 12 hx 3 (by rfl) (fun w_ hE_ => Runs.loadKF hE_ hcell4 Try.underlying24 rfl inf24 rfl rfl) rfl ?_
    refine WE.op2 (.inr h115) (i := 4) (j := 8) (by rfl) (by rfl) (by kernel_rfl) ?_ ?_
    · skip
      refine WL.call can18 rfl rfl (apply_c (r := (lL.getD 4 R0))  _ hps4 (by decide +kernel) zL_few hZ29 h115) ?_
      rintro _ w116 ⟨G68, AJ68, AS68, cj68, cS68, hG68, rfl, hZ68, h116⟩
      refine ⟨_, rfl, ?_⟩
      replace hleF := Le.trans hleF hG68
      replace rd21 := rd21.mono hG68
      replace rd26 := rd26.mono hG68
      replace hZ29 := hZ29.mono hG68
      replace hps0 := hps0.mono hG68
      replace hps1 := hps1.mono hG68
      replace hps2 := hps2.mono hG68
      replace rd43 := rd43.mono hG68
      replace hZ44 := hZ44.mono hG68
      replace hZ50 := hZ50.mono hG68
      refine WL.nil (WE.next ?_)
      refine WE.p0 hx 5 (by rfl) (fun w_ => Runs.move rfl) rfl ?_
      refine WE.p0 hx 6 (by rfl) (fun w_ => Runs.extract rfl rfl) rfl ?_
      refine WE.p0 hx 7 (by rfl) (fun w_ => Runs.extract rfl rfl) rfl ?_
      refine WE.op (.inr (h116.weak hG68)) (i := 8) (by rfl) (by kernel_rfl) ?_
      refine WL.alloc' rfl h116 inf40 ?_
      intro b12 w117 h117
      refine WL.nil (WE.next ?_)
      refine WE.op (.inr ((h117.weak hG68).drop 0)) (i := 9) (by rfl) (by kernel_rfl) ?_
      refine WL.storeAll h117 0 rfl rfl rfl inf40 rfl rfl rfl (Free.zero _) ?_
      intro  w118 h118
      try simp only [lz, ls, ez, es'] at h118
      refine WL.nil (WE.next ?_)
      refine WE.p0 hx 10 (by rfl) (fun w_ => Runs.assign rfl) rfl ?_
      refine WE.fin (.inl ⟨9, rfl, by kernel_rfl⟩) (by kernel_rfl) ?_
      refine WN.thn (WC.seq ?_)
      obtain ⟨ad0, ce0, hea0, ⟨Al0, cl0, rfl, hps0⟩, hcell0⟩ := rd26.atD R0 (i := 0) (by decide)
      obtain rfl := Option.some.inj hea0
      refine WC.reg ?_
      refine WL.v (Runs.build (vs := [(2, .bool true)]) (cells := #[.slice none 0 0, .slice none 0 0, .bool true]) rfl (by kernel_rfl)) rfl ?_
      refine WL.v (Runs.move rfl) rfl ?_
      refine WL.v (Runs.lidxK Try.underlying65 inf24 rfl rfl (n := 0) rfl (by decide)) rfl ?_
      refine WL.v (Runs.loadKF h118 hcell0 Try.underlying24 rfl inf24 rfl rfl) rfl ?_
      refine WL.call can18 rfl rfl ((show Calls _ _ #[.agg #[.slice none 0 0, .slice none 0 0, .bool true], _] _ _ from apply_c (r := (lL.getD 0 R0)) (AJ := none) (AS := none) (cj := 0) (cS := 0) (z := dz) _ hps0 (by decide +kernel) dz_few dz_R h118)) ?_
      rintro _ w119 ⟨G76, AJ76, AS76, cj76, cS76, hG76, rfl, hZ76, h119⟩
      refine ⟨_, rfl, ?_⟩
      replace hleF := Le.trans hleF hG76
      replace rd21 := rd21.mono hG76
      replace rd26 := rd26.mono hG76
      replace hZ29 := hZ29.mono hG76
      replace hps0 := hps0.mono hG76
      replace hps1 := hps1.mono hG76
      replace hps2 := hps2.mono hG76
      replace rd43 := rd43.mono hG76
      replace hZ44 := hZ44.mono hG76
      replace hZ50 := hZ50.mono hG76
      replace hZ68 := hZ68.mono hG76
      refine WL.v (Runs.move rfl) rfl ?_
      refine WL.v (Runs.extract rfl rfl) rfl ?_
      refine WL.v (Runs.extract rfl rfl) rfl ?_
      refine WL.alloc' rfl h119 inf40 ?_
      intro b14 w120 h120
      refine WL.storeAll h120 0 rfl rfl rfl inf40 rfl rfl rfl (Free.zero _) ?_
      intro  w121 h121
      try simp only [lz, ls, ez, es'] at h121
      refine WL.v (Runs.assign rfl) rfl ?_
      refine WL.nil (WN.thn (WC.seq ?_))
      obtain ⟨ad1, ce1, hea1, ⟨Al1, cl1, rfl, hps1⟩, hcell1⟩ := rd26.atD R0 (i := 1) (by decide)
      obtain rfl := Option.some.inj hea1
      refine WC.reg ?_
      refine WL.v (Runs.move rfl) rfl ?_
      refine WL.v (Runs.lidxK Try.underlying65 inf24 rfl rfl (n := 1) rfl (by decide)) rfl ?_
      refine WL.v (Runs.loadKF h121 hcell1 Try.underlying24 rfl inf24 rfl rfl) rfl ?_
      refine WL.call can13 rfl rfl (encode_c (r := (lL.getD 1 R0)) _ h121 hps1 (by decide +kernel)) ?_
      rintro _ w122 ⟨rfl, h122⟩
      refine ⟨_, rfl, ?_⟩
      refine WL.call can11 rfl rfl (decode_c _ (encR (lL.getD 1 R0)) h122 (by have := encR_len (r := (lL.getD 1 R0)); omega)) ?_
      rintro _ w123 ⟨G84, A84, c84, hG84, rfl, hrd84, h123⟩
      refine ⟨_, rfl, ?_⟩
      replace hleF := Le.trans hleF hG84
      replace rd21 := rd21.mono hG84
      replace rd26 := rd26.mono hG84
      replace hZ29 := hZ29.mono hG84
      replace hps0 := hps0.mono hG84
      replace hps1 := hps1.mono hG84
      replace hps2 := hps2.mono hG84
      replace rd43 := rd43.mono hG84
      replace hZ44 := hZ44.mono hG84
      replace hZ50 := hZ50.mono hG84
      replace hZ68 := hZ68.mono hG84
      replace hZ76 := hZ76.mono hG84
      refine WL.v (Runs.move rfl) rfl ?_
      refine WL.v (Runs.extract rfl rfl) rfl ?_
      refine WL.v (Runs.extract rfl rfl) rfl ?_
      refine WL.alloc' rfl h123 inf24 ?_
      intro b16 w124 h124
      refine WL.storeAll h124 0 rfl rfl rfl inf24 rfl rfl rfl (Free.zero _) ?_
      intro  w125 h125
      try simp only [lz, ls, ez, es'] at h125
      refine WL.v (Runs.assign rfl) rfl ?_
      refine WL.nil (WN.thn (WC.seq (WC.reg ?_)))
      refine WL.call can11 rfl rfl ((show Calls _ _ #[.string ⟨#[1, 8, 0, 0, 0, 0, 0]⟩] _ _ from decode_c _ [1, 8, 0, 0, 0, 0, 0] h125 (by simp))) ?_
      rintro _ w126 ⟨G88, A88, c88, hG88, rfl, hrd88, h126⟩
      refine ⟨_, rfl, ?_⟩
      replace hleF := Le.trans hleF hG88
      replace rd21 := rd21.mono hG88
      replace rd26 := rd26.mono hG88
      replace hZ29 := hZ29.mono hG88
      replace hps0 := hps0.mono hG88
      replace hps1 := hps1.mono hG88
      replace hps2 := hps2.mono hG88
      replace rd43 := rd43.mono hG88
      replace hZ44 := hZ44.mono hG88
      replace hZ50 := hZ50.mono hG88
      replace hZ68 := hZ68.mono hG88
      replace hZ76 := hZ76.mono hG88
      replace hrd84 := hrd84.mono hG88
      refine WL.v (Runs.move rfl) rfl ?_
      refine WL.v (Runs.extract rfl rfl) rfl ?_
      refine WL.v (Runs.extract rfl rfl) rfl ?_
      refine WL.alloc' rfl h126 inf24 ?_
      intro b18 w127 h127
      refine WL.storeAll h127 0 rfl rfl rfl inf24 rfl rfl rfl (Free.zero _) ?_
      intro  w128 h128
      try simp only [lz, ls, ez, es'] at h128
      refine WL.v (Runs.assign rfl) rfl ?_
      refine WL.nil (WN.thn (WC.seq ?_))
      obtain ⟨ad1, ce1, hea1, ⟨Al1, cl1, rfl, hps1⟩, hcell1⟩ := rd26.atD R0 (i := 1) (by decide)
      obtain rfl := Option.some.inj hea1
      refine WC.eregK h128 h128 (fun s_ => ([] : List Nat).any (Nat.beq s_)) mixed (by kernel_rfl) (fun hx => ?_)
      intro w129 h129
      refine WE.p0 hx 0 (by rfl) (fun w_ => Runs.move rfl) rfl ?_
      refine WE.p0 hx 1 (by rfl) (fun w_ => Runs.boolT (c := true) (Runs.eql rfl rfl) (by decide +kernel)) rfl ?_
      refine WE.p0 hx 2 (by rfl) (fun w_ => Runs.move rfl) rfl ?_
      refine WE.p1 (j := 2) (b := true) hx 4 (by rfl) ⟨_, _, rfl, rfl, rfl⟩ (fun w_ => Runs.build (vs := [(0, Vi 1), (2, Vi 2)]) (cells := #[Vi 1, Vi 0, Vi 2]) rfl (by kernel_rfl)) rfl ?_
      refine WE.v1 (j := 2) (b := true) 12 hx 3 (by rfl) ⟨_, _, rfl, rfl, rfl⟩ (fun w_ hE_ => Runs.loadAll hE_ 5 rfl Try.underlying47 rfl inf47 rfl rfl) rfl ?_
      refine WE.p1 (j := 2) (b := true) hx 5 (by rfl) ⟨_, _, rfl, rfl, rfl⟩ (fun w_ => Runs.boolT (c := true) (Runs.aeql (by kernel_rfl) rfl rfl (eqJob _ (.inl rfl) _ (findM zL 1 0).1 ⟨1, 0, 2⟩)) (by decide +kernel)) rfl ?_
      refine WE.p0 hx 6 (by rfl) (fun w_ => Runs.pick rfl rfl rfl) rfl ?_
      refine WE.p0 hx 7 (by rfl) (fun w_ => Runs.move rfl) rfl ?_
      refine WE.p1 (j := 7) (b := true) hx 8 (by rfl) ⟨_, _, rfl, rfl, rfl⟩ (fun w_ => Runs.move rfl) rfl ?_
      refine WE.p0 hx 9 (by rfl) (fun w_ => Runs.pick rfl rfl rfl) rfl ?_
      refine WE.p0 hx 10 (by rfl) (fun w_ => Runs.move rfl) rfl ?_
      refine WE.p1 (j := 10) (b := true) hx 11 (by rfl) ⟨_, _, rfl, rfl, rfl⟩ (fun w_ => Runs.move rfl) rfl ?_
      refine WE.p0 hx 12 (by rfl) (fun w_ => Runs.pick rfl rfl rfl) rfl ?_
      refine WE.p0 hx 13 (by rfl) (fun w_ => Runs.move rfl) rfl ?_
      refine WE.p1 (j := 13) (b := true) hx 14 (by rfl) ⟨_, _, rfl, rfl, rfl⟩ (fun w_ => Runs.fld fld54_3 rfl) rfl ?_
      refine WE.v1 (j := 13) (b := true) 12 hx 15 (by rfl) ⟨_, _, rfl, rfl, rfl⟩ (fun w_ hE_ => Runs.load1 Try.underlying3 rfl rfl (hE_.ocell (i := 4) rfl rfl)) rfl ?_
      refine WE.p1 (j := 13) (b := true) hx 16 (by rfl) ⟨_, _, rfl, rfl, rfl⟩ (fun w_ => Runs.boolT (c := true) (Runs.eql rfl rfl) (by decide +kernel)) rfl ?_
      refine WE.p0 hx 17 (by rfl) (fun w_ => Runs.pick rfl rfl rfl) rfl ?_
      refine WE.p0 hx 18 (by rfl) (fun w_ => Runs.move rfl) rfl ?_
      refine WE.p1 (j := 18) (b := true) hx 19 (by rfl) ⟨_, _, rfl, rfl, rfl⟩ (fun w_ => Runs.fld fld54_4 rfl) rfl ?_
      refine WE.v1 (j := 18) (b := true) 12 hx 20 (by rfl) ⟨_, _, rfl, rfl, rfl⟩ (fun w_ hE_ => Runs.load1 Try.underlying3 rfl rfl (hE_.ocell (i := 4) rfl rfl)) rfl ?_
      refine WE.p1 (j := 18) (b := true) hx 21 (by rfl) ⟨_, _, rfl, rfl, rfl⟩ (fun w_ => Runs.boolT (c := true) (Runs.eql rfl rfl) (by decide +kernel)) rfl ?_
      refine WE.p0 hx 22 (by rfl) (fun w_ => Runs.pick rfl rfl rfl) rfl ?_
      refine WE.p0 hx 23 (by rfl) (fun w_ => Runs.move rfl) rfl ?_
      refine WE.p1 (j := 23) (b := true) hx 24 (by rfl) ⟨_, _, rfl, rfl, rfl⟩ (fun w_ => Runs.fld fld54_5 rfl) rfl ?_
      refine WE.v1 (j := 23) (b := true) 12 hx 25 (by rfl) ⟨_, _, rfl, rfl, rfl⟩ (fun w_ hE_ => Runs.load1 Try.underlying22 rfl rfl (hE_.ocell (i := 4) rfl rfl)) rfl ?_
      refine WE.p1 (j := 23) (b := true) hx 26 (by rfl) ⟨_, _, rfl, rfl, rfl⟩ (fun w_ => Runs.llen Try.underlying22 rfl rfl) rfl ?_
      refine WE.p1 (j := 23) (b := true) hx 27 (by rfl) ⟨_, _, rfl, rfl, rfl⟩ (fun w_ => Runs.boolT (c := true) (Runs.eql rfl rfl) (by decide +kernel)) rfl ?_
      refine WE.p0 hx 28 (by rfl) (fun w_ => Runs.pick rfl rfl rfl) rfl ?_
      refine WE.p0 hx 29 (by rfl) (fun w_ => Runs.move rfl) rfl ?_
      refine WE.p1 (j := 29) (b := true) hx 30 (by rfl) ⟨_, _, rfl, rfl, rfl⟩ (fun w_ => Runs.move rfl) rfl ?_
      refine WE.p1 (j := 29) (b := true) hx 31 (by rfl) ⟨_, _, rfl, rfl, rfl⟩ (fun w_ => Runs.boolT (c := true) (Runs.eql rfl rfl) (by decide +kernel)) rfl ?_
      refine WE.p0 hx 32 (by rfl) (fun w_ => Runs.pick rfl rfl rfl) rfl ?_
      refine WE.p0 hx 33 (by rfl) (fun w_ => Runs.move rfl) rfl ?_
      refine WE.p1 (j := 33) (b := true) hx 34 (by rfl) ⟨_, _, rfl, rfl, rfl⟩ (fun w_ => Runs.fld fld40_1 rfl) rfl ?_
      refine WE.v1 (j := 33) (b := true) 12 hx 35 (by rfl) ⟨_, _, rfl, rfl, rfl⟩ (fun w_ hE_ => Runs.load1 Try.underlying38 rfl rfl (hE_.ocell (i := 7) rfl rfl)) rfl ?_
      refine WE.p1 (j := 33) (b := true) hx 36 (by rfl) ⟨_, _, rfl, rfl, rfl⟩ (fun w_ => Runs.llen Try.underlying38 rfl rfl) rfl ?_
      refine WE.p1 (j := 33) (b := true) hx 37 (by rfl) ⟨_, _, rfl, rfl, rfl⟩ (fun w_ => Runs.boolT (c := true) (Runs.eql rfl rfl) (by decide +kernel)) rfl ?_
      refine WE.p0 hx 38 (by rfl) (fun w_ => Runs.pick rfl rfl rfl) rfl ?_
      refine WE.p0 hx 39 (by rfl) (fun w_ => Runs.move rfl) rfl ?_
      refine WE.v1 (j := 39) (b := true) 12 hx 40 (by rfl) ⟨_, _, rfl, rfl, rfl⟩ (fun w_ hE_ => Runs.loadAll hE_ 6 rfl Try.underlying40 rfl inf40 rfl rfl) rfl ?_
      refine WE.op (.inr h129) (i := 41) (by rfl) (by kernel_rfl) ?_
      refine WL.gon rfl rfl rfl ?_
      refine WL.call can26 rfl rfl (aliveB_c (z := az) (b := true) (by decide +kernel) az_few hZ50 h129) ?_
      rintro _ w130 ⟨rfl, h130⟩
      refine ⟨_, rfl, ?_⟩
      refine WL.nil (WE.next ?_)
      refine WE.p0 hx 42 (by rfl) (fun w_ => Runs.pick rfl rfl rfl) rfl ?_
      refine WE.p0 hx 43 (by rfl) (fun w_ => Runs.move rfl) rfl ?_
      refine WE.v1 (j := 43) (b := true) 12 hx 44 (by rfl) ⟨_, _, rfl, rfl, rfl⟩ (fun w_ hE_ => Runs.loadAll hE_ 8 rfl Try.underlying40 rfl inf40 rfl rfl) rfl ?_
      refine WE.op (.inr h130) (i := 45) (by rfl) (by kernel_rfl) ?_
      refine WL.gon rfl rfl rfl ?_
      refine WL.call can26 rfl rfl (aliveB_c (z := zL) (b := false) (by decide +kernel) zL_few hZ29 h130) ?_
      rintro _ w131 ⟨rfl, h131⟩
      refine ⟨_, rfl, ?_⟩
      refine WL.nil (WE.next ?_)
      refine WE.p1 (j := 43) (b := true) hx 46 (by rfl) ⟨_, _, rfl, rfl, rfl⟩ (fun w_ => Runs.not rfl) rfl ?_
      refine WE.p0 hx 47 (by rfl) (fun w_ => Runs.pick rfl rfl rfl) rfl ?_
      refine WE.p0 hx 48 (by rfl) (fun w_ => Runs.move rfl) rfl ?_
      refine WE.p1 (j := 48) (b := true) hx 49 (by rfl) ⟨_, _, rfl, rfl, rfl⟩ (fun w_ => Runs.move rfl) rfl ?_
      refine WE.p1 (j := 48) (b := true) hx 50 (by rfl) ⟨_, _, rfl, rfl, rfl⟩ (fun w_ => Runs.boolT (c := true) (Runs.eql rfl rfl) (by decide +kernel)) rfl ?_
      refine WE.p0 hx 51 (by rfl) (fun w_ => Runs.pick rfl rfl rfl) rfl ?_
      refine WE.p0 hx 52 (by rfl) (fun w_ => Runs.move rfl) rfl ?_
      refine WE.p1 (j := 52) (b := true) hx 53 (by rfl) ⟨_, _, rfl, rfl, rfl⟩ (fun w_ => Runs.move rfl) rfl ?_
      refine WE.p1 (j := 52) (b := true) hx 54 (by rfl) ⟨_, _, rfl, rfl, rfl⟩ (fun w_ => Runs.boolT (c := true) (Runs.eql rfl rfl) (by decide +kernel)) rfl ?_
      refine WE.p0 hx 55 (by rfl) (fun w_ => Runs.pick rfl rfl rfl) rfl ?_
      refine WE.p0 hx 56 (by rfl) (fun w_ => Runs.move rfl) rfl ?_
      refine WE.p1 (j := 56) (b := true) hx 57 (by rfl) ⟨_, _, rfl, rfl, rfl⟩ (fun w_ => Runs.move rfl) rfl ?_
      refine WE.p1 (j := 56) (b := true) hx 58 (by rfl) ⟨_, _, rfl, rfl, rfl⟩ (fun w_ => Runs.boolT (c := true) (Runs.eql rfl rfl) (by decide +kernel)) rfl ?_
      refine WE.p0 hx 59 (by rfl) (fun w_ => Runs.pick rfl rfl rfl) rfl ?_
      refine WE.p0 hx 60 (by rfl) (fun w_ => Runs.move rfl) rfl ?_
      refine WE.p1 (j := 60) (b := true) hx 62 (by rfl) ⟨_, _, rfl, rfl, rfl⟩ (fun w_ => Runs.move rfl) rfl ?_
      refine WE.p1 (j := 60) (b := true) hx 63 (by rfl) ⟨_, _, rfl, rfl, rfl⟩ (fun w_ => Runs.lidxK Try.underlying65 inf24 rfl rfl (n := 1) rfl (by decide)) rfl ?_
      refine WE.v1 (j := 60) (b := true) 12 hx 61 (by rfl) ⟨_, _, rfl, rfl, rfl⟩ (fun w_ hE_ => Runs.loadAll hE_ 1 rfl Try.underlying24 rfl inf24 rfl rfl) rfl ?_
      refine WE.v1 (j := 60) (b := true) 12 hx 64 (by rfl) ⟨_, _, rfl, rfl, rfl⟩ (fun w_ hE_ => Runs.loadKF hE_ hcell1 Try.underlying24 rfl inf24 rfl rfl) rfl ?_
      refine WE.op (.inr h131) (i := 65) (by rfl) (by kernel_rfl) ?_
      refine WL.gon rfl rfl rfl ?_
      refine WL.call can15 rfl rfl (recsT _ back1 hrd84 (by rw [back1]; decide +kernel) hps1 h131) ?_
      rintro _ w132 ⟨rfl, h132⟩
      refine ⟨_, rfl, ?_⟩
      refine WL.nil (WE.next ?_)
      refine WE.p0 hx 66 (by rfl) (fun w_ => Runs.pick rfl rfl rfl) rfl ?_
      refine WE.p0 hx 67 (by rfl) (fun w_ => Runs.move rfl) rfl ?_
      refine WE.p1 (j := 67) (b := true) hx 68 (by rfl) ⟨_, _, rfl, rfl, rfl⟩ (fun w_ => Runs.move rfl) rfl ?_
      refine WE.p1 (j := 67) (b := true) hx 69 (by rfl) ⟨_, _, rfl, rfl, rfl⟩ (fun w_ => Runs.boolT (c := true) (Runs.eql rfl rfl) (by decide +kernel)) rfl ?_
      refine WE.p0 hx 70 (by rfl) (fun w_ => Runs.pick rfl rfl rfl) rfl ?_
      refine WE.p0 hx 71 (by rfl) (fun w_ => Runs.assign rfl) rfl ?_
      refine WE.fin (.inr h132) (by kernel_rfl) ?_
      refine WN.thn (WC.ret ?_)
      have h90 := (((((((((h132.drop 0).drop 0).drop 0).drop 0).drop 0).drop 0).drop 0).drop 0).drop 0)
      simp only [List.eraseIdx_cons_zero] at h90
      exact ret1 rfl rfl ⟨_, hleF, rfl, h90⟩
    · skip
      refine WL.alloc' rfl h115 inf40 ?_
      intro b12 w133 h133
      refine WL.nil (WE.next ?_)
      refine WE.op (.inr (h133.drop 0)) (i := 4) (by rfl) (by kernel_rfl) ?_
      refine WL.call can18 rfl rfl (apply_c (r := (lL.getD 4 R0))  _ hps4 (by decide +kernel) zL_few hZ29 h133) ?_
      rintro _ w134 ⟨G68, AJ68, AS68, cj68, cS68, hG68, rfl, hZ68, h134⟩
      refine ⟨_, rfl, ?_⟩
      replace hleF := Le.trans hleF hG68
      replace rd21 := rd21.mono hG68
      replace rd26 := rd26.mono hG68
      replace hZ29 := hZ29.mono hG68
      replace hps0 := hps0.mono hG68
      replace hps1 := hps1.mono hG68
      replace hps2 := hps2.mono hG68
      replace rd43 := rd43.mono hG68
      replace hZ44 := hZ44.mono hG68
      replace hZ50 := hZ50.mono hG68
      refine WL.nil (WE.next ?_)
      refine WE.p0 hx 5 (by rfl) (fun w_ => Runs.move rfl) rfl ?_
      refine WE.p0 hx 6 (by rfl) (fun w_ => Runs.extract rfl rfl) rfl ?_
      refine WE.p0 hx 7 (by rfl) (fun w_ => Runs.extract rfl rfl) rfl ?_
      refine WE.op (.inr ((h134.weak hG68).drop 0)) (i := 9) (by rfl) (by kernel_rfl) ?_
      refine WL.storeAll h134 0 rfl rfl rfl inf40 rfl rfl rfl (Free.zero _) ?_
      intro  w135 h135
      try simp only [lz, ls, ez, es'] at h135
      refine WL.nil (WE.next ?_)
      refine WE.p0 hx 10 (by rfl) (fun w_ => Runs.assign rfl) rfl ?_
      refine WE.fin (.inl ⟨9, rfl, by kernel_rfl⟩) (by kernel_rfl) ?_
      refine WN.thn (WC.seq ?_)
      obtain ⟨ad0, ce0, hea0, ⟨Al0, cl0, rfl, hps0⟩, hcell0⟩ := rd26.atD R0 (i := 0) (by decide)
      obtain rfl := Option.some.inj hea0
      refine WC.reg ?_
      refine WL.v (Runs.build (vs := [(2, .bool true)]) (cells := #[.slice none 0 0, .slice none 0 0, .bool true]) rfl (by kernel_rfl)) rfl ?_
      refine WL.v (Runs.move rfl) rfl ?_
      refine WL.v (Runs.lidxK Try.underlying65 inf24 rfl rfl (n := 0) rfl (by decide)) rfl ?_
      refine WL.v (Runs.loadKF h135 hcell0 Try.underlying24 rfl inf24 rfl rfl) rfl ?_
      refine WL.call can18 rfl rfl ((show Calls _ _ #[.agg #[.slice none 0 0, .slice none 0 0, .bool true], _] _ _ from apply_c (r := (lL.getD 0 R0)) (AJ := none) (AS := none) (cj := 0) (cS := 0) (z := dz) _ hps0 (by decide +kernel) dz_few dz_R h135)) ?_
      rintro _ w136 ⟨G76, AJ76, AS76, cj76, cS76, hG76, rfl, hZ76, h136⟩
      refine ⟨_, rfl, ?_⟩
      replace hleF := Le.trans hleF hG76
      replace rd21 := rd21.mono hG76
      replace rd26 := rd26.mono hG76
      replace hZ29 := hZ29.mono hG76
      replace hps0 := hps0.mono hG76
      replace hps1 := hps1.mono hG76
      replace hps2 := hps2.mono hG76
      replace rd43 := rd43.mono hG76
      replace hZ44 := hZ44.mono hG76
      replace hZ50 := hZ50.mono hG76
      replace hZ68 := hZ68.mono hG76
      refine WL.v (Runs.move rfl) rfl ?_
      refine WL.v (Runs.extract rfl rfl) rfl ?_
      refine WL.v (Runs.extract rfl rfl) rfl ?_
      refine WL.alloc' rfl h136 inf40 ?_
      intro b14 w137 h137
      refine WL.storeAll h137 0 rfl rfl rfl inf40 rfl rfl rfl (Free.zero _) ?_
      intro  w138 h138
      try simp only [lz, ls, ez, es'] at h138
      refine WL.v (Runs.assign rfl) rfl ?_
      refine WL.nil (WN.thn (WC.seq ?_))
      obtain ⟨ad1, ce1, hea1, ⟨Al1, cl1, rfl, hps1⟩, hcell1⟩ := rd26.atD R0 (i := 1) (by decide)
      obtain rfl := Option.some.inj hea1
      refine WC.reg ?_
      refine WL.v (Runs.move rfl) rfl ?_
      refine WL.v (Runs.lidxK Try.underlying65 inf24 rfl rfl (n := 1) rfl (by decide)) rfl ?_
      refine WL.v (Runs.loadKF h138 hcell1 Try.underlying24 rfl inf24 rfl rfl) rfl ?_
      refine WL.call can13 rfl rfl (encode_c (r := (lL.getD 1 R0)) _ h138 hps1 (by decide +kernel)) ?_
      rintro _ w139 ⟨rfl, h139⟩
      refine ⟨_, rfl, ?_⟩
      refine WL.call can11 rfl rfl (decode_c _ (encR (lL.getD 1 R0)) h139 (by have := encR_len (r := (lL.getD 1 R0)); omega)) ?_
      rintro _ w140 ⟨G84, A84, c84, hG84, rfl, hrd84, h140⟩
      refine ⟨_, rfl, ?_⟩
      replace hleF := Le.trans hleF hG84
      replace rd21 := rd21.mono hG84
      replace rd26 := rd26.mono hG84
      replace hZ29 := hZ29.mono hG84
      replace hps0 := hps0.mono hG84
      replace hps1 := hps1.mono hG84
      replace hps2 := hps2.mono hG84
      replace rd43 := rd43.mono hG84
      replace hZ44 := hZ44.mono hG84
      replace hZ50 := hZ50.mono hG84
      replace hZ68 := hZ68.mono hG84
      replace hZ76 := hZ76.mono hG84
      refine WL.v (Runs.move rfl) rfl ?_
      refine WL.v (Runs.extract rfl rfl) rfl ?_
      refine WL.v (Runs.extract rfl rfl) rfl ?_
      refine WL.alloc' rfl h140 inf24 ?_
      intro b16 w141 h141
      refine WL.storeAll h141 0 rfl rfl rfl inf24 rfl rfl rfl (Free.zero _) ?_
      intro  w142 h142
      try simp only [lz, ls, ez, es'] at h142
      refine WL.v (Runs.assign rfl) rfl ?_
      refine WL.nil (WN.thn (WC.seq (WC.reg ?_)))
      refine WL.call can11 rfl rfl ((show Calls _ _ #[.string ⟨#[1, 8, 0, 0, 0, 0, 0]⟩] _ _ from decode_c _ [1, 8, 0, 0, 0, 0, 0] h142 (by simp))) ?_
      rintro _ w143 ⟨G88, A88, c88, hG88, rfl, hrd88, h143⟩
      refine ⟨_, rfl, ?_⟩
      replace hleF := Le.trans hleF hG88
      replace rd21 := rd21.mono hG88
      replace rd26 := rd26.mono hG88
      replace hZ29 := hZ29.mono hG88
      replace hps0 := hps0.mono hG88
      replace hps1 := hps1.mono hG88
      replace hps2 := hps2.mono hG88
      replace rd43 := rd43.mono hG88
      replace hZ44 := hZ44.mono hG88
      replace hZ50 := hZ50.mono hG88
      replace hZ68 := hZ68.mono hG88
      replace hZ76 := hZ76.mono hG88
      replace hrd84 := hrd84.mono hG88
      refine WL.v (Runs.move rfl) rfl ?_
      refine WL.v (Runs.extract rfl rfl) rfl ?_
      refine WL.v (Runs.extract rfl rfl) rfl ?_
      refine WL.alloc' rfl h143 inf24 ?_
      intro b18 w144 h144
      refine WL.storeAll h144 0 rfl rfl rfl inf24 rfl rfl rfl (Free.zero _) ?_
      intro  w145 h145
      try simp only [lz, ls, ez, es'] at h145
      refine WL.v (Runs.assign rfl) rfl ?_
      refine WL.nil (WN.thn (WC.seq ?_))
      obtain ⟨ad1, ce1, hea1, ⟨Al1, cl1, rfl, hps1⟩, hcell1⟩ := rd26.atD R0 (i := 1) (by decide)
      obtain rfl := Option.some.inj hea1
      refine WC.eregK h145 h145 (fun s_ => ([] : List Nat).any (Nat.beq s_)) mixed (by kernel_rfl) (fun hx => ?_)
      intro w146 h146
      refine WE.p0 hx 0 (by rfl) (fun w_ => Runs.move rfl) rfl ?_
      refine WE.p0 hx 1 (by rfl) (fun w_ => Runs.boolT (c := true) (Runs.eql rfl rfl) (by decide +kernel)) rfl ?_
      refine WE.p0 hx 2 (by rfl) (fun w_ => Runs.move rfl) rfl ?_
      refine WE.p1 (j := 2) (b := true) hx 4 (by rfl) ⟨_, _, rfl, rfl, rfl⟩ (fun w_ => Runs.build (vs := [(0, Vi 1), (2, Vi 2)]) (cells := #[Vi 1, Vi 0, Vi 2]) rfl (by kernel_rfl)) rfl ?_
      refine WE.v1 (j := 2) (b := true) 12 hx 3 (by rfl) ⟨_, _, rfl, rfl, rfl⟩ (fun w_ hE_ => Runs.loadAll hE_ 5 rfl Try.underlying47 rfl inf47 rfl rfl) rfl ?_
      refine WE.p1 (j := 2) (b := true) hx 5 (by rfl) ⟨_, _, rfl, rfl, rfl⟩ (fun w_ => Runs.boolT (c := true) (Runs.aeql (by kernel_rfl) rfl rfl (eqJob _ (.inl rfl) _ (findM zL 1 0).1 ⟨1, 0, 2⟩)) (by decide +kernel)) rfl ?_
      refine WE.p0 hx 6 (by rfl) (fun w_ => Runs.pick rfl rfl rfl) rfl ?_
      refine WE.p0 hx 7 (by rfl) (fun w_ => Runs.move rfl) rfl ?_
      refine WE.p1 (j := 7) (b := true) hx 8 (by rfl) ⟨_, _, rfl, rfl, rfl⟩ (fun w_ => Runs.move rfl) rfl ?_
      refine WE.p0 hx 9 (by rfl) (fun w_ => Runs.pick rfl rfl rfl) rfl ?_
      refine WE.p0 hx 10 (by rfl) (fun w_ => Runs.move rfl) rfl ?_
      refine WE.p1 (j := 10) (b := true) hx 11 (by rfl) ⟨_, _, rfl, rfl, rfl⟩ (fun w_ => Runs.move rfl) rfl ?_
      refine WE.p0 hx 12 (by rfl) (fun w_ => Runs.pick rfl rfl rfl) rfl ?_
      refine WE.p0 hx 13 (by rfl) (fun w_ => Runs.move rfl) rfl ?_
      refine WE.p1 (j := 13) (b := true) hx 14 (by rfl) ⟨_, _, rfl, rfl, rfl⟩ (fun w_ => Runs.fld fld54_3 rfl) rfl ?_
      refine WE.v1 (j := 13) (b := true) 12 hx 15 (by rfl) ⟨_, _, rfl, rfl, rfl⟩ (fun w_ hE_ => Runs.load1 Try.underlying3 rfl rfl (hE_.ocell (i := 4) rfl rfl)) rfl ?_
      refine WE.p1 (j := 13) (b := true) hx 16 (by rfl) ⟨_, _, rfl, rfl, rfl⟩ (fun w_ => Runs.boolT (c := true) (Runs.eql rfl rfl) (by decide +kernel)) rfl ?_
      refine WE.p0 hx 17 (by rfl) (fun w_ => Runs.pick rfl rfl rfl) rfl ?_
      refine WE.p0 hx 18 (by rfl) (fun w_ => Runs.move rfl) rfl ?_
      refine WE.p1 (j := 18) (b := true) hx 19 (by rfl) ⟨_, _, rfl, rfl, rfl⟩ (fun w_ => Runs.fld fld54_4 rfl) rfl ?_
      refine WE.v1 (j := 18) (b := true) 12 hx 20 (by rfl) ⟨_, _, rfl, rfl, rfl⟩ (fun w_ hE_ => Runs.load1 Try.underlying3 rfl rfl (hE_.ocell (i := 4) rfl rfl)) rfl ?_
      refine WE.p1 (j := 18) (b := true) hx 21 (by rfl) ⟨_, _, rfl, rfl, rfl⟩ (fun w_ => Runs.boolT (c := true) (Runs.eql rfl rfl) (by decide +kernel)) rfl ?_
      refine WE.p0 hx 22 (by rfl) (fun w_ => Runs.pick rfl rfl rfl) rfl ?_
      refine WE.p0 hx 23 (by rfl) (fun w_ => Runs.move rfl) rfl ?_
      refine WE.p1 (j := 23) (b := true) hx 24 (by rfl) ⟨_, _, rfl, rfl, rfl⟩ (fun w_ => Runs.fld fld54_5 rfl) rfl ?_
      refine WE.v1 (j := 23) (b := true) 12 hx 25 (by rfl) ⟨_, _, rfl, rfl, rfl⟩ (fun w_ hE_ => Runs.load1 Try.underlying22 rfl rfl (hE_.ocell (i := 4) rfl rfl)) rfl ?_
      refine WE.p1 (j := 23) (b := true) hx 26 (by rfl) ⟨_, _, rfl, rfl, rfl⟩ (fun w_ => Runs.llen Try.underlying22 rfl rfl) rfl ?_
      refine WE.p1 (j := 23) (b := true) hx 27 (by rfl) ⟨_, _, rfl, rfl, rfl⟩ (fun w_ => Runs.boolT (c := true) (Runs.eql rfl rfl) (by decide +kernel)) rfl ?_
      refine WE.p0 hx 28 (by rfl) (fun w_ => Runs.pick rfl rfl rfl) rfl ?_
      refine WE.p0 hx 29 (by rfl) (fun w_ => Runs.move rfl) rfl ?_
      refine WE.p1 (j := 29) (b := true) hx 30 (by rfl) ⟨_, _, rfl, rfl, rfl⟩ (fun w_ => Runs.move rfl) rfl ?_
      refine WE.p1 (j := 29) (b := true) hx 31 (by rfl) ⟨_, _, rfl, rfl, rfl⟩ (fun w_ => Runs.boolT (c := true) (Runs.eql rfl rfl) (by decide +kernel)) rfl ?_
      refine WE.p0 hx 32 (by rfl) (fun w_ => Runs.pick rfl rfl rfl) rfl ?_
      refine WE.p0 hx 33 (by rfl) (fun w_ => Runs.move rfl) rfl ?_
      refine WE.p1 (j := 33) (b := true) hx 34 (by rfl) ⟨_, _, rfl, rfl, rfl⟩ (fun w_ => Runs.fld fld40_1 rfl) rfl ?_
      refine WE.v1 (j := 33) (b := true) 12 hx 35 (by rfl) ⟨_, _, rfl, rfl, rfl⟩ (fun w_ hE_ => Runs.load1 Try.underlying38 rfl rfl (hE_.ocell (i := 7) rfl rfl)) rfl ?_
      refine WE.p1 (j := 33) (b := true) hx 36 (by rfl) ⟨_, _, rfl, rfl, rfl⟩ (fun w_ => Runs.llen Try.underlying38 rfl rfl) rfl ?_
      refine WE.p1 (j := 33) (b := true) hx 37 (by rfl) ⟨_, _, rfl, rfl, rfl⟩ (fun w_ => Runs.boolT (c := true) (Runs.eql rfl rfl) (by decide +kernel)) rfl ?_
      refine WE.p0 hx 38 (by rfl) (fun w_ => Runs.pick rfl rfl rfl) rfl ?_
      refine WE.p0 hx 39 (by rfl) (fun w_ => Runs.move rfl) rfl ?_
      refine WE.v1 (j := 39) (b := true) 12 hx 40 (by rfl) ⟨_, _, rfl, rfl, rfl⟩ (fun w_ hE_ => Runs.loadAll hE_ 6 rfl Try.underlying40 rfl inf40 rfl rfl) rfl ?_
      refine WE.op (.inr h146) (i := 41) (by rfl) (by kernel_rfl) ?_
      refine WL.gon rfl rfl rfl ?_
      refine WL.call can26 rfl rfl (aliveB_c (z := az) (b := true) (by decide +kernel) az_few hZ50 h146) ?_
      rintro _ w147 ⟨rfl, h147⟩
      refine ⟨_, rfl, ?_⟩
      refine WL.nil (WE.next ?_)
      refine WE.p0 hx 42 (by rfl) (fun w_ => Runs.pick rfl rfl rfl) rfl ?_
      refine WE.p0 hx 43 (by rfl) (fun w_ => Runs.move rfl) rfl ?_
      refine WE.v1 (j := 43) (b := true) 12 hx 44 (by rfl) ⟨_, _, rfl, rfl, rfl⟩ (fun w_ hE_ => Runs.loadAll hE_ 8 rfl Try.underlying40 rfl inf40 rfl rfl) rfl ?_
      refine WE.op (.inr h147) (i := 45) (by rfl) (by kernel_rfl) ?_
      refine WL.gon rfl rfl rfl ?_
      refine WL.call can26 rfl rfl (aliveB_c (z := zL) (b := false) (by decide +kernel) zL_few hZ29 h147) ?_
      rintro _ w148 ⟨rfl, h148⟩
      refine ⟨_, rfl, ?_⟩
      refine WL.nil (WE.next ?_)
      refine WE.p1 (j := 43) (b := true) hx 46 (by rfl) ⟨_, _, rfl, rfl, rfl⟩ (fun w_ => Runs.not rfl) rfl ?_
      refine WE.p0 hx 47 (by rfl) (fun w_ => Runs.pick rfl rfl rfl) rfl ?_
      refine WE.p0 hx 48 (by rfl) (fun w_ => Runs.move rfl) rfl ?_
      refine WE.p1 (j := 48) (b := true) hx 49 (by rfl) ⟨_, _, rfl, rfl, rfl⟩ (fun w_ => Runs.move rfl) rfl ?_
      refine WE.p1 (j := 48) (b := true) hx 50 (by rfl) ⟨_, _, rfl, rfl, rfl⟩ (fun w_ => Runs.boolT (c := true) (Runs.eql rfl rfl) (by decide +kernel)) rfl ?_
      refine WE.p0 hx 51 (by rfl) (fun w_ => Runs.pick rfl rfl rfl) rfl ?_
      refine WE.p0 hx 52 (by rfl) (fun w_ => Runs.move rfl) rfl ?_
      refine WE.p1 (j := 52) (b := true) hx 53 (by rfl) ⟨_, _, rfl, rfl, rfl⟩ (fun w_ => Runs.move rfl) rfl ?_
      refine WE.p1 (j := 52) (b := true) hx 54 (by rfl) ⟨_, _, rfl, rfl, rfl⟩ (fun w_ => Runs.boolT (c := true) (Runs.eql rfl rfl) (by decide +kernel)) rfl ?_
      refine WE.p0 hx 55 (by rfl) (fun w_ => Runs.pick rfl rfl rfl) rfl ?_
      refine WE.p0 hx 56 (by rfl) (fun w_ => Runs.move rfl) rfl ?_
      refine WE.p1 (j := 56) (b := true) hx 57 (by rfl) ⟨_, _, rfl, rfl, rfl⟩ (fun w_ => Runs.move rfl) rfl ?_
      refine WE.p1 (j := 56) (b := true) hx 58 (by rfl) ⟨_, _, rfl, rfl, rfl⟩ (fun w_ => Runs.boolT (c := true) (Runs.eql rfl rfl) (by decide +kernel)) rfl ?_
      refine WE.p0 hx 59 (by rfl) (fun w_ => Runs.pick rfl rfl rfl) rfl ?_
      refine WE.p0 hx 60 (by rfl) (fun w_ => Runs.move rfl) rfl ?_
      refine WE.p1 (j := 60) (b := true) hx 62 (by rfl) ⟨_, _, rfl, rfl, rfl⟩ (fun w_ => Runs.move rfl) rfl ?_
      refine WE.p1 (j := 60) (b := true) hx 63 (by rfl) ⟨_, _, rfl, rfl, rfl⟩ (fun w_ => Runs.lidxK Try.underlying65 inf24 rfl rfl (n := 1) rfl (by decide)) rfl ?_
      refine WE.v1 (j := 60) (b := true) 12 hx 61 (by rfl) ⟨_, _, rfl, rfl, rfl⟩ (fun w_ hE_ => Runs.loadAll hE_ 1 rfl Try.underlying24 rfl inf24 rfl rfl) rfl ?_
      refine WE.v1 (j := 60) (b := true) 12 hx 64 (by rfl) ⟨_, _, rfl, rfl, rfl⟩ (fun w_ hE_ => Runs.loadKF hE_ hcell1 Try.underlying24 rfl inf24 rfl rfl) rfl ?_
      refine WE.op (.inr h148) (i := 65) (by rfl) (by kernel_rfl) ?_
      refine WL.gon rfl rfl rfl ?_
      refine WL.call can15 rfl rfl (recsT _ back1 hrd84 (by rw [back1]; decide +kernel) hps1 h148) ?_
      rintro _ w149 ⟨rfl, h149⟩
      refine ⟨_, rfl, ?_⟩
      refine WL.nil (WE.next ?_)
      refine WE.p0 hx 66 (by rfl) (fun w_ => Runs.pick rfl rfl rfl) rfl ?_
      refine WE.p0 hx 67 (by rfl) (fun w_ => Runs.move rfl) rfl ?_
      refine WE.p1 (j := 67) (b := true) hx 68 (by rfl) ⟨_, _, rfl, rfl, rfl⟩ (fun w_ => Runs.move rfl) rfl ?_
      refine WE.p1 (j := 67) (b := true) hx 69 (by rfl) ⟨_, _, rfl, rfl, rfl⟩ (fun w_ => Runs.boolT (c := true) (Runs.eql rfl rfl) (by decide +kernel)) rfl ?_
      refine WE.p0 hx 70 (by rfl) (fun w_ => Runs.pick rfl rfl rfl) rfl ?_
      refine WE.p0 hx 71 (by rfl) (fun w_ => Runs.assign rfl) rfl ?_
      refine WE.fin (.inr h149) (by kernel_rfl) ?_
      refine WN.thn (WC.ret ?_)
      have h90 := (((((((((h149.drop 0).drop 0).drop 0).drop 0).drop 0).drop 0).drop 0).drop 0).drop 0)
      simp only [List.eraseIdx_cons_zero] at h90
      exact ret1 rfl rfl ⟨_, hleF, rfl, h90⟩
end Rc
end Go.Proofs.Ythejglgnoingfaa
