/- The laws of chapter 16: some answers. -/
import Derived.Test.YtanlminnobonnaaProg
import Derived.KernelRfl
import Derived.Test.YtanlminnobonnaaMBaseAH
import Derived.Test.YtanlminnobonnaaMN7
namespace Go.Proofs.Ytanlminnobonnaa
open Go Go.RowKit B
set_option linter.unusedVariables false
set_option linter.unusedSimpArgs false
namespace Rc

theorem can11 : B.Can Try.prog 11 := ⟨_, Try.func11, by kernel_rfl, rfl⟩   -- roundhouse/node.Decide
theorem can17 : B.Can Try.prog 17 := ⟨_, Try.func17, by kernel_rfl, rfl⟩   -- roundhouse/node.Asks
theorem can19 : B.Can Try.prog 19 := ⟨_, Try.func19, by kernel_rfl, rfl⟩   -- roundhouse/node.Exit
theorem can24 : B.Can Try.prog 24 := ⟨_, Try.func24, by kernel_rfl, rfl⟩   -- roundhouse/rec.Fold
def lL : List R := [⟨0, 1, 0, 0, 0, []⟩, ⟨1, 1, 0, 2, 0, [4]⟩]
def rL0 : R := ⟨0, 1, 0, 0, 0, []⟩
def rL1 : R := ⟨1, 1, 0, 2, 0, [4]⟩
def rL : R := ⟨0, 1, 0, 2, 0, []⟩
def zL : Z := (foldM Z0 lL).1
def mL1 : M := ⟨4, -1, 3, 1, 0, 2, 0, ⟨#[]⟩⟩
def mL2 : M := ⟨2, -1, 3, 1, 0, 5, 0, ⟨#[]⟩⟩
def mL3 : M := ⟨8, -1, 3, 1, 0, 0, 0, ⟨#[]⟩⟩
def mL4 : M := ⟨3, -1, 3, 0, 0, 0, 0, ⟨#[]⟩⟩
def mL5 : M := ⟨0, 0, 3, 0, 0, 0, 0, ⟨#[]⟩⟩
def fL0 : Fc := ⟨0, [], 0, false⟩
def fL9 : Fc := ⟨0, [9], 0, false⟩
theorem zL_few : few zL := ⟨by decide +kernel, by decide +kernel, by decide +kernel⟩
theorem zL1_few : few (applyM zL (decideM 3 zL mL1 fL0).1.rc).1 := ⟨by decide +kernel, by decide +kernel, by decide +kernel⟩
theorem no_small {z : Z} {n : Nat} (h : ¬ (smallZ z ∧ n ≤ 40)) : (decide (smallZ z) && decide (n ≤ 40)) = false := by
  rw [← Bool.decide_and, decide_eq_false h]
theorem asksT {W w : World} {F : Snap} {cs : List Res} {AJ AS : Option Addr} {cj cS : Nat} {z : Z} {m : M} (e : asksM z m = true) (hz : few z) (hR : ZR F AJ AS z) (h : St W F cs w) : Calls Try.prog 17 #[.agg #[.slice AJ z.js.length cj, .slice AS z.ss.length cS, .bool z.dr], .agg #[Vi m.kd, Vi m.fr, Vi m.to, Vi m.jb, Vi m.ep, Vi m.st, Vi m.ar, .string m.tx]] w fun e w' => ∃ G, Le F G ∧ e = .returned (.bool true) ∧ St W G cs w' := by
  have := asks_c (cj := cj) (cS := cS) (m := m) w hz hR h
  rwa [e] at this
set_option maxRecDepth 100000 in
set_option maxHeartbeats 16000000 in
theorem live_c {W : World} {F : Snap} {cs : List Res} (w : World) (h : St W F cs w) : Calls Try.prog 10 #[] w fun e w' => ∃ G, Le F G ∧ e = .returned (.bool true) ∧ St W G cs w'  := by
  refine enter (P := Try.prog) (args := []) Try.func10 rfl rfl rfl ?_
  have hleF := Le.refl F
  refine WC.seq (WC.reg ?_)
  refine WL.v (Runs.assign rfl) rfl ?_
  refine WL.nil (WN.thn (WC.seq (WC.reg ?_)))
  refine WL.v (Runs.build (vs := [(1, Vi 1)]) (cells := #[Vi 0, Vi 1, Vi 0, Vi 0, Vi 0, .slice none 0 0]) rfl (by kernel_rfl)) rfl ?_
  refine WL.buildSlice (vs := [Vi 4]) h rfl Try.underlying29 (inf3.elem rfl rfl) rfl rfl rfl (by decide) ?_
  intro lit21 w1 h1
  try simp only [lz, ls, ez, es'] at h1
  obtain ⟨Gl21, hGl21, gf21, hS21⟩ := h1.freeze (i := 0) rfl
  have rd21 : RdS (Kd.one Vi) Gl21 (some ⟨lit21, 0, none⟩) [4] := RdS.ints (gf21 _ List.mem_cons_self) rfl
  replace h1 := hS21
  simp only [List.eraseIdx_cons_zero] at h1
  replace hleF := Le.trans hleF hGl21
  refine WL.v (Runs.build (vs := [(0, Vi 1), (1, Vi 1), (3, Vi 2), (5, .slice (some ⟨lit21, 0, none⟩) 1 1)]) (cells := #[Vi 1, Vi 1, Vi 0, Vi 2, Vi 0, .slice (some ⟨lit21, 0, none⟩) 1 1]) rfl (by kernel_rfl)) rfl ?_
  refine WL.buildSlice (vs := [.agg #[Vi rL0.kd, Vi rL0.jb, Vi rL0.ep, Vi rL0.st, Vi rL0.ar, .slice none rL0.ls.length 0], .agg #[Vi rL1.kd, Vi rL1.jb, Vi rL1.ep, Vi rL1.st, Vi rL1.ar, .slice (some ⟨lit21, 0, none⟩) rL1.ls.length 1]]) h1 rfl Try.underlying59 (inf37.elem rfl rfl) rfl rfl rfl (by decide) ?_
  intro lit23 w2 h2
  try simp only [lz, ls, ez, es'] at h2
  obtain ⟨Gl23, hGl23, gf23, hS23⟩ := h2.freeze (i := 0) rfl
  replace h2 := hS23
  simp only [List.eraseIdx_cons_zero] at h2
  replace hleF := Le.trans hleF hGl23
  replace rd21 := rd21.mono hGl23
  have rd23 : RdS KR Gl23 (some ⟨lit23, 0, none⟩) lL := RdS.blks (d := KR) [[Vi rL0.kd, Vi rL0.jb, Vi rL0.ep, Vi rL0.st, Vi rL0.ar, .slice none rL0.ls.length 0], [Vi rL1.kd, Vi rL1.jb, Vi rL1.ep, Vi rL1.st, Vi rL1.ar, .slice (some ⟨lit21, 0, none⟩) rL1.ls.length 1]] (gf23 _ List.mem_cons_self) rfl ⟨⟨none, 0, rfl, .inl rfl⟩, ⟨(some ⟨lit21, 0, none⟩), 1, rfl, rd21⟩,  trivial⟩
  refine WL.call can24 rfl rfl ((show Calls _ _ #[.slice (some ⟨lit23, 0, none⟩) 2 2] _ _ from fold_c (l := lL) _ (by decide) (by decide +kernel) rd23 h2)) ?_
  rintro _ w3 ⟨G24, AJ24, AS24, cj24, cS24, hG24, rfl, hZ24, h3⟩
  refine ⟨_, rfl, ?_⟩
  replace hleF := Le.trans hleF hG24
  replace rd21 := rd21.mono hG24
  replace rd23 := rd23.mono hG24
  refine WL.v (Runs.move rfl) rfl ?_
  refine WL.v (Runs.extract rfl rfl) rfl ?_
  refine WL.v (Runs.extract rfl rfl) rfl ?_
  refine WL.alloc' rfl h3 inf45 ?_
  intro b1 w4 h4
  refine WL.storeAll h4 0 rfl rfl rfl inf45 rfl rfl rfl (Free.zero _) ?_
  intro  w5 h5
  try simp only [lz, ls, ez, es'] at h5
  refine WL.v (Runs.assign rfl) rfl ?_
  refine WL.nil (WN.thn (WC.seq (WC.reg ?_)))
  refine WL.v (Runs.loadAll h5 0 rfl Try.underlying45 rfl inf45 rfl rfl) rfl ?_
  refine WL.v (Runs.build (vs := [(0, Vi (4)), (1, Vi (-1)), (2, Vi (3)), (3, Vi (1)), (5, Vi (2))]) (cells := #[Vi (4), Vi (-1), Vi (3), Vi (1), Vi (0), Vi (2), Vi (0), .string ⟨#[]⟩]) rfl (by kernel_rfl)) rfl ?_
  refine WL.v (Runs.build (vs := []) (cells := #[Vi 0, .slice none 0 0, Vi 0, .bool false]) rfl (by kernel_rfl)) rfl ?_
  refine WL.call can11 rfl rfl ((show Calls _ _ #[Vi 3, _, .agg #[Vi mL1.kd, Vi mL1.fr, Vi mL1.to, Vi mL1.jb, Vi mL1.ep, Vi mL1.st, Vi mL1.ar, .string mL1.tx], .agg #[Vi fL0.cr, .slice none fL0.ps.length 0, Vi fL0.cd, .bool fL0.bz]] _ _ from decide_c (m := mL1) (f := fL0) (Ap := none) (cp := 0) _ 3 zL_few hZ24 (.inl rfl) (by decide) h5)) ?_
  rintro _ w6 ⟨G31, A31, c31, hG31, rfl, hrd31, h6⟩
  refine ⟨_, rfl, ?_⟩
  replace hleF := Le.trans hleF hG31
  replace rd21 := rd21.mono hG31
  replace rd23 := rd23.mono hG31
  replace hZ24 := hZ24.mono hG31
  refine WL.v (Runs.move rfl) rfl ?_
  refine WL.v (Runs.extract rfl rfl) rfl ?_
  refine WL.v (Runs.extract rfl rfl) rfl ?_
  refine WL.alloc' rfl h6 inf39 ?_
  intro b3 w7 h7
  refine WL.storeAll h7 0 rfl rfl rfl inf39 rfl rfl rfl (Free.zero _) ?_
  intro  w8 h8
  try simp only [lz, ls, ez, es'] at h8
  refine WL.v (Runs.assign rfl) rfl ?_
  refine WL.nil (WN.thn (WC.seq (WC.reg ?_)))
  refine WL.v (Runs.loadAll h8 1 rfl Try.underlying45 rfl inf45 rfl rfl) rfl ?_
  refine WL.v (Runs.build (vs := [(0, Vi (2)), (1, Vi (-1)), (2, Vi (3)), (3, Vi (1)), (5, Vi (5))]) (cells := #[Vi (2), Vi (-1), Vi (3), Vi (1), Vi (0), Vi (5), Vi (0), .string ⟨#[]⟩]) rfl (by kernel_rfl)) rfl ?_
  refine WL.buildSlice (vs := [Vi 9]) h8 rfl Try.underlying29 (inf3.elem rfl rfl) rfl rfl rfl (by decide) ?_
  intro lit37 w9 h9
  try simp only [lz, ls, ez, es'] at h9
  obtain ⟨Gl37, hGl37, gf37, hS37⟩ := h9.freeze (i := 0) rfl
  have rd37 : RdS (Kd.one Vi) Gl37 (some ⟨lit37, 0, none⟩) [9] := RdS.ints (gf37 _ List.mem_cons_self) rfl
  replace h9 := hS37
  simp only [List.eraseIdx_cons_zero] at h9
  replace hleF := Le.trans hleF hGl37
  replace rd21 := rd21.mono hGl37
  replace rd23 := rd23.mono hGl37
  replace hZ24 := hZ24.mono hGl37
  replace hrd31 := hrd31.mono hGl37
  refine WL.v (Runs.build (vs := [(1, .slice (some ⟨lit37, 0, none⟩) 1 1)]) (cells := #[Vi 0, .slice (some ⟨lit37, 0, none⟩) 1 1, Vi 0, .bool false]) rfl (by kernel_rfl)) rfl ?_
  refine WL.call can11 rfl rfl ((show Calls _ _ #[Vi 3, _, .agg #[Vi mL2.kd, Vi mL2.fr, Vi mL2.to, Vi mL2.jb, Vi mL2.ep, Vi mL2.st, Vi mL2.ar, .string mL2.tx], .agg #[Vi fL9.cr, .slice (some ⟨lit37, 0, none⟩) fL9.ps.length 1, Vi fL9.cd, .bool fL9.bz]] _ _ from decide_c (m := mL2) (f := fL9) (Ap := (some ⟨lit37, 0, none⟩)) (cp := 1) _ 3 zL_few hZ24 rd37 (by decide) h9)) ?_
  rintro _ w10 ⟨G39, A39, c39, hG39, rfl, hrd39, h10⟩
  refine ⟨_, rfl, ?_⟩
  replace hleF := Le.trans hleF hG39
  replace rd21 := rd21.mono hG39
  replace rd23 := rd23.mono hG39
  replace hZ24 := hZ24.mono hG39
  replace hrd31 := hrd31.mono hG39
  replace rd37 := rd37.mono hG39
  refine WL.v (Runs.move rfl) rfl ?_
  refine WL.v (Runs.extract rfl rfl) rfl ?_
  refine WL.v (Runs.extract rfl rfl) rfl ?_
  refine WL.alloc' rfl h10 inf39 ?_
  intro b5 w11 h11
  refine WL.storeAll h11 0 rfl rfl rfl inf39 rfl rfl rfl (Free.zero _) ?_
  intro  w12 h12
  try simp only [lz, ls, ez, es'] at h12
  refine WL.v (Runs.assign rfl) rfl ?_
  refine WL.nil (WN.thn (WC.seq (WC.reg ?_)))
  refine WL.v (Runs.loadAll h12 2 rfl Try.underlying45 rfl inf45 rfl rfl) rfl ?_
  refine WL.v (Runs.build (vs := [(0, Vi (8)), (1, Vi (-1)), (2, Vi (3)), (3, Vi (1))]) (cells := #[Vi (8), Vi (-1), Vi (3), Vi (1), Vi (0), Vi (0), Vi (0), .string ⟨#[]⟩]) rfl (by kernel_rfl)) rfl ?_
  refine WL.v (Runs.build (vs := []) (cells := #[Vi 0, .slice none 0 0, Vi 0, .bool false]) rfl (by kernel_rfl)) rfl ?_
  refine WL.call can11 rfl rfl ((show Calls _ _ #[Vi 3, _, .agg #[Vi mL3.kd, Vi mL3.fr, Vi mL3.to, Vi mL3.jb, Vi mL3.ep, Vi mL3.st, Vi mL3.ar, .string mL3.tx], .agg #[Vi fL0.cr, .slice none fL0.ps.length 0, Vi fL0.cd, .bool fL0.bz]] _ _ from decide_c (m := mL3) (f := fL0) (Ap := none) (cp := 0) _ 3 zL_few hZ24 (.inl rfl) (by decide) h12)) ?_
  rintro _ w13 ⟨G46, A46, c46, hG46, rfl, hrd46, h13⟩
  refine ⟨_, rfl, ?_⟩
  replace hleF := Le.trans hleF hG46
  replace rd21 := rd21.mono hG46
  replace rd23 := rd23.mono hG46
  replace hZ24 := hZ24.mono hG46
  replace hrd31 := hrd31.mono hG46
  replace rd37 := rd37.mono hG46
  replace hrd39 := hrd39.mono hG46
  refine WL.v (Runs.move rfl) rfl ?_
  refine WL.v (Runs.extract rfl rfl) rfl ?_
  refine WL.v (Runs.extract rfl rfl) rfl ?_
  refine WL.alloc' rfl h13 inf39 ?_
  intro b7 w14 h14
  refine WL.storeAll h14 0 rfl rfl rfl inf39 rfl rfl rfl (Free.zero _) ?_
  intro  w15 h15
  try simp only [lz, ls, ez, es'] at h15
  refine WL.v (Runs.assign rfl) rfl ?_
  refine WL.nil (WN.thn (WC.seq (WC.reg ?_)))
  refine WL.v (Runs.loadAll h15 3 rfl Try.underlying45 rfl inf45 rfl rfl) rfl ?_
  refine WL.v (Runs.build (vs := [(0, Vi (3)), (1, Vi (-1)), (2, Vi (3))]) (cells := #[Vi (3), Vi (-1), Vi (3), Vi (0), Vi (0), Vi (0), Vi (0), .string ⟨#[]⟩]) rfl (by kernel_rfl)) rfl ?_
  refine WL.v (Runs.build (vs := []) (cells := #[Vi 0, .slice none 0 0, Vi 0, .bool false]) rfl (by kernel_rfl)) rfl ?_
  refine WL.call can11 rfl rfl ((show Calls _ _ #[Vi 3, _, .agg #[Vi mL4.kd, Vi mL4.fr, Vi mL4.to, Vi mL4.jb, Vi mL4.ep, Vi mL4.st, Vi mL4.ar, .string mL4.tx], .agg #[Vi fL0.cr, .slice none fL0.ps.length 0, Vi fL0.cd, .bool fL0.bz]] _ _ from decide_c (m := mL4) (f := fL0) (Ap := none) (cp := 0) _ 3 zL_few hZ24 (.inl rfl) (by decide) h15)) ?_
  rintro _ w16 ⟨G53, A53, c53, hG53, rfl, hrd53, h16⟩
  refine ⟨_, rfl, ?_⟩
  replace hleF := Le.trans hleF hG53
  replace rd21 := rd21.mono hG53
  replace rd23 := rd23.mono hG53
  replace hZ24 := hZ24.mono hG53
  replace hrd31 := hrd31.mono hG53
  replace rd37 := rd37.mono hG53
  replace hrd39 := hrd39.mono hG53
  replace hrd46 := hrd46.mono hG53
  refine WL.v (Runs.move rfl) rfl ?_
  refine WL.v (Runs.extract rfl rfl) rfl ?_
  refine WL.v (Runs.extract rfl rfl) rfl ?_
  refine WL.alloc' rfl h16 inf39 ?_
  intro b9 w17 h17
  refine WL.storeAll h17 0 rfl rfl rfl inf39 rfl rfl rfl (Free.zero _) ?_
  intro  w18 h18
  try simp only [lz, ls, ez, es'] at h18
  refine WL.v (Runs.assign rfl) rfl ?_
  refine WL.nil (WN.thn (WC.seq (WC.reg ?_)))
  refine WL.v (Runs.loadAll h18 4 rfl Try.underlying45 rfl inf45 rfl rfl) rfl ?_
  refine WL.v (Runs.build (vs := [(2, Vi (3))]) (cells := #[Vi (0), Vi (0), Vi (3), Vi (0), Vi (0), Vi (0), Vi (0), .string ⟨#[]⟩]) rfl (by kernel_rfl)) rfl ?_
  refine WL.v (Runs.build (vs := []) (cells := #[Vi 0, .slice none 0 0, Vi 0, .bool false]) rfl (by kernel_rfl)) rfl ?_
  refine WL.call can11 rfl rfl ((show Calls _ _ #[Vi 3, _, .agg #[Vi mL5.kd, Vi mL5.fr, Vi mL5.to, Vi mL5.jb, Vi mL5.ep, Vi mL5.st, Vi mL5.ar, .string mL5.tx], .agg #[Vi fL0.cr, .slice none fL0.ps.length 0, Vi fL0.cd, .bool fL0.bz]] _ _ from decide_c (m := mL5) (f := fL0) (Ap := none) (cp := 0) _ 3 zL_few hZ24 (.inl rfl) (by decide) h18)) ?_
  rintro _ w19 ⟨G60, A60, c60, hG60, rfl, hrd60, h19⟩
  refine ⟨_, rfl, ?_⟩
  replace hleF := Le.trans hleF hG60
  replace rd21 := rd21.mono hG60
  replace rd23 := rd23.mono hG60
  replace hZ24 := hZ24.mono hG60
  replace hrd31 := hrd31.mono hG60
  replace rd37 := rd37.mono hG60
  replace hrd39 := hrd39.mono hG60
  replace hrd46 := hrd46.mono hG60
  replace hrd53 := hrd53.mono hG60
  refine WL.v (Runs.move rfl) rfl ?_
  refine WL.v (Runs.extract rfl rfl) rfl ?_
  refine WL.v (Runs.extract rfl rfl) rfl ?_
  refine WL.alloc' rfl h19 inf39 ?_
  intro b11 w20 h20
  refine WL.storeAll h20 0 rfl rfl rfl inf39 rfl rfl rfl (Free.zero _) ?_
  intro  w21 h21
  try simp only [lz, ls, ez, es'] at h21
  refine WL.v (Runs.assign rfl) rfl ?_
  refine WL.nil (WN.thn (WC.seq (WC.reg ?_)))
  refine WL.v (Runs.loadAll h21 5 rfl Try.underlying45 rfl inf45 rfl rfl) rfl ?_
  refine WL.v (Runs.fld fld39_1 rfl) rfl ?_
  refine WL.v (Runs.loadPart (vs := #[Vi (decideM 3 zL mL1 fL0).1.rc.kd, Vi (decideM 3 zL mL1 fL0).1.rc.jb, Vi (decideM 3 zL mL1 fL0).1.rc.ep, Vi (decideM 3 zL mL1 fL0).1.rc.st, Vi (decideM 3 zL mL1 fL0).1.rc.ar, .slice A31 (decideM 3 zL mL1 fL0).1.rc.ls.length c31]) h21 4 rfl Try.underlying37 rfl inf37 rfl (by kernel_rfl) rfl) rfl ?_
  refine WL.call can23 rfl rfl (apply_c (r := (decideM 3 zL mL1 fL0).1.rc) _ hrd31 (by decide +kernel) zL_few hZ24 h21) ?_
  rintro _ w22 ⟨G67, AJ67, AS67, cj67, cS67, hG67, rfl, hZ67, h22⟩
  refine ⟨_, rfl, ?_⟩
  replace hleF := Le.trans hleF hG67
  replace rd21 := rd21.mono hG67
  replace rd23 := rd23.mono hG67
  replace hZ24 := hZ24.mono hG67
  replace hrd31 := hrd31.mono hG67
  replace rd37 := rd37.mono hG67
  replace hrd39 := hrd39.mono hG67
  replace hrd46 := hrd46.mono hG67
  replace hrd53 := hrd53.mono hG67
  replace hrd60 := hrd60.mono hG67
  refine WL.v (Runs.move rfl) rfl ?_
  refine WL.v (Runs.extract rfl rfl) rfl ?_
  refine WL.v (Runs.extract rfl rfl) rfl ?_
  refine WL.alloc' rfl h22 inf45 ?_
  intro b13 w23 h23
  refine WL.storeAll h23 0 rfl rfl rfl inf45 rfl rfl rfl (Free.zero _) ?_
  intro  w24 h24
  try simp only [lz, ls, ez, es'] at h24
  refine WL.v (Runs.assign rfl) rfl ?_
  refine WL.nil (WN.thn (WC.seq (WC.reg ?_)))
  refine WL.v (Runs.loadAll h24 0 rfl Try.underlying45 rfl inf45 rfl rfl) rfl ?_
  refine WL.v (Runs.build (vs := [(1, Vi 1), (3, Vi 2)]) (cells := #[Vi 0, Vi 1, Vi 0, Vi 2, Vi 0, .slice none 0 0]) rfl (by kernel_rfl)) rfl ?_
  refine WL.buildSlice (vs := [Vi 0, Vi 7]) h24 rfl Try.underlying29 (inf3.elem rfl rfl) rfl rfl rfl (by decide) ?_
  intro lit73 w25 h25
  try simp only [lz, ls, ez, es'] at h25
  obtain ⟨Gl73, hGl73, gf73, hS73⟩ := h25.freeze (i := 0) rfl
  have rd73 : RdS (Kd.one Vi) Gl73 (some ⟨lit73, 0, none⟩) [0, 7] := RdS.ints (gf73 _ List.mem_cons_self) rfl
  replace h25 := hS73
  simp only [List.eraseIdx_cons_zero] at h25
  replace hleF := Le.trans hleF hGl73
  replace rd21 := rd21.mono hGl73
  replace rd23 := rd23.mono hGl73
  replace hZ24 := hZ24.mono hGl73
  replace hrd31 := hrd31.mono hGl73
  replace rd37 := rd37.mono hGl73
  replace hrd39 := hrd39.mono hGl73
  replace hrd46 := hrd46.mono hGl73
  replace hrd53 := hrd53.mono hGl73
  replace hrd60 := hrd60.mono hGl73
  replace hZ67 := hZ67.mono hGl73
  refine WL.call can19 rfl rfl ((show Calls _ _ #[Vi 3, _, .agg #[Vi rL.kd, Vi rL.jb, Vi rL.ep, Vi rL.st, Vi rL.ar, .slice none rL.ls.length 0], .slice (some ⟨lit73, 0, none⟩) 2 2] _ _ from exit_c (r := rL) (codes := [0, 7]) _ 3 zL1_few hZ67 rd73 (by decide) h25)) ?_
  rintro _ w26 ⟨G74, A74, c74, hG74, rfl, hrd74, h26⟩
  refine ⟨_, rfl, ?_⟩
  replace hleF := Le.trans hleF hG74
  replace rd21 := rd21.mono hG74
  replace rd23 := rd23.mono hG74
  replace hZ24 := hZ24.mono hG74
  replace hrd31 := hrd31.mono hG74
  replace rd37 := rd37.mono hG74
  replace hrd39 := hrd39.mono hG74
  replace hrd46 := hrd46.mono hG74
  replace hrd53 := hrd53.mono hG74
  replace hrd60 := hrd60.mono hG74
  replace hZ67 := hZ67.mono hG74
  replace rd73 := rd73.mono hG74
  refine WL.v (Runs.move rfl) rfl ?_
  refine WL.v (Runs.extract rfl rfl) rfl ?_
  refine WL.v (Runs.extract rfl rfl) rfl ?_
  refine WL.alloc' rfl h26 inf39 ?_
  intro b15 w27 h27
  refine WL.storeAll h27 0 rfl rfl rfl inf39 rfl rfl rfl (Free.zero _) ?_
  intro  w28 h28
  try simp only [lz, ls, ez, es'] at h28
  refine WL.v (Runs.assign rfl) rfl ?_
  refine WL.nil (WN.thn (WC.seq (WC.reg ?_)))
  refine WL.v (Runs.loadAll h28 7 rfl Try.underlying45 rfl inf45 rfl rfl) rfl ?_
  refine WL.v (Runs.build (vs := [(1, Vi 1), (3, Vi 2)]) (cells := #[Vi 0, Vi 1, Vi 0, Vi 2, Vi 0, .slice none 0 0]) rfl (by kernel_rfl)) rfl ?_
  refine WL.buildSlice (vs := [Vi 0]) h28 rfl Try.underlying29 (inf3.elem rfl rfl) rfl rfl rfl (by decide) ?_
  intro lit80 w29 h29
  try simp only [lz, ls, ez, es'] at h29
  obtain ⟨Gl80, hGl80, gf80, hS80⟩ := h29.freeze (i := 0) rfl
  have rd80 : RdS (Kd.one Vi) Gl80 (some ⟨lit80, 0, none⟩) [0] := RdS.ints (gf80 _ List.mem_cons_self) rfl
  replace h29 := hS80
  simp only [List.eraseIdx_cons_zero] at h29
  replace hleF := Le.trans hleF hGl80
  replace rd21 := rd21.mono hGl80
  replace rd23 := rd23.mono hGl80
  replace hZ24 := hZ24.mono hGl80
  replace hrd31 := hrd31.mono hGl80
  replace rd37 := rd37.mono hGl80
  replace hrd39 := hrd39.mono hGl80
  replace hrd46 := hrd46.mono hGl80
  replace hrd53 := hrd53.mono hGl80
  replace hrd60 := hrd60.mono hGl80
  replace hZ67 := hZ67.mono hGl80
  replace rd73 := rd73.mono hGl80
  replace hrd74 := hrd74.mono hGl80
  refine WL.call can19 rfl rfl ((show Calls _ _ #[Vi 3, _, .agg #[Vi rL.kd, Vi rL.jb, Vi rL.ep, Vi rL.st, Vi rL.ar, .slice none rL.ls.length 0], .slice (some ⟨lit80, 0, none⟩) 1 1] _ _ from exit_c (r := rL) (codes := [0]) _ 3 zL_few hZ24 rd80 (by decide) h29)) ?_
  rintro _ w30 ⟨G81, A81, c81, hG81, rfl, hrd81, h30⟩
  refine ⟨_, rfl, ?_⟩
  replace hleF := Le.trans hleF hG81
  replace rd21 := rd21.mono hG81
  replace rd23 := rd23.mono hG81
  replace hZ24 := hZ24.mono hG81
  replace hrd31 := hrd31.mono hG81
  replace rd37 := rd37.mono hG81
  replace hrd39 := hrd39.mono hG81
  replace hrd46 := hrd46.mono hG81
  replace hrd53 := hrd53.mono hG81
  replace hrd60 := hrd60.mono hG81
  replace hZ67 := hZ67.mono hG81
  replace rd73 := rd73.mono hG81
  replace hrd74 := hrd74.mono hG81
  replace rd80 := rd80.mono hG81
  refine WL.v (Runs.move rfl) rfl ?_
  refine WL.v (Runs.extract rfl rfl) rfl ?_
  refine WL.v (Runs.extract rfl rfl) rfl ?_
  refine WL.alloc' rfl h30 inf39 ?_
  intro b17 w31 h31
  refine WL.storeAll h31 0 rfl rfl rfl inf39 rfl rfl rfl (Free.zero _) ?_
  intro  w32 h32
  try simp only [lz, ls, ez, es'] at h32
  refine WL.v (Runs.assign rfl) rfl ?_
  refine WL.nil (WN.thn (WC.seq (WC.reg ?_)))
  refine WL.v (Runs.move rfl) rfl ?_
  refine WL.v (Runs.boolT (c := true) (Runs.eql rfl rfl) (by kernel_rfl)) rfl ?_
  refine WL.v (Runs.move rfl) rfl ?_
  refine WL.gon rfl rfl rfl ?_
  refine WL.v (Runs.fld fld39_0 rfl) rfl ?_
  refine WL.gon rfl rfl rfl ?_
  refine WL.v (Runs.boolT (c := true) (Runs.load1 Try.underlying4 rfl rfl (h32.ocell (i := 7) rfl rfl)) (by kernel_rfl)) rfl ?_
  refine WL.v (Runs.pick rfl rfl rfl) rfl ?_
  refine WL.v (Runs.move rfl) rfl ?_
  refine WL.gon rfl rfl rfl ?_
  refine WL.v (Runs.fld fld39_4 rfl) rfl ?_
  refine WL.gon rfl rfl rfl ?_
  refine WL.v (Runs.boolT (c := true) (Runs.load1 Try.underlying4 rfl rfl (h32.ocell (i := 7) rfl rfl)) (by kernel_rfl)) rfl ?_
  refine WL.v (Runs.pick rfl rfl rfl) rfl ?_
  refine WL.v (Runs.move rfl) rfl ?_
  refine WL.gon rfl rfl rfl ?_
  refine WL.v (Runs.fld fld39_1 rfl) rfl ?_
  refine WL.gon rfl rfl rfl ?_
  refine WL.v (Runs.fld fld37_0 rfl) rfl ?_
  refine WL.gon rfl rfl rfl ?_
  refine WL.v (Runs.load1 Try.underlying3 rfl rfl (h32.ocell (i := 7) rfl rfl)) rfl ?_
  refine WL.gon rfl rfl rfl ?_
  refine WL.v (Runs.boolT (c := true) (Runs.eql rfl rfl) (by kernel_rfl)) rfl ?_
  refine WL.v (Runs.pick rfl rfl rfl) rfl ?_
  refine WL.v (Runs.move rfl) rfl ?_
  refine WL.gon rfl rfl rfl ?_
  refine WL.v (Runs.fld fld39_2 rfl) rfl ?_
  refine WL.gon rfl rfl rfl ?_
  refine WL.v (Runs.boolT (c := false) (Runs.load1 Try.underlying4 rfl rfl (h32.ocell (i := 7) rfl rfl)) (by kernel_rfl)) rfl ?_
  refine WL.gon rfl rfl rfl ?_
  refine WL.v (Runs.not rfl) rfl ?_
  refine WL.v (Runs.pick rfl rfl rfl) rfl ?_
  refine WL.v (Runs.move rfl) rfl ?_
  refine WL.gon rfl rfl rfl ?_
  refine WL.v (Runs.move rfl) rfl ?_
  refine WL.gon rfl rfl rfl ?_
  refine WL.v (Runs.boolT (c := true) (Runs.eql rfl rfl) (by kernel_rfl)) rfl ?_
  refine WL.v (Runs.pick rfl rfl rfl) rfl ?_
  refine WL.v (Runs.move rfl) rfl ?_
  refine WL.gon rfl rfl rfl ?_
  refine WL.v (Runs.fld fld39_0 rfl) rfl ?_
  refine WL.gon rfl rfl rfl ?_
  refine WL.v (Runs.boolT (c := true) (Runs.load1 Try.underlying4 rfl rfl (h32.ocell (i := 6) rfl rfl)) (by kernel_rfl)) rfl ?_
  refine WL.v (Runs.pick rfl rfl rfl) rfl ?_
  refine WL.v (Runs.move rfl) rfl ?_
  refine WL.gon rfl rfl rfl ?_
  refine WL.v (Runs.fld fld39_1 rfl) rfl ?_
  refine WL.gon rfl rfl rfl ?_
  refine WL.v (Runs.fld fld37_5 rfl) rfl ?_
  refine WL.gon rfl rfl rfl ?_
  refine WL.v (Runs.load1 Try.underlying29 rfl rfl (h32.ocell (i := 6) rfl rfl)) rfl ?_
  refine WL.gon rfl rfl rfl ?_
  refine WL.v (Runs.llen Try.underlying29 rfl rfl) rfl ?_
  refine WL.gon rfl rfl rfl ?_
  refine WL.v (Runs.boolT (c := true) (Runs.eql rfl rfl) (by kernel_rfl)) rfl ?_
  refine WL.v (Runs.pick rfl rfl rfl) rfl ?_
  refine WL.v (Runs.move rfl) rfl ?_
  refine WL.gon rfl rfl rfl ?_
  refine WL.v (Runs.fld fld39_3 rfl) rfl ?_
  refine WL.gon rfl rfl rfl ?_
  refine WL.v (Runs.loadPart (vs := #[Vi (decideM 3 zL mL2 fL9).1.rp.kd, Vi (decideM 3 zL mL2 fL9).1.rp.fr, Vi (decideM 3 zL mL2 fL9).1.rp.to, Vi (decideM 3 zL mL2 fL9).1.rp.jb, Vi (decideM 3 zL mL2 fL9).1.rp.ep, Vi (decideM 3 zL mL2 fL9).1.rp.st, Vi (decideM 3 zL mL2 fL9).1.rp.ar, .string (decideM 3 zL mL2 fL9).1.rp.tx]) h32 6 rfl Try.underlying27 rfl inf27 rfl (by kernel_rfl) rfl) rfl ?_
  refine WL.gon rfl rfl rfl ?_
  refine WL.v (Runs.build (vs := [(0, Vi (3)), (1, Vi (3)), (2, Vi (-1)), (3, Vi (1)), (5, Vi (5)), (6, Vi (1))]) (cells := #[Vi (3), Vi (3), Vi (-1), Vi (1), Vi (0), Vi (5), Vi (1), .string ⟨#[]⟩]) rfl (by kernel_rfl)) rfl ?_
  refine WL.gon rfl rfl rfl ?_
  refine WL.v (Runs.boolT (c := true) (Runs.aeql (by kernel_rfl) rfl rfl (eqMsg _ (decideM 3 zL mL2 fL9).1.rp ⟨3, 3, -1, 1, 0, 5, 1, ⟨#[]⟩⟩)) (by decide +kernel)) rfl ?_
  refine WL.v (Runs.pick rfl rfl rfl) rfl ?_
  refine WL.v (Runs.move rfl) rfl ?_
  refine WL.gon rfl rfl rfl ?_
  refine WL.v (Runs.move rfl) rfl ?_
  refine WL.gon rfl rfl rfl ?_
  refine WL.v (Runs.boolT (c := true) (Runs.eql rfl rfl) (by kernel_rfl)) rfl ?_
  refine WL.v (Runs.pick rfl rfl rfl) rfl ?_
  refine WL.v (Runs.move rfl) rfl ?_
  refine WL.gon rfl rfl rfl ?_
  refine WL.v (Runs.fld fld39_0 rfl) rfl ?_
  refine WL.gon rfl rfl rfl ?_
  refine WL.v (Runs.boolT (c := false) (Runs.load1 Try.underlying4 rfl rfl (h32.ocell (i := 5) rfl rfl)) (by kernel_rfl)) rfl ?_
  refine WL.gon rfl rfl rfl ?_
  refine WL.v (Runs.not rfl) rfl ?_
  refine WL.v (Runs.pick rfl rfl rfl) rfl ?_
  refine WL.v (Runs.move rfl) rfl ?_
  refine WL.gon rfl rfl rfl ?_
  refine WL.v (Runs.fld fld39_2 rfl) rfl ?_
  refine WL.gon rfl rfl rfl ?_
  refine WL.v (Runs.boolT (c := false) (Runs.load1 Try.underlying4 rfl rfl (h32.ocell (i := 5) rfl rfl)) (by kernel_rfl)) rfl ?_
  refine WL.gon rfl rfl rfl ?_
  refine WL.v (Runs.not rfl) rfl ?_
  refine WL.v (Runs.pick rfl rfl rfl) rfl ?_
  refine WL.v (Runs.move rfl) rfl ?_
  refine WL.gon rfl rfl rfl ?_
  refine WL.v (Runs.move rfl) rfl ?_
  refine WL.gon rfl rfl rfl ?_
  refine WL.v (Runs.boolT (c := true) (Runs.eql rfl rfl) (by kernel_rfl)) rfl ?_
  refine WL.v (Runs.pick rfl rfl rfl) rfl ?_
  refine WL.v (Runs.move rfl) rfl ?_
  refine WL.gon rfl rfl rfl ?_
  refine WL.v (Runs.move rfl) rfl ?_
  refine WL.gon rfl rfl rfl ?_
  refine WL.v (Runs.boolT (c := true) (Runs.eql rfl rfl) (by kernel_rfl)) rfl ?_
  refine WL.v (Runs.pick rfl rfl rfl) rfl ?_
  refine WL.v (Runs.move rfl) rfl ?_
  refine WL.gon rfl rfl rfl ?_
  refine WL.v (Runs.move rfl) rfl ?_
  refine WL.gon rfl rfl rfl ?_
  refine WL.v (Runs.boolT (c := true) (Runs.eql rfl rfl) (by kernel_rfl)) rfl ?_
  refine WL.v (Runs.pick rfl rfl rfl) rfl ?_
  refine WL.v (Runs.move rfl) rfl ?_
  refine WL.gon rfl rfl rfl ?_
  refine WL.v (Runs.fld fld39_1 rfl) rfl ?_
  refine WL.gon rfl rfl rfl ?_
  refine WL.v (Runs.fld fld37_4 rfl) rfl ?_
  refine WL.gon rfl rfl rfl ?_
  refine WL.v (Runs.load1 Try.underlying3 rfl rfl (h32.ocell (i := 1) rfl rfl)) rfl ?_
  refine WL.gon rfl rfl rfl ?_
  refine WL.v (Runs.boolT (c := true) (Runs.eql rfl rfl) (by kernel_rfl)) rfl ?_
  refine WL.v (Runs.pick rfl rfl rfl) rfl ?_
  refine WL.v (Runs.move rfl) rfl ?_
  refine WL.gon rfl rfl rfl ?_
  refine WL.v (Runs.fld fld39_3 rfl) rfl ?_
  refine WL.gon rfl rfl rfl ?_
  refine WL.v (Runs.fld fld27_0 rfl) rfl ?_
  refine WL.gon rfl rfl rfl ?_
  refine WL.v (Runs.load1 Try.underlying3 rfl rfl (h32.ocell (i := 1) rfl rfl)) rfl ?_
  refine WL.gon rfl rfl rfl ?_
  refine WL.v (Runs.boolT (c := true) (Runs.eql rfl rfl) (by kernel_rfl)) rfl ?_
  refine WL.v (Runs.pick rfl rfl rfl) rfl ?_
  refine WL.v (Runs.move rfl) rfl ?_
  refine WL.gon rfl rfl rfl ?_
  refine WL.v (Runs.move rfl) rfl ?_
  refine WL.gon rfl rfl rfl ?_
  refine WL.v (Runs.boolT (c := true) (Runs.eql rfl rfl) (by kernel_rfl)) rfl ?_
  refine WL.v (Runs.pick rfl rfl rfl) rfl ?_
  refine WL.v (Runs.move rfl) rfl ?_
  refine WL.gon rfl rfl rfl ?_
  refine WL.v (Runs.loadAll h32 8 rfl Try.underlying45 rfl inf45 rfl rfl) rfl ?_
  refine WL.gon rfl rfl rfl ?_
  refine WL.v (Runs.build (vs := [(0, Vi (2)), (1, Vi (-1)), (2, Vi (3)), (3, Vi (1)), (5, Vi (5))]) (cells := #[Vi (2), Vi (-1), Vi (3), Vi (1), Vi (0), Vi (5), Vi (0), .string ⟨#[]⟩]) rfl (by kernel_rfl)) rfl ?_
  refine WL.gon rfl rfl rfl ?_
  refine WL.call can17 rfl rfl (asksT (m := mL2) (by kernel_rfl) zL_few hZ24 h32) ?_
  rintro _ w33 ⟨G171, hG171, rfl, h33⟩
  refine ⟨_, rfl, ?_⟩
  replace hleF := Le.trans hleF hG171
  replace rd21 := rd21.mono hG171
  replace rd23 := rd23.mono hG171
  replace hZ24 := hZ24.mono hG171
  replace hrd31 := hrd31.mono hG171
  replace rd37 := rd37.mono hG171
  replace hrd39 := hrd39.mono hG171
  replace hrd46 := hrd46.mono hG171
  replace hrd53 := hrd53.mono hG171
  replace hrd60 := hrd60.mono hG171
  replace hZ67 := hZ67.mono hG171
  replace rd73 := rd73.mono hG171
  replace hrd74 := hrd74.mono hG171
  replace rd80 := rd80.mono hG171
  replace hrd81 := hrd81.mono hG171
  refine WL.v (Runs.pick rfl rfl rfl) rfl ?_
  refine WL.v (Runs.assign rfl) rfl ?_
  refine WL.nil (WN.thn (WC.ret ?_))
  exact ret1 rfl rfl ⟨_, hleF, rfl, (((((((((h33.drop 0).drop 0).drop 0).drop 0).drop 0).drop 0).drop 0).drop 0).drop 0)⟩
end Rc
end Go.Proofs.Ytanlminnobonnaa
