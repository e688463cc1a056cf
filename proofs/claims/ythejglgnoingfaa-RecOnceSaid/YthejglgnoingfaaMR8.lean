/- Walks of package rec: what records of each kind do; Apply. -/
import Derived.Test.YthejglgnoingfaaProg
import Derived.KernelRfl
import Derived.Test.YthejglgnoingfaaMBaseAH
import Derived.Test.YthejglgnoingfaaMR7
namespace Go.Proofs.Ythejglgnoingfaa
open Go Go.RowKit B
set_option linter.unusedVariables false
set_option linter.unusedSimpArgs false
namespace Rc

theorem inf90 : Inf Try.prog 90 (.agg #[.nilFunc]) 1 8 := by unfold Inf; kernel_rfl
theorem can36 : B.Can Try.prog 36 := ⟨_, Try.func36, by kernel_rfl, rfl⟩   -- roundhouse/rec.may
theorem can46 : B.Can Try.prog 46 := ⟨_, Try.func46, by kernel_rfl, rfl⟩   -- roundhouse/rec.copied
theorem can47 : B.Can Try.prog 47 := ⟨_, Try.func47, by kernel_rfl, rfl⟩   -- roundhouse/rec.changes
theorem can72 : B.Can Try.prog 72 := ⟨_, Try.func72, by kernel_rfl, rfl⟩   -- roundhouse/rec.prolog
theorem can73 : B.Can Try.prog 73 := ⟨_, Try.func73, by kernel_rfl, rfl⟩   -- roundhouse/rec.begins
theorem can74 : B.Can Try.prog 74 := ⟨_, Try.func74, by kernel_rfl, rfl⟩   -- roundhouse/rec.turns
theorem can75 : B.Can Try.prog 75 := ⟨_, Try.func75, by kernel_rfl, rfl⟩   -- roundhouse/rec.epilog
theorem can76 : B.Can Try.prog 76 := ⟨_, Try.func76, by kernel_rfl, rfl⟩   -- roundhouse/rec.void
theorem can87 : B.Can Try.prog 87 := ⟨_, Try.func87, by kernel_rfl, rfl⟩   -- roundhouse/rec.begins$1
theorem can93 : B.Can Try.prog 93 := ⟨_, Try.func93, by kernel_rfl, rfl⟩   -- roundhouse/rec.turns$1
abbrev LM (x1 x2 x3 x4 x5 x6 x7 x8 : Nat) : List (Int × Value) := [(0, .agg #[.func (.func 72) #[] #[]]), (1, .agg #[.func (.func 87) #[] #[.pointer (some ⟨x1, 0, none⟩)]]), (2, .agg #[.func (.func 87) #[] #[.pointer (some ⟨x2, 0, none⟩)]]), (3, .agg #[.func (.func 93) #[] #[.pointer (some ⟨x3, 0, none⟩), .pointer (some ⟨x4, 0, none⟩)]]), (4, .agg #[.func (.func 93) #[] #[.pointer (some ⟨x5, 0, none⟩), .pointer (some ⟨x6, 0, none⟩)]]), (5, .agg #[.func (.func 93) #[] #[.pointer (some ⟨x7, 0, none⟩), .pointer (some ⟨x8, 0, none⟩)]]), (6, .agg #[.func (.func 75) #[] #[]]), (7, .agg #[.func (.func 76) #[] #[]])]
structure Boxes (G : Snap) (x1 x2 x3 x4 x5 x6 x7 x8 : Nat) : Prop where
  x1 : G x1 = some (.cells #[Vi 0] 3 (0, 0))
  x2 : G x2 = some (.cells #[Vi 2] 3 (0, 0))
  x3 : G x3 = some (.cells #[Vi 0] 3 (0, 0))
  x4 : G x4 = some (.cells #[Vi 1] 3 (0, 0))
  x5 : G x5 = some (.cells #[Vi 0] 3 (0, 0))
  x6 : G x6 = some (.cells #[Vi 2] 3 (0, 0))
  x7 : G x7 = some (.cells #[Vi 1] 3 (0, 0))
  x8 : G x8 = some (.cells #[Vi 3] 3 (0, 0))
theorem Boxes.mono {G H : Snap} {x1 x2 x3 x4 x5 x6 x7 x8 : Nat} (hle : Le G H) (h : Boxes G x1 x2 x3 x4 x5 x6 x7 x8) : Boxes H x1 x2 x3 x4 x5 x6 x7 x8 := ⟨hle _ _ h.x1, hle _ _ h.x2, hle _ _ h.x3, hle _ _ h.x4, hle _ _ h.x5, hle _ _ h.x6, hle _ _ h.x7, hle _ _ h.x8⟩
theorem doM_err {z : Z} {r : R} (h : (doM z r).2 ≠ 0) : (doM z r).1 = z := by
  revert h
  unfold doM prologM beginsM turnsM epilogM voidM
  repeat' split
  all_goals first | (intro _; rfl) | (intro h; exact absurd rfl h)
theorem apply_err {z : Z} {r : R} (h : (applyM z r).2 ≠ 0) : (applyM z r).1 = z := by
  revert h
  unfold applyM
  split
  · exact doM_err
  · intro _; rfl
theorem apply_no {z : Z} {r : R} (h : ¬ okR r) : applyM z r = (z, 1) := if_neg h
theorem apply_ok {z : Z} {r : R} (h : okR r) : applyM z r = doM z r := if_pos h
/-- what a record's kind says is called -/
def Does (G : Snap) (W : World) (g : FuncId) (cl : List Value) (r : R) : Prop :=
  ∀ (F : Snap) (_ : Le G F) (cs : List Res) (w : World) (rj rs : Res) (AJ AS : Option Addr) (cj cS bs : Nat) (z : Z) (Al : Option Addr) (c1 : Nat) (_ : RdS (Kd.one Vi) F Al r.ls) (_ : r.ls.length ≤ 100000) (_ : OS F rj rs AJ AS cj cS z) (_ : few z) (_ : St W F (sbk bs AJ AS cj cS z :: rj :: rs :: cs) w),
    Calls Try.prog g (.pointer (some ⟨bs, 0, none⟩) :: .agg #[Vi r.kd, Vi r.jb, Vi r.ep, Vi r.st, Vi r.ar, .slice Al r.ls.length c1] :: cl).toArray w fun e w' => Did W F cs bs (doM z r) e w'
theorem does_c {G : Snap} {W : World} {x1 x2 x3 x4 x5 x6 x7 x8 : Nat} (hb : Boxes G x1 x2 x3 x4 x5 x6 x7 x8) {r : R} (hk : 0 ≤ r.kd ∧ r.kd ≤ 7) : ∃ g cl, ((mfind r.kd (LM x1 x2 x3 x4 x5 x6 x7 x8) 0).map (·.2)).getD (.agg #[.nilFunc]) = .agg #[.func (.func g) #[] cl.toArray] ∧ B.Can Try.prog g ∧ Does G W g cl r := by
  have h8 : r.kd = 0 ∨ r.kd = 1 ∨ r.kd = 2 ∨ r.kd = 3 ∨ r.kd = 4 ∨ r.kd = 5 ∨ r.kd = 6 ∨ r.kd = 7 := by omega
  rcases h8 with e | e | e | e | e | e | e | e
  · refine ⟨72, [], by rw [e]; rfl, can72, fun F hle cs w rj rs AJ AS cj cS bs z Al c1 hl hn hO hz h => ?_⟩
    rw [show doM _ r = prologM _ r from by unfold doM; simp only [e]; rfl]
    exact prolog_c _ hl hn hO hz h
  · refine ⟨87, [.pointer (some ⟨x1, 0, none⟩)], by rw [e]; rfl, can87, fun F hle cs w rj rs AJ AS cj cS bs z Al c1 hl hn hO hz h => ?_⟩
    rw [show doM _ r = beginsM _ r 0 from by unfold doM; simp only [e]; rfl]
    exact begins_c _ hl hn hO hz h (hle _ _ hb.x1)
  · refine ⟨87, [.pointer (some ⟨x2, 0, none⟩)], by rw [e]; rfl, can87, fun F hle cs w rj rs AJ AS cj cS bs z Al c1 hl hn hO hz h => ?_⟩
    rw [show doM _ r = beginsM _ r 2 from by unfold doM; simp only [e]; rfl]
    exact begins_c _ hl hn hO hz h (hle _ _ hb.x2)
  · refine ⟨93, [.pointer (some ⟨x3, 0, none⟩), .pointer (some ⟨x4, 0, none⟩)], by rw [e]; rfl, can93, fun F hle cs w rj rs AJ AS cj cS bs z Al c1 hl hn hO hz h => ?_⟩
    rw [show doM _ r = turnsM _ r 0 1 from by unfold doM; simp only [e]; rfl]
    exact turns_c _ hl hn hO hz h (hle _ _ hb.x3) (hle _ _ hb.x4)
  · refine ⟨93, [.pointer (some ⟨x5, 0, none⟩), .pointer (some ⟨x6, 0, none⟩)], by rw [e]; rfl, can93, fun F hle cs w rj rs AJ AS cj cS bs z Al c1 hl hn hO hz h => ?_⟩
    rw [show doM _ r = turnsM _ r 0 2 from by unfold doM; simp only [e]; rfl]
    exact turns_c _ hl hn hO hz h (hle _ _ hb.x5) (hle _ _ hb.x6)
  · refine ⟨93, [.pointer (some ⟨x7, 0, none⟩), .pointer (some ⟨x8, 0, none⟩)], by rw [e]; rfl, can93, fun F hle cs w rj rs AJ AS cj cS bs z Al c1 hl hn hO hz h => ?_⟩
    rw [show doM _ r = turnsM _ r 1 3 from by unfold doM; simp only [e]; rfl]
    exact turns_c _ hl hn hO hz h (hle _ _ hb.x7) (hle _ _ hb.x8)
  · refine ⟨75, [], by rw [e]; rfl, can75, fun F hle cs w rj rs AJ AS cj cS bs z Al c1 hl hn hO hz h => ?_⟩
    rw [show doM _ r = epilogM _ r from by unfold doM; simp only [e]; rfl]
    exact epilog_c _ hl hn hO hz h
  · refine ⟨76, [], by rw [e]; rfl, can76, fun F hle cs w rj rs AJ AS cj cS bs z Al c1 hl hn hO hz h => ?_⟩
    rw [show doM _ r = voidM _ r from by unfold doM; simp only [e]; rfl]
    exact void_c _ hl hn hO hz h

set_option maxRecDepth 100000 in
set_option maxHeartbeats 1000000 in
theorem begins0_c {W : World} {F : Snap} {cs : List Res} (w : World) (ph : Int) (h : St W F cs w) : Calls Try.prog 73 #[Vi ph] w fun e w' => ∃ b G, Le F G ∧ e = .returned (.agg #[.func (.func 87) #[] #[.pointer (some ⟨b, 0, none⟩)]]) ∧ G b = some (.cells #[Vi ph] 3 (0, 0)) ∧ St W G cs w'  := by
  refine enter (P := Try.prog) (args := [Vi ph]) Try.func73 rfl rfl rfl ?_
  refine WC.seq (WC.reg ?_)
  refine WL.box rfl h rfl ?_
  intro b1 w1 h1
  refine WL.alloc' rfl h1 inf90 ?_
  intro b2 w2 h2
  refine WL.nil (WN.thn (WC.seq (WC.reg ?_)))
  refine WL.v (Runs.makeFunc rfl rfl) rfl ?_
  refine WL.v (Runs.build (vs := [(0, .func (.func 87) #[] #[.pointer (some ⟨b1, 0, none⟩)])]) (cells := #[.func (.func 87) #[] #[.pointer (some ⟨b1, 0, none⟩)]]) rfl (by kernel_rfl)) rfl ?_
  refine WL.storeAll h2 0 rfl rfl rfl inf90 rfl rfl rfl (Free.zero _) ?_
  intro  w3 h3
  try simp only [lz, ls, ez, es'] at h3
  refine WL.nil (WN.thn (WC.ret ?_))
  obtain ⟨G1, hG1, gf1, hS1⟩ := h3.freeze (i := 1) rfl
  refine retA rfl (ResOk.blk h3 0 rfl Try.underlying90 rfl inf90 rfl rfl) ⟨_, G1, hG1, rfl, gf1 _ List.mem_cons_self, hS1.drop 0⟩
set_option maxRecDepth 100000 in
set_option maxHeartbeats 1000000 in
theorem turns0_c {W : World} {F : Snap} {cs : List Res} (w : World) (fr to : Int) (h : St W F cs w) : Calls Try.prog 74 #[Vi fr, Vi to] w fun e w' => ∃ b c G, Le F G ∧ e = .returned (.agg #[.func (.func 93) #[] #[.pointer (some ⟨b, 0, none⟩), .pointer (some ⟨c, 0, none⟩)]]) ∧ G b = some (.cells #[Vi fr] 3 (0, 0)) ∧ G c = some (.cells #[Vi to] 3 (0, 0)) ∧ St W G cs w'  := by
  refine enter (P := Try.prog) (args := [Vi fr, Vi to]) Try.func74 rfl rfl rfl ?_
  refine WC.seq (WC.reg ?_)
  refine WL.box rfl h rfl ?_
  intro b2 w1 h1
  refine WL.box rfl h1 rfl ?_
  intro b3 w2 h2
  refine WL.alloc' rfl h2 inf90 ?_
  intro b4 w3 h3
  refine WL.nil (WN.thn (WC.seq (WC.reg ?_)))
  refine WL.v (Runs.makeFunc rfl rfl) rfl ?_
  refine WL.v (Runs.build (vs := [(0, .func (.func 93) #[] #[.pointer (some ⟨b2, 0, none⟩), .pointer (some ⟨b3, 0, none⟩)])]) (cells := #[.func (.func 93) #[] #[.pointer (some ⟨b2, 0, none⟩), .pointer (some ⟨b3, 0, none⟩)]]) rfl (by kernel_rfl)) rfl ?_
  refine WL.storeAll h3 0 rfl rfl rfl inf90 rfl rfl rfl (Free.zero _) ?_
  intro  w4 h4
  try simp only [lz, ls, ez, es'] at h4
  refine WL.nil (WN.thn (WC.ret ?_))
  obtain ⟨G1, hG1, gf1, hS1⟩ := h4.freeze (i := 1) rfl
  obtain ⟨G2, hG2, gf2, hS2⟩ := hS1.freeze (i := 1) rfl
  refine retA rfl (ResOk.blk h4 0 rfl Try.underlying90 rfl inf90 rfl rfl) ⟨_, _, G2, Le.trans hG1 hG2, rfl, gf2 _ List.mem_cons_self, hG2 _ _ (gf1 _ List.mem_cons_self), hS2.drop 0⟩
set_option maxRecDepth 100000 in
set_option maxHeartbeats 1000000 in
theorem changes_c {W : World} {F : Snap} {cs : List Res} (w : World) (h : St W F cs w) : Calls Try.prog 47 #[] w fun e w' => ∃ G m x1 x2 x3 x4 x5 x6 x7 x8, Le F G ∧ e = .returned (.map (some m)) ∧ Boxes G x1 x2 x3 x4 x5 x6 x7 x8 ∧ St W G ([(m, mobj (LM x1 x2 x3 x4 x5 x6 x7 x8))] :: cs) w'  := by
  refine enter (P := Try.prog) (args := []) Try.func47 rfl rfl rfl ?_
  have hleF := Le.refl F
  refine WC.seq (WC.reg ?_)
  refine WL.v (Runs.assign rfl) rfl ?_
  refine WL.nil (WN.thn (WC.seq (WC.reg ?_)))
  refine WL.makeMap rfl h ?_
  intro m1 w1 h1
  refine WL.v (Runs.build (vs := [(0, .func (.func 72) #[] #[])]) (cells := #[.func (.func 72) #[] #[]]) rfl (by kernel_rfl)) rfl ?_
  refine WL.insert h1 0 rfl Try.underlying91 Try.underlying3 rfl rfl rfl ?_
  intro  w2 h2
  try simp only [lz, ls, ez, es'] at h2
  refine WL.call can73 rfl rfl (begins0_c _ 0 h2) ?_
  rintro _ w3 ⟨x1, G3, hG3, rfl, hfzx1, h3⟩
  refine ⟨_, rfl, ?_⟩
  replace hleF := Le.trans hleF hG3
  refine WL.insert h3 0 rfl Try.underlying91 Try.underlying3 rfl rfl rfl ?_
  intro  w4 h4
  try simp only [lz, ls, ez, es'] at h4
  refine WL.call can73 rfl rfl (begins0_c _ 2 h4) ?_
  rintro _ w5 ⟨x2, G5, hG5, rfl, hfzx2, h5⟩
  refine ⟨_, rfl, ?_⟩
  replace hleF := Le.trans hleF hG5
  replace hfzx1 := hG5 _ _ hfzx1
  refine WL.insert h5 0 rfl Try.underlying91 Try.underlying3 rfl rfl rfl ?_
  intro  w6 h6
  try simp only [lz, ls, ez, es'] at h6
  refine WL.call can74 rfl rfl (turns0_c _ 0 1 h6) ?_
  rintro _ w7 ⟨x3, x4, G7, hG7, rfl, hfzx3, hfzx4, h7⟩
  refine ⟨_, rfl, ?_⟩
  replace hleF := Le.trans hleF hG7
  replace hfzx1 := hG7 _ _ hfzx1
  replace hfzx2 := hG7 _ _ hfzx2
  refine WL.insert h7 0 rfl Try.underlying91 Try.underlying3 rfl rfl rfl ?_
  intro  w8 h8
  try simp only [lz, ls, ez, es'] at h8
  refine WL.call can74 rfl rfl (turns0_c _ 0 2 h8) ?_
  rintro _ w9 ⟨x5, x6, G9, hG9, rfl, hfzx5, hfzx6, h9⟩
  refine ⟨_, rfl, ?_⟩
  replace hleF := Le.trans hleF hG9
  replace hfzx1 := hG9 _ _ hfzx1
  replace hfzx2 := hG9 _ _ hfzx2
  replace hfzx3 := hG9 _ _ hfzx3
  replace hfzx4 := hG9 _ _ hfzx4
  refine WL.insert h9 0 rfl Try.underlying91 Try.underlying3 rfl rfl rfl ?_
  intro  w10 h10
  try simp only [lz, ls, ez, es'] at h10
  refine WL.call can74 rfl rfl (turns0_c _ 1 3 h10) ?_
  rintro _ w11 ⟨x7, x8, G11, hG11, rfl, hfzx7, hfzx8, h11⟩
  refine ⟨_, rfl, ?_⟩
  replace hleF := Le.trans hleF hG11
  replace hfzx1 := hG11 _ _ hfzx1
  replace hfzx2 := hG11 _ _ hfzx2
  replace hfzx3 := hG11 _ _ hfzx3
  replace hfzx4 := hG11 _ _ hfzx4
  replace hfzx5 := hG11 _ _ hfzx5
  replace hfzx6 := hG11 _ _ hfzx6
  refine WL.insert h11 0 rfl Try.underlying91 Try.underlying3 rfl rfl rfl ?_
  intro  w12 h12
  try simp only [lz, ls, ez, es'] at h12
  refine WL.v (Runs.build (vs := [(0, .func (.func 75) #[] #[])]) (cells := #[.func (.func 75) #[] #[]]) rfl (by kernel_rfl)) rfl ?_
  refine WL.insert h12 0 rfl Try.underlying91 Try.underlying3 rfl rfl rfl ?_
  intro  w13 h13
  try simp only [lz, ls, ez, es'] at h13
  refine WL.v (Runs.build (vs := [(0, .func (.func 76) #[] #[])]) (cells := #[.func (.func 76) #[] #[]]) rfl (by kernel_rfl)) rfl ?_
  refine WL.insert h13 0 rfl Try.underlying91 Try.underlying3 rfl rfl rfl ?_
  intro  w14 h14
  try simp only [lz, ls, ez, es'] at h14
  refine WL.v (Runs.move rfl) rfl ?_
  refine WL.v (Runs.assign rfl) rfl ?_
  refine WL.nil (WN.thn (WC.ret ?_))
  exact ret1 rfl rfl ⟨_, _, x1, x2, x3, x4, x5, x6, x7, x8, hleF, rfl, ⟨hfzx1, hfzx2, hfzx3, hfzx4, hfzx5, hfzx6, hfzx7, hfzx8⟩, h14⟩
set_option maxRecDepth 100000 in
set_option maxHeartbeats 4000000 in
theorem apply_c {W : World} {F : Snap} {cs : List Res} (w : World) {AJ AS : Option Addr} {cj cS : Nat} {z : Z} {Al : Option Addr} {cl : Nat} {r : R} (hl : RdS (Kd.one Vi) F Al r.ls) (hn : r.ls.length ≤ 100000) (hz : few z) (hR : ZR F AJ AS z) (h : St W F cs w) : Calls Try.prog 18 #[.agg #[.slice AJ z.js.length cj, .slice AS z.ss.length cS, .bool z.dr], .agg #[Vi r.kd, Vi r.jb, Vi r.ep, Vi r.st, Vi r.ar, .slice Al r.ls.length cl]] w fun e w' => ∃ G AJ AS cj cS, Le F G ∧ e = .returned (.tuple #[.agg #[.slice AJ ((applyM z r).1).js.length cj, .slice AS ((applyM z r).1).ss.length cS, .bool ((applyM z r).1).dr], Vi (applyM z r).2]) ∧ ZR G AJ AS (applyM z r).1 ∧ St W G cs w'  := by
  refine enter (P := Try.prog) (args := [.agg #[.slice AJ z.js.length cj, .slice AS z.ss.length cS, .bool z.dr], .agg #[Vi r.kd, Vi r.jb, Vi r.ep, Vi r.st, Vi r.ar, .slice Al r.ls.length cl]]) Try.func18 rfl rfl rfl ?_
  have hleF := Le.refl F
  refine WC.seq (WC.reg ?_)
  refine WL.box rfl h rfl ?_
  intro b2 w1 h1
  refine WL.box rfl h1 rfl ?_
  intro b3 w2 h2
  refine WL.alloc' rfl h2 inf40 ?_
  intro b4 w3 h3
  refine WL.v (Runs.assign rfl) rfl ?_
  refine WL.nil (WN.thn (WC.seq (WC.seq (WC.reg ?_))))
  refine WL.v (Runs.loadAll h3 1 rfl Try.underlying24 rfl inf24 rfl rfl) rfl ?_
  refine WL.call can36 rfl rfl (may_c _ h3 hl hn) ?_
  rintro _ w4 ⟨rfl, h4⟩
  refine ⟨_, rfl, ?_⟩
  refine WL.v (Runs.not rfl) rfl ?_
  refine WL.nil (WN.thn ?_)
  refine WC.cond rfl (fun c5 => ?_) (fun c5 => ?_)
  · try simp only [dt, df, nt, nf, ba, il, ie] at c5
    first
    | (exfalso; omega)
    | skip
      refine WC.seq (WC.reg ?_)
      refine WL.v (Runs.loadAll h4 2 rfl Try.underlying40 rfl inf40 rfl rfl) rfl ?_
      refine WL.storeAll h4 0 rfl rfl rfl inf40 rfl rfl rfl (Free.zero _) ?_
      intro  w6 h6
      try simp only [lz, ls, ez, es'] at h6
      refine WL.v (Runs.assign rfl) rfl ?_
      refine WL.nil (WN.thn (WC.ret ?_))
      refine retB rfl (ResOk.blk h6 0 rfl Try.underlying40 rfl inf40 rfl rfl) (show lk _ _ = _ from rfl) ⟨F, AJ, AS, cj, cS, Le.refl F, by rw [apply_no (by simpa using c5)] <;> rfl, by rw [apply_no (by simpa using c5)]; exact hR, ((h6.drop 0).drop 0).drop 0⟩
  · try simp only [dt, df, nt, nf, ba, il, ie] at c5
    first
    | (exfalso; omega)
    | skip
      refine WC.skip (WN.thn (WC.seq ?_))
      have hok : okR r := by simpa using c5
      refine WC.reg ?_
      refine WL.v (Runs.loadAll h4 2 rfl Try.underlying40 rfl inf40 rfl rfl) rfl ?_
      refine WL.call can46 rfl rfl (copied_c _ hz h4 hR) ?_
      rintro _ w7 ⟨rj, rs, AJ1, AS1, cj1, cS1, rfl, hO, h7⟩
      refine ⟨_, rfl, ?_⟩
      refine WL.alloc' rfl h7 inf40 ?_
      intro b6 w8 h8
      refine WL.storeAll h8 0 rfl rfl rfl inf40 rfl rfl rfl (Free.zero _) ?_
      intro  w9 h9
      try simp only [lz, ls, ez, es'] at h9
      refine WL.nil (WN.thn (WC.seq (WC.seq ?_)))
      refine WC.eregK h9 (((h9.drop 2).drop 1).drop 0) (fun s_ => ([] : List Nat).any (Nat.beq s_)) mixed (by kernel_rfl) (fun hx => ?_)
      intro w10 h10
      refine WE.p0 hx 1 (by rfl) (fun w_ => Runs.fld fld24_0 rfl) rfl ?_
      refine WE.v0 12 hx 2 (by rfl) (fun w_ hE_ => Runs.load1 Try.underlying3 rfl rfl (hE_.ocell (i := 1) rfl rfl)) rfl ?_
      refine WE.v0 12 hx 5 (by rfl) (fun w_ hE_ => Runs.loadAll hE_ 1 rfl Try.underlying24 rfl inf24 rfl rfl) rfl ?_
      refine WE.op (.inr (((h10.drop 2).drop 1).drop 0)) (i := 0) (by rfl) (by kernel_rfl) ?_
      refine WL.call can47 rfl rfl (changes_c _ h10) ?_
      rintro _ w11 ⟨G11, m11, x1, x2, x3, x4, x5, x6, x7, x8, hG11, rfl, hbx, h11⟩
      refine ⟨_, rfl, ?_⟩
      replace hleF := Le.trans hleF hG11
      replace hR := hR.mono hG11
      replace hl := hl.mono hG11
      replace hO := hO.mono hG11
      obtain ⟨g, cl9, hlk, hcan, hdoes⟩ := does_c (W := W) hbx (r := r) hok.2.1
      refine WL.nil (WE.next ?_)
      refine WE.op (.inr (((((h11.weak hG11).drop 3).drop 2).drop 1).drop 0)) (i := 3) (by rfl) (by kernel_rfl) ?_
      refine WL.v (Runs.valT (u := .agg #[.func (.func g) #[] cl9.toArray]) (Runs.lookup1 h11 0 rfl Try.underlying91 Try.underlying3 inf90 rfl rfl) hlk) rfl ?_
      refine WL.nil (WE.next ?_)
      refine WE.p0 hx 4 (by rfl) (fun w_ => Runs.field1 (off := 0) (by kernel_rfl) rfl rfl) rfl ?_
      refine WE.op (.inr (((((h11.weak hG11).drop 3).drop 2).drop 1).drop 0)) (i := 6) (by rfl) (by kernel_rfl) ?_
      refine WL.callv hcan rfl rfl rfl (hdoes _ (Le.refl _) _ _ _ _ _ _ _ _ _ _ _ _ hl hn hO hz (h11.drop 0)) ?_
      rintro _ w12 ⟨G20, rj2, rs2, AJ2, AS2, cj2, cS2, hG20, rfl, hO2, h12⟩
      refine ⟨_, rfl, ?_⟩
      replace hleF := Le.trans hleF hG20
      replace hR := hR.mono hG20
      replace hl := hl.mono hG20
      replace hO := hO.mono hG20
      replace hbx := hbx.mono hG20
      refine WL.nil (WE.next ?_)
      refine WE.p0 hx 7 (by rfl) (fun w_ => Runs.assign rfl) rfl ?_
      refine WE.fin (.inr ((((h12.weak (Le.trans hG11 hG20)).drop 2).drop 1).drop 0)) (by kernel_rfl) ?_
      refine WN.thn (WC.seq (WC.reg ?_))
      refine WL.v (Runs.move rfl) rfl ?_
      refine WL.v (Runs.neq rfl rfl) rfl ?_
      refine WL.nil (WN.thn ?_)
      refine WC.cond rfl (fun c13 => ?_) (fun c13 => ?_)
      · try simp only [dt, df, nt, nf, ba, il, ie] at c13
        first
        | (exfalso; omega)
        | skip
          refine WC.seq (WC.reg ?_)
          refine WL.v (Runs.loadAll h12 5 rfl Try.underlying40 rfl inf40 rfl rfl) rfl ?_
          refine WL.v (Runs.move rfl) rfl ?_
          refine WL.storeAll h12 3 rfl rfl rfl inf40 rfl rfl rfl (Free.zero _) ?_
          intro  w14 h14
          try simp only [lz, ls, ez, es'] at h14
          refine WL.v (Runs.assign rfl) rfl ?_
          refine WL.nil (WN.thn (WC.ret ?_))
          refine retB rfl (ResOk.blk h14 3 rfl Try.underlying40 rfl inf40 rfl rfl) (show lk _ _ = _ from rfl) ⟨_, AJ, AS, cj, cS, hleF, by rw [apply_ok hok, doM_err c13] <;> rfl, by rw [apply_ok hok, doM_err c13]; exact hR, ((((((h14.drop 0).drop 0).drop 0).drop 0).drop 0).drop 0)⟩
      · try simp only [dt, df, nt, nf, ba, il, ie] at c13
        first
        | (exfalso; omega)
        | skip
          refine WC.skip (WN.thn (WC.seq (WC.reg ?_)))
          refine WL.v (Runs.loadAll h12 0 rfl Try.underlying40 rfl inf40 rfl rfl) rfl ?_
          refine WL.storeAll h12 3 rfl rfl rfl inf40 rfl rfl rfl (Free.zero _) ?_
          intro  w15 h15
          try simp only [lz, ls, ez, es'] at h15
          refine WL.v (Runs.assign rfl) rfl ?_
          refine WL.nil (WN.thn (WC.ret ?_))
          obtain ⟨G9, hG9, hZ9, hS9⟩ := hO2.still (cs := _) (h15.drop 0)
          refine retB rfl (ResOk.blk h15 3 rfl Try.underlying40 rfl inf40 rfl rfl) (show lk _ _ = _ from rfl) ⟨G9, AJ2, AS2, cj2, cS2, Le.trans hleF hG9, by rw [apply_ok hok, show (doM z r).2 = 0 by simpa using c13] <;> rfl, by rw [apply_ok hok]; exact hZ9, ((hS9.drop 0).drop 0).drop 0⟩
end Rc
end Go.Proofs.Ythejglgnoingfaa
