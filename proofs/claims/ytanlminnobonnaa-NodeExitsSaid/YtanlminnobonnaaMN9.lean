/- The laws NodeDecides, NodeExits, NodeAsks. -/
import Derived.Test.YtanlminnobonnaaProg
import Derived.KernelRfl
import Derived.Test.YtanlminnobonnaaMBaseAH
import Derived.Test.YtanlminnobonnaaMN8
namespace Go.Proofs.Ytanlminnobonnaa
open Go Go.RowKit B
set_option linter.unusedVariables false
set_option linter.unusedSimpArgs false
namespace Rc

theorem inf33 : Inf Try.prog 33 (.agg #[.int .i64 0, .slice none 0 0, .slice none 0 0, .bool false, .int .i64 0, .int .i64 0, .int .i64 0, .int .i64 0, .int .i64 0, .int .i64 0, .int .i64 0, .string ⟨#[]⟩, .int .i64 0, .slice none 0 0, .int .i64 0, .bool false]) 16 184 := by unfold Inf; kernel_rfl
theorem fld33_0 : fldB Try.prog 33 0 0 = true := by kernel_rfl
theorem fld33_2 : fldB Try.prog 33 2 4 = true := by kernel_rfl
theorem can9 : B.Can Try.prog 9 := ⟨_, Try.func9, by kernel_rfl, rfl⟩   -- roundhouse/roundhouselaw16.small
theorem can10 : B.Can Try.prog 10 := ⟨_, Try.func10, by kernel_rfl, rfl⟩   -- roundhouse/roundhouselaw16.live
theorem can12 : B.Can Try.prog 12 := ⟨_, Try.func12, by kernel_rfl, rfl⟩   -- roundhouse/roundhouselaw16.own
theorem can13 : B.Can Try.prog 13 := ⟨_, Try.func13, by kernel_rfl, rfl⟩   -- roundhouse/roundhouselaw16.facts
theorem can14 : B.Can Try.prog 14 := ⟨_, Try.func14, by kernel_rfl, rfl⟩   -- roundhouse/roundhouseref16.Decide
theorem can15 : B.Can Try.prog 15 := ⟨_, Try.func15, by kernel_rfl, rfl⟩   -- roundhouse/roundhouseref16.Same
theorem can16 : B.Can Try.prog 16 := ⟨_, Try.func16, by kernel_rfl, rfl⟩   -- roundhouse/roundhouselaw16.told
theorem can18 : B.Can Try.prog 18 := ⟨_, Try.func18, by kernel_rfl, rfl⟩   -- roundhouse/roundhouseref16.Asks
theorem can20 : B.Can Try.prog 20 := ⟨_, Try.func20, by kernel_rfl, rfl⟩   -- roundhouse/roundhouseref16.Exit
theorem decide_few {id : Int} {z : Z} {m : M} {f : Fc} : (decideM id z m f).1.rc.ls.length ≤ f.ps.length := by
  unfold decideM prologA launchA releaseA abortA finishA
  repeat' split
  all_goals first | exact Nat.zero_le _ | exact Nat.le_refl _
theorem exit_few {id : Int} {z : Z} {r : R} {c : List Int} : (exitM id z r c).1.rc.ls.length = 0 := by
  unfold exitM
  repeat' split
  all_goals rfl
def atR (m : M) : R := { R0 with jb := m.jb, ep := m.ep, st := m.st }
set_option maxRecDepth 100000 in
set_option maxHeartbeats 16000000 in
theorem decides_law {W : World} {F : Snap} {cs : List Res} (w : World) {AJ AS : Option Addr} {cj cS : Nat} {z : Z} {m : M} {Ap : Option Addr} {cp : Nat} {f : Fc} {id : Int} (h : St W F cs w) (hR : ZR F AJ AS z) (hls : z.ss.length ≤ 9223372036854775807) (hf : RdS (Kd.one Vi) F Ap f.ps) : Calls Try.prog 3 #[.agg #[Vi id, .slice AJ z.js.length cj, .slice AS z.ss.length cS, .bool z.dr, Vi m.kd, Vi m.fr, Vi m.to, Vi m.jb, Vi m.ep, Vi m.st, Vi m.ar, .string m.tx, Vi f.cr, .slice Ap f.ps.length cp, Vi f.cd, .bool f.bz]] w fun e w' => e = .returned (.bool true) ∧ St W F cs w'  := by
  refine enter (P := Try.prog) (args := [.agg #[Vi id, .slice AJ z.js.length cj, .slice AS z.ss.length cS, .bool z.dr, Vi m.kd, Vi m.fr, Vi m.to, Vi m.jb, Vi m.ep, Vi m.st, Vi m.ar, .string m.tx, Vi f.cr, .slice Ap f.ps.length cp, Vi f.cd, .bool f.bz]]) Try.func3 rfl rfl rfl ?_
  have hleF := Le.refl F
  refine WC.seq (WC.reg ?_)
  refine WL.box rfl h rfl ?_
  intro b1 w1 h1
  refine WL.v (Runs.assign rfl) rfl ?_
  refine WL.nil (WN.thn (WC.seq (WC.seq ?_)))
  by_cases hs : smallZ z ∧ f.ps.length ≤ 40
  · have hz := hs.1.few
    have hfn : f.ps.length ≤ 100000 := by omega
    refine WC.reg ?_
    refine WL.v (Runs.loadAll h1 0 rfl Try.underlying33 rfl inf33 rfl rfl) rfl ?_
    refine WL.call can9 rfl rfl (small_c _ h1 hR.s hls) ?_
    rintro _ w2 ⟨rfl, h2⟩
    refine ⟨_, rfl, ?_⟩
    refine WL.v (Runs.boolT (c := false) (Runs.not rfl) (by rw [decide_eq_true hs.1, decide_eq_true hs.2]; rfl)) rfl ?_
    refine WL.nil (WN.thn ?_)
    refine WC.condF rfl (rfl) ?_
    refine WC.skip (WN.thn (WC.seq ?_))
    refine WC.cutT (σ := Nat × Snap × Option Addr × Nat) (fun q_ => [(1, .pointer (some ⟨b1, 0, none⟩)), (3, .pointer (some ⟨q_.1, 0, none⟩)), (4, Vi (decideM id z m f).2)]) (fun q_ w => Le F q_.2.1 ∧ RdS (Kd.one Vi) q_.2.1 q_.2.2.1 (decideM id z m f).1.rc.ls ∧ St W q_.2.1 ([(q_.1, .cells (acv q_.2.2.1 q_.2.2.2 (decideM id z m f).1) 39 (0, 0))] :: [(b1, .cells #[Vi id, .slice AJ z.js.length cj, .slice AS z.ss.length cS, .bool z.dr, Vi m.kd, Vi m.fr, Vi m.to, Vi m.jb, Vi m.ep, Vi m.st, Vi m.ar, .string m.tx, Vi f.cr, .slice Ap f.ps.length cp, Vi f.cd, .bool f.bz] 33 (0, 0))] :: cs) w) ?_ ?_
    · skip
      refine WC.eregK h2 h2 (fun s_ => ([15] : List Nat).any (Nat.beq s_)) mixed (by kernel_rfl) (fun hx => ?_)
      intro w3 h3
      refine WE.p0 hx 0 (by rfl) (fun w_ => Runs.fld fld33_0 rfl) rfl ?_
      refine WE.p0 hx 2 (by rfl) (fun w_ => Runs.fld fld33_1 rfl) rfl ?_
      refine WE.p0 hx 5 (by rfl) (fun w_ => Runs.fld fld33_2 rfl) rfl ?_
      refine WE.p0 hx 7 (by rfl) (fun w_ => Runs.fld fld33_3 rfl) rfl ?_
      refine WE.v0 12 hx 1 (by rfl) (fun w_ hE_ => Runs.load1 Try.underlying3 rfl rfl (hE_.ocell (i := 0) rfl rfl)) rfl ?_
      refine WE.v0 12 hx 3 (by rfl) (fun w_ hE_ => Runs.loadPart (vs := #[.slice AJ z.js.length cj, .slice AS z.ss.length cS, .bool z.dr]) hE_ 0 rfl Try.underlying25 rfl inf25 rfl (by kernel_rfl) rfl) rfl ?_
      refine WE.v0 12 hx 6 (by rfl) (fun w_ hE_ => Runs.loadPart (vs := #[Vi m.kd, Vi m.fr, Vi m.to, Vi m.jb, Vi m.ep, Vi m.st, Vi m.ar, .string m.tx]) hE_ 0 rfl Try.underlying27 rfl inf27 rfl (by kernel_rfl) rfl) rfl ?_
      refine WE.v0 12 hx 8 (by rfl) (fun w_ hE_ => Runs.loadPart (vs := #[Vi f.cr, .slice Ap f.ps.length cp, Vi f.cd, .bool f.bz]) hE_ 0 rfl Try.underlying31 rfl inf31 rfl (by kernel_rfl) rfl) rfl ?_
      refine WE.op2 (.inr h3) (i := 4) (j := 14) (by rfl) (by rfl) (by kernel_rfl) ?_ ?_
      · skip
        refine WL.call can12 rfl rfl (own_c _ hz hR h3) ?_
        rintro _ w4 ⟨G16, AJ16, AS16, cj16, cS16, hG16, rfl, hZ16, h4⟩
        refine ⟨_, rfl, ?_⟩
        replace hleF := Le.trans hleF hG16
        replace hR := hR.mono hG16
        replace hf := hf.mono hG16
        refine WL.nil (WE.next ?_)
        refine WE.op2 (.inr (h4.weak hG16)) (i := 9) (j := 14) (by rfl) (by rfl) (by kernel_rfl) ?_ ?_
        · skip
          refine WL.call can13 rfl rfl (facts_c _ h4) ?_
          rintro _ w5 ⟨rfl, h5⟩
          refine ⟨_, rfl, ?_⟩
          refine WL.nil (WE.next ?_)
          refine WE.op2 (.inr (h5.weak hG16)) (i := 10) (j := 14) (by rfl) (by rfl) (by kernel_rfl) ?_ ?_
          · skip
            refine WL.call can11 rfl rfl (decide_c (m := m) _ id hz hZ16 hf hfn h5) ?_
            rintro _ w6 ⟨G22, A22, c22, hG22, rfl, hrd22, h6⟩
            refine ⟨_, rfl, ?_⟩
            replace hleF := Le.trans hleF hG22
            replace hR := hR.mono hG22
            replace hf := hf.mono hG22
            replace hZ16 := hZ16.mono hG22
            refine WL.nil (WE.next ?_)
            refine WE.p0 hx 11 (by rfl) (fun w_ => Runs.move rfl) rfl ?_
            refine WE.p0 hx 12 (by rfl) (fun w_ => Runs.extract rfl rfl) rfl ?_
            refine WE.p0 hx 13 (by rfl) (fun w_ => Runs.extract rfl rfl) rfl ?_
            refine WE.op (.inr (h6.weak (Le.trans hG16 hG22))) (i := 14) (by rfl) (by kernel_rfl) ?_
            refine WL.alloc' rfl h6 inf39 ?_
            intro b3 w7 h7
            refine WL.nil (WE.next ?_)
            refine WE.op (.inr ((h7.weak (Le.trans hG16 hG22)).drop 0)) (i := 15) (by rfl) (by kernel_rfl) ?_
            refine WL.storeAll h7 0 rfl rfl rfl inf39 rfl rfl rfl (Free.zero _) ?_
            intro  w8 h8
            try simp only [lz, ls, ez, es'] at h8
            refine WL.nil (WE.next ?_)
            refine WE.p0 hx 16 (by rfl) (fun w_ => Runs.assign rfl) rfl ?_
            refine WE.fin (.inl ⟨15, rfl, by kernel_rfl⟩) (by kernel_rfl) ?_
            exact WN.at_ (⟨b3, _, A22, c22⟩ : Nat × Snap × Option Addr × Nat) (by repeat (first | exact trivial | refine ⟨rfl, ?_⟩)) ⟨(Le.trans hG16 hG22), hrd22, h8⟩
          · skip
            refine WL.alloc' rfl h5 inf39 ?_
            intro b3 w9 h9
            refine WL.nil (WE.next ?_)
            refine WE.op (.inr ((h9.weak hG16).drop 0)) (i := 10) (by rfl) (by kernel_rfl) ?_
            refine WL.call can11 rfl rfl (decide_c (m := m) _ id hz hZ16 hf hfn h9) ?_
            rintro _ w10 ⟨G22, A22, c22, hG22, rfl, hrd22, h10⟩
            refine ⟨_, rfl, ?_⟩
            replace hleF := Le.trans hleF hG22
            replace hR := hR.mono hG22
            replace hf := hf.mono hG22
            replace hZ16 := hZ16.mono hG22
            refine WL.nil (WE.next ?_)
            refine WE.p0 hx 11 (by rfl) (fun w_ => Runs.move rfl) rfl ?_
            refine WE.p0 hx 12 (by rfl) (fun w_ => Runs.extract rfl rfl) rfl ?_
            refine WE.p0 hx 13 (by rfl) (fun w_ => Runs.extract rfl rfl) rfl ?_
            refine WE.op (.inr ((h10.weak (Le.trans hG16 hG22)).drop 0)) (i := 15) (by rfl) (by kernel_rfl) ?_
            refine WL.storeAll h10 0 rfl rfl rfl inf39 rfl rfl rfl (Free.zero _) ?_
            intro  w11 h11
            try simp only [lz, ls, ez, es'] at h11
            refine WL.nil (WE.next ?_)
            refine WE.p0 hx 16 (by rfl) (fun w_ => Runs.assign rfl) rfl ?_
            refine WE.fin (.inl ⟨15, rfl, by kernel_rfl⟩) (by kernel_rfl) ?_
            exact WN.at_ (⟨b3, _, A22, c22⟩ : Nat × Snap × Option Addr × Nat) (by repeat (first | exact trivial | refine ⟨rfl, ?_⟩)) ⟨(Le.trans hG16 hG22), hrd22, h11⟩
        · skip
          refine WL.alloc' rfl h4 inf39 ?_
          intro b3 w12 h12
          refine WL.nil (WE.next ?_)
          refine WE.op (.inr ((h12.weak hG16).drop 0)) (i := 9) (by rfl) (by kernel_rfl) ?_
          refine WL.call can13 rfl rfl (facts_c _ h12) ?_
          rintro _ w13 ⟨rfl, h13⟩
          refine ⟨_, rfl, ?_⟩
          refine WL.nil (WE.next ?_)
          refine WE.op (.inr ((h13.weak hG16).drop 0)) (i := 10) (by rfl) (by kernel_rfl) ?_
          refine WL.call can11 rfl rfl (decide_c (m := m) _ id hz hZ16 hf hfn h13) ?_
          rintro _ w14 ⟨G22, A22, c22, hG22, rfl, hrd22, h14⟩
          refine ⟨_, rfl, ?_⟩
          replace hleF := Le.trans hleF hG22
          replace hR := hR.mono hG22
          replace hf := hf.mono hG22
          replace hZ16 := hZ16.mono hG22
          refine WL.nil (WE.next ?_)
          refine WE.p0 hx 11 (by rfl) (fun w_ => Runs.move rfl) rfl ?_
          refine WE.p0 hx 12 (by rfl) (fun w_ => Runs.extract rfl rfl) rfl ?_
          refine WE.p0 hx 13 (by rfl) (fun w_ => Runs.extract rfl rfl) rfl ?_
          refine WE.op (.inr ((h14.weak (Le.trans hG16 hG22)).drop 0)) (i := 15) (by rfl) (by kernel_rfl) ?_
          refine WL.storeAll h14 0 rfl rfl rfl inf39 rfl rfl rfl (Free.zero _) ?_
          intro  w15 h15
          try simp only [lz, ls, ez, es'] at h15
          refine WL.nil (WE.next ?_)
          refine WE.p0 hx 16 (by rfl) (fun w_ => Runs.assign rfl) rfl ?_
          refine WE.fin (.inl ⟨15, rfl, by kernel_rfl⟩) (by kernel_rfl) ?_
          exact WN.at_ (⟨b3, _, A22, c22⟩ : Nat × Snap × Option Addr × Nat) (by repeat (first | exact trivial | refine ⟨rfl, ?_⟩)) ⟨(Le.trans hG16 hG22), hrd22, h15⟩
      · skip
        refine WL.alloc' rfl h3 inf39 ?_
        intro b3 w16 h16
        refine WL.nil (WE.next ?_)
        refine WE.op (.inr (h16.drop 0)) (i := 4) (by rfl) (by kernel_rfl) ?_
        refine WL.call can12 rfl rfl (own_c _ hz hR h16) ?_
        rintro _ w17 ⟨G16, AJ16, AS16, cj16, cS16, hG16, rfl, hZ16, h17⟩
        refine ⟨_, rfl, ?_⟩
        replace hleF := Le.trans hleF hG16
        replace hR := hR.mono hG16
        replace hf := hf.mono hG16
        refine WL.nil (WE.next ?_)
        refine WE.op (.inr ((h17.weak hG16).drop 0)) (i := 9) (by rfl) (by kernel_rfl) ?_
        refine WL.call can13 rfl rfl (facts_c _ h17) ?_
        rintro _ w18 ⟨rfl, h18⟩
        refine ⟨_, rfl, ?_⟩
        refine WL.nil (WE.next ?_)
        refine WE.op (.inr ((h18.weak hG16).drop 0)) (i := 10) (by rfl) (by kernel_rfl) ?_
        refine WL.call can11 rfl rfl (decide_c (m := m) _ id hz hZ16 hf hfn h18) ?_
        rintro _ w19 ⟨G22, A22, c22, hG22, rfl, hrd22, h19⟩
        refine ⟨_, rfl, ?_⟩
        replace hleF := Le.trans hleF hG22
        replace hR := hR.mono hG22
        replace hf := hf.mono hG22
        replace hZ16 := hZ16.mono hG22
        refine WL.nil (WE.next ?_)
        refine WE.p0 hx 11 (by rfl) (fun w_ => Runs.move rfl) rfl ?_
        refine WE.p0 hx 12 (by rfl) (fun w_ => Runs.extract rfl rfl) rfl ?_
        refine WE.p0 hx 13 (by rfl) (fun w_ => Runs.extract rfl rfl) rfl ?_
        refine WE.op (.inr ((h19.weak (Le.trans hG16 hG22)).drop 0)) (i := 15) (by rfl) (by kernel_rfl) ?_
        refine WL.storeAll h19 0 rfl rfl rfl inf39 rfl rfl rfl (Free.zero _) ?_
        intro  w20 h20
        try simp only [lz, ls, ez, es'] at h20
        refine WL.nil (WE.next ?_)
        refine WE.p0 hx 16 (by rfl) (fun w_ => Runs.assign rfl) rfl ?_
        refine WE.fin (.inl ⟨15, rfl, by kernel_rfl⟩) (by kernel_rfl) ?_
        exact WN.at_ (⟨b3, _, A22, c22⟩ : Nat × Snap × Option Addr × Nat) (by repeat (first | exact trivial | refine ⟨rfl, ?_⟩)) ⟨(Le.trans hG16 hG22), hrd22, h20⟩
    · rintro ⟨b3, G1, A22, c22⟩ w21 ⟨hleG1, hrd22, hL⟩
      dsimp only at hleG1 hrd22 hL
      replace hleF := Le.trans hleF hleG1
      replace hR := hR.mono hleG1
      replace hf := hf.mono hleG1
      refine WC.seq (WC.reg ?_)
      refine WL.v (Runs.fld fld33_0 rfl) rfl ?_
      refine WL.v (Runs.load1 Try.underlying3 rfl rfl (hL.ocell (i := 1) rfl rfl)) rfl ?_
      refine WL.v (Runs.fld fld33_1 rfl) rfl ?_
      refine WL.v (Runs.loadPart (vs := #[.slice AJ z.js.length cj, .slice AS z.ss.length cS, .bool z.dr]) hL 1 rfl Try.underlying25 rfl inf25 rfl (by kernel_rfl) rfl) rfl ?_
      refine WL.v (Runs.fld fld33_2 rfl) rfl ?_
      refine WL.v (Runs.loadPart (vs := #[Vi m.kd, Vi m.fr, Vi m.to, Vi m.jb, Vi m.ep, Vi m.st, Vi m.ar, .string m.tx]) hL 1 rfl Try.underlying27 rfl inf27 rfl (by kernel_rfl) rfl) rfl ?_
      refine WL.v (Runs.fld fld33_3 rfl) rfl ?_
      refine WL.v (Runs.loadPart (vs := #[Vi f.cr, .slice Ap f.ps.length cp, Vi f.cd, .bool f.bz]) hL 1 rfl Try.underlying31 rfl inf31 rfl (by kernel_rfl) rfl) rfl ?_
      refine WL.call can14 rfl rfl (qdecide_c (m := m) _ id hf hfn hz hR hL) ?_
      rintro _ w22 ⟨G34, A34, c34, hG34, rfl, hrd34, h22⟩
      refine ⟨_, rfl, ?_⟩
      replace hleF := Le.trans hleF hG34
      replace hR := hR.mono hG34
      replace hf := hf.mono hG34
      replace hrd22 := hrd22.mono hG34
      refine WL.v (Runs.move rfl) rfl ?_
      refine WL.v (Runs.extract rfl rfl) rfl ?_
      refine WL.v (Runs.extract rfl rfl) rfl ?_
      refine WL.alloc' rfl h22 inf49 ?_
      intro b5 w23 h23
      refine WL.storeAll h23 0 rfl rfl rfl inf49 rfl rfl rfl (Free.zero _) ?_
      intro  w24 h24
      try simp only [lz, ls, ez, es'] at h24
      refine WL.v (Runs.assign rfl) rfl ?_
      refine WL.nil (WN.thn (WC.seq ?_))
      refine WC.eregK h24 h24 (fun s_ => ([] : List Nat).any (Nat.beq s_)) mixed (by kernel_rfl) (fun hx => ?_)
      intro w25 h25
      refine WE.v0 12 hx 0 (by rfl) (fun w_ hE_ => Runs.loadAll hE_ 1 rfl Try.underlying39 rfl inf39 rfl rfl) rfl ?_
      refine WE.v0 12 hx 2 (by rfl) (fun w_ hE_ => Runs.loadAll hE_ 0 rfl Try.underlying49 rfl inf49 rfl rfl) rfl ?_
      refine WE.op (.inr h25) (i := 1) (by rfl) (by kernel_rfl) ?_
      refine WL.call can16 rfl rfl ((show Calls _ _ #[.agg (acv A22 c22 (decideM id z m f).1)] _ _ from told_c (a := (decideM id z m f).1) _ h25)) ?_
      rintro _ w26 ⟨rfl, h26⟩
      refine ⟨_, rfl, ?_⟩
      refine WL.nil (WE.next ?_)
      refine WE.op (.inr h26) (i := 3) (by rfl) (by kernel_rfl) ?_
      refine WL.call can15 rfl rfl ((show Calls _ _ #[.agg (acv A22 c22 (decideM id z m f).1), .agg (acv A34 c34 (decideM id z m f).1)] _ _ from same16_c (a := (decideM id z m f).1) _ hrd22 hrd34 (Nat.le_trans decide_few hfn) h26)) ?_
      rintro _ w27 ⟨rfl, h27⟩
      refine ⟨_, rfl, ?_⟩
      refine WL.nil (WE.next ?_)
      refine WE.p0 hx 4 (by rfl) (fun w_ => Runs.move rfl) rfl ?_
      refine WE.p1 (j := 4) (b := true) hx 5 (by rfl) ⟨_, _, rfl, rfl, rfl⟩ (fun w_ => Runs.move rfl) rfl ?_
      refine WE.p1 (j := 4) (b := true) hx 6 (by rfl) ⟨_, _, rfl, rfl, rfl⟩ (fun w_ => Runs.move rfl) rfl ?_
      refine WE.p1 (j := 4) (b := true) hx 7 (by rfl) ⟨_, _, rfl, rfl, rfl⟩ (fun w_ => Runs.boolT (c := true) (Runs.eql rfl rfl) (by simp)) rfl ?_
      refine WE.p0 hx 8 (by rfl) (fun w_ => Runs.pick rfl rfl rfl) rfl ?_
      refine WE.p0 hx 9 (by rfl) (fun w_ => Runs.move rfl) rfl ?_
      refine WE.p1 (j := 9) (b := true) hx 10 (by rfl) ⟨_, _, rfl, rfl, rfl⟩ (fun w_ => Runs.fld fld33_1 rfl) rfl ?_
      refine WE.p1 (j := 9) (b := true) hx 13 (by rfl) ⟨_, _, rfl, rfl, rfl⟩ (fun w_ => Runs.fld fld33_2 rfl) rfl ?_
      refine WE.p1 (j := 9) (b := true) hx 16 (by rfl) ⟨_, _, rfl, rfl, rfl⟩ (fun w_ => Runs.fld fld33_1 rfl) rfl ?_
      refine WE.p1 (j := 9) (b := true) hx 18 (by rfl) ⟨_, _, rfl, rfl, rfl⟩ (fun w_ => Runs.fld fld33_2 rfl) rfl ?_
      refine WE.v1 (j := 9) (b := true) 12 hx 11 (by rfl) ⟨_, _, rfl, rfl, rfl⟩ (fun w_ hE_ => Runs.loadPart (vs := #[.slice AJ z.js.length cj, .slice AS z.ss.length cS, .bool z.dr]) hE_ 2 rfl Try.underlying25 rfl inf25 rfl (by kernel_rfl) rfl) rfl ?_
      refine WE.v1 (j := 9) (b := true) 12 hx 14 (by rfl) ⟨_, _, rfl, rfl, rfl⟩ (fun w_ hE_ => Runs.loadPart (vs := #[Vi m.kd, Vi m.fr, Vi m.to, Vi m.jb, Vi m.ep, Vi m.st, Vi m.ar, .string m.tx]) hE_ 2 rfl Try.underlying27 rfl inf27 rfl (by kernel_rfl) rfl) rfl ?_
      refine WE.v1 (j := 9) (b := true) 12 hx 17 (by rfl) ⟨_, _, rfl, rfl, rfl⟩ (fun w_ hE_ => Runs.loadPart (vs := #[.slice AJ z.js.length cj, .slice AS z.ss.length cS, .bool z.dr]) hE_ 2 rfl Try.underlying25 rfl inf25 rfl (by kernel_rfl) rfl) rfl ?_
      refine WE.v1 (j := 9) (b := true) 12 hx 19 (by rfl) ⟨_, _, rfl, rfl, rfl⟩ (fun w_ hE_ => Runs.loadPart (vs := #[Vi m.kd, Vi m.fr, Vi m.to, Vi m.jb, Vi m.ep, Vi m.st, Vi m.ar, .string m.tx]) hE_ 2 rfl Try.underlying27 rfl inf27 rfl (by kernel_rfl) rfl) rfl ?_
      refine WE.op (.inr h27) (i := 12) (by rfl) (by kernel_rfl) ?_
      refine WL.gon rfl rfl rfl ?_
      refine WL.call can12 rfl rfl (own_c _ hz hR h27) ?_
      rintro _ w28 ⟨G49, AJ49, AS49, cj49, cS49, hG49, rfl, hZ49, h28⟩
      refine ⟨_, rfl, ?_⟩
      replace hleF := Le.trans hleF hG49
      replace hR := hR.mono hG49
      replace hf := hf.mono hG49
      replace hrd22 := hrd22.mono hG49
      replace hrd34 := hrd34.mono hG49
      refine WL.nil (WE.next ?_)
      refine WE.op (.inr (h28.weak hG49)) (i := 15) (by rfl) (by kernel_rfl) ?_
      refine WL.gon rfl rfl rfl ?_
      refine WL.call can17 rfl rfl (asks_c (m := m) _ hz hZ49 h28) ?_
      rintro _ w29 ⟨G52, hG52, rfl, h29⟩
      refine ⟨_, rfl, ?_⟩
      replace hleF := Le.trans hleF hG52
      replace hR := hR.mono hG52
      replace hf := hf.mono hG52
      replace hrd22 := hrd22.mono hG52
      replace hrd34 := hrd34.mono hG52
      replace hZ49 := hZ49.mono hG52
      refine WL.nil (WE.next ?_)
      refine WE.op (.inr (h29.weak (Le.trans hG49 hG52))) (i := 20) (by rfl) (by kernel_rfl) ?_
      refine WL.gon rfl rfl rfl ?_
      refine WL.call can18 rfl rfl (qasks_c (m := m) _ hz hR h29) ?_
      rintro _ w30 ⟨rfl, h30⟩
      refine ⟨_, rfl, ?_⟩
      refine WL.nil (WE.next ?_)
      refine WE.p1 (j := 9) (b := true) hx 21 (by rfl) ⟨_, _, rfl, rfl, rfl⟩ (fun w_ => Runs.boolT (c := true) (Runs.eqlb Try.underlying4 rfl rfl) (by simp)) rfl ?_
      refine WE.p0 hx 22 (by rfl) (fun w_ => Runs.pick rfl rfl rfl) rfl ?_
      refine WE.p0 hx 23 (by rfl) (fun w_ => Runs.move rfl) rfl ?_
      refine WE.op (.inr (h30.weak (Le.trans hG49 hG52))) (i := 24) (by rfl) (by kernel_rfl) ?_
      refine WL.gon rfl rfl rfl ?_
      refine WL.call can10 rfl rfl (live_c _ h30) ?_
      rintro _ w31 ⟨G61, hG61, rfl, h31⟩
      refine ⟨_, rfl, ?_⟩
      replace hleF := Le.trans hleF hG61
      replace hR := hR.mono hG61
      replace hf := hf.mono hG61
      replace hrd22 := hrd22.mono hG61
      replace hrd34 := hrd34.mono hG61
      replace hZ49 := hZ49.mono hG61
      refine WL.nil (WE.next ?_)
      refine WE.p0 hx 25 (by rfl) (fun w_ => Runs.pick rfl rfl rfl) rfl ?_
      refine WE.p0 hx 26 (by rfl) (fun w_ => Runs.assign rfl) rfl ?_
      refine WE.fin (.inr (h31.weak (Le.trans (Le.trans hG49 hG52) hG61))) (by kernel_rfl) ?_
      refine WN.thn (WC.ret ?_)
      exact ret1 rfl rfl ⟨rfl, ((((h31.drop 0).drop 0).drop 0)).weak hleF⟩
  · skip
    refine WC.reg ?_
    refine WL.v (Runs.loadAll h1 0 rfl Try.underlying33 rfl inf33 rfl rfl) rfl ?_
    refine WL.call can9 rfl rfl (small_c _ h1 hR.s hls) ?_
    rintro _ w32 ⟨rfl, h32⟩
    refine ⟨_, rfl, ?_⟩
    refine WL.v (Runs.boolT (c := true) (Runs.not rfl) (by rw [no_small hs]; rfl)) rfl ?_
    refine WL.nil (WN.thn ?_)
    refine WC.condT rfl (rfl) ?_
    refine WC.seq (WC.reg ?_)
    refine WL.call can10 rfl rfl (live_c _ h32) ?_
    rintro _ w33 ⟨G10, hG10, rfl, h33⟩
    refine ⟨_, rfl, ?_⟩
    replace hleF := Le.trans hleF hG10
    replace hR := hR.mono hG10
    replace hf := hf.mono hG10
    refine WL.v (Runs.assign rfl) rfl ?_
    refine WL.nil (WN.thn (WC.ret ?_))
    exact ret1 rfl rfl ⟨rfl, ((h33.drop 0)).weak hleF⟩
set_option maxRecDepth 100000 in
set_option maxHeartbeats 16000000 in
theorem exits_law {W : World} {F : Snap} {cs : List Res} (w : World) {AJ AS : Option Addr} {cj cS : Nat} {z : Z} {m : M} {Ap : Option Addr} {cp : Nat} {f : Fc} {Ac_ : Option Addr} {cc : Nat} {codes : List Int} {id : Int} (h : St W F cs w) (hR : ZR F AJ AS z) (hls : z.ss.length ≤ 9223372036854775807) (hf : RdS (Kd.one Vi) F Ap f.ps) (hcd : RdS (Kd.one Vi) F Ac_ codes) : Calls Try.prog 4 #[.agg #[Vi id, .slice AJ z.js.length cj, .slice AS z.ss.length cS, .bool z.dr, Vi m.kd, Vi m.fr, Vi m.to, Vi m.jb, Vi m.ep, Vi m.st, Vi m.ar, .string m.tx, Vi f.cr, .slice Ap f.ps.length cp, Vi f.cd, .bool f.bz], .slice Ac_ codes.length cc] w fun e w' => e = .returned (.bool true) ∧ St W F cs w'  := by
  refine enter (P := Try.prog) (args := [.agg #[Vi id, .slice AJ z.js.length cj, .slice AS z.ss.length cS, .bool z.dr, Vi m.kd, Vi m.fr, Vi m.to, Vi m.jb, Vi m.ep, Vi m.st, Vi m.ar, .string m.tx, Vi f.cr, .slice Ap f.ps.length cp, Vi f.cd, .bool f.bz], .slice Ac_ codes.length cc]) Try.func4 rfl rfl rfl ?_
  have hleF := Le.refl F
  refine WC.seq (WC.reg ?_)
  refine WL.box rfl h rfl ?_
  intro b2 w1 h1
  refine WL.v (Runs.assign rfl) rfl ?_
  refine WL.nil (WN.thn (WC.seq (WC.seq ?_)))
  rcases two (smallZ z ∧ f.ps.length ≤ 40) (codes.length ≤ 60) with hs | ⟨hs, hc⟩ | ⟨hs, hc⟩
  · skip
    refine WC.reg ?_
    refine WL.v (Runs.loadAll h1 0 rfl Try.underlying33 rfl inf33 rfl rfl) rfl ?_
    refine WL.call can9 rfl rfl (small_c _ h1 hR.s hls) ?_
    rintro _ w2 ⟨rfl, h2⟩
    refine ⟨_, rfl, ?_⟩
    refine WL.v (Runs.boolT (c := true) (Runs.not rfl) (by rw [no_small hs]; rfl)) rfl ?_
    refine WL.v (Runs.move rfl) rfl ?_
    refine WL.goff rfl rfl rfl rfl ?_
    refine WL.goff rfl rfl rfl rfl ?_
    refine WL.goff rfl rfl rfl rfl ?_
    refine WL.v (Runs.pick rfl rfl rfl) rfl ?_
    refine WL.nil (WN.thn ?_)
    refine WC.condT rfl (rfl) ?_
    refine WC.seq (WC.reg ?_)
    refine WL.call can10 rfl rfl (live_c _ h2) ?_
    rintro _ w3 ⟨G18, hG18, rfl, h3⟩
    refine ⟨_, rfl, ?_⟩
    replace hleF := Le.trans hleF hG18
    replace hR := hR.mono hG18
    replace hf := hf.mono hG18
    replace hcd := hcd.mono hG18
    refine WL.v (Runs.assign rfl) rfl ?_
    refine WL.nil (WN.thn (WC.ret ?_))
    exact ret1 rfl rfl ⟨rfl, ((h3.drop 0)).weak hleF⟩
  · skip
    refine WC.reg ?_
    refine WL.v (Runs.loadAll h1 0 rfl Try.underlying33 rfl inf33 rfl rfl) rfl ?_
    refine WL.call can9 rfl rfl (small_c _ h1 hR.s hls) ?_
    rintro _ w4 ⟨rfl, h4⟩
    refine ⟨_, rfl, ?_⟩
    refine WL.v (Runs.boolT (c := false) (Runs.not rfl) (by rw [decide_eq_true hs.1, decide_eq_true hs.2]; rfl)) rfl ?_
    refine WL.v (Runs.move rfl) rfl ?_
    refine WL.gon rfl rfl rfl ?_
    refine WL.v (Runs.move rfl) rfl ?_
    refine WL.gon rfl rfl rfl ?_
    refine WL.v (Runs.llen Try.underlying29 rfl rfl) rfl ?_
    refine WL.gon rfl rfl rfl ?_
    refine WL.v (Runs.boolT (c := true) (Runs.gtr rfl rfl) (by rw [decide_eq_true_eq]; omega)) rfl ?_
    refine WL.v (Runs.pick rfl rfl rfl) rfl ?_
    refine WL.nil (WN.thn ?_)
    refine WC.condT rfl (rfl) ?_
    refine WC.seq (WC.reg ?_)
    refine WL.call can10 rfl rfl (live_c _ h4) ?_
    rintro _ w5 ⟨G18, hG18, rfl, h5⟩
    refine ⟨_, rfl, ?_⟩
    replace hleF := Le.trans hleF hG18
    replace hR := hR.mono hG18
    replace hf := hf.mono hG18
    replace hcd := hcd.mono hG18
    refine WL.v (Runs.assign rfl) rfl ?_
    refine WL.nil (WN.thn (WC.ret ?_))
    exact ret1 rfl rfl ⟨rfl, ((h5.drop 0)).weak hleF⟩
  · have hz := hs.1.few
    have hfn : f.ps.length ≤ 100000 := by omega
    have hcn : codes.length ≤ 100000 := by omega
    refine WC.reg ?_
    refine WL.v (Runs.loadAll h1 0 rfl Try.underlying33 rfl inf33 rfl rfl) rfl ?_
    refine WL.call can9 rfl rfl (small_c _ h1 hR.s hls) ?_
    rintro _ w6 ⟨rfl, h6⟩
    refine ⟨_, rfl, ?_⟩
    refine WL.v (Runs.boolT (c := false) (Runs.not rfl) (by rw [decide_eq_true hs.1, decide_eq_true hs.2]; rfl)) rfl ?_
    refine WL.v (Runs.move rfl) rfl ?_
    refine WL.gon rfl rfl rfl ?_
    refine WL.v (Runs.move rfl) rfl ?_
    refine WL.gon rfl rfl rfl ?_
    refine WL.v (Runs.llen Try.underlying29 rfl rfl) rfl ?_
    refine WL.gon rfl rfl rfl ?_
    refine WL.v (Runs.boolT (c := false) (Runs.gtr rfl rfl) (by rw [decide_eq_false_iff_not]; omega)) rfl ?_
    refine WL.v (Runs.pick rfl rfl rfl) rfl ?_
    refine WL.nil (WN.thn ?_)
    refine WC.condF rfl (rfl) ?_
    refine WC.skip (WN.thn (WC.seq (WC.reg ?_)))
    refine WL.v (Runs.fld fld33_2 rfl) rfl ?_
    refine WL.v (Runs.fld fld27_3 rfl) rfl ?_
    refine WL.v (Runs.load1 Try.underlying3 rfl rfl (h6.ocell (i := 0) rfl rfl)) rfl ?_
    refine WL.v (Runs.fld fld33_2 rfl) rfl ?_
    refine WL.v (Runs.fld fld27_4 rfl) rfl ?_
    refine WL.v (Runs.load1 Try.underlying3 rfl rfl (h6.ocell (i := 0) rfl rfl)) rfl ?_
    refine WL.v (Runs.fld fld33_2 rfl) rfl ?_
    refine WL.v (Runs.fld fld27_5 rfl) rfl ?_
    refine WL.v (Runs.load1 Try.underlying3 rfl rfl (h6.ocell (i := 0) rfl rfl)) rfl ?_
    refine WL.v (Runs.build (vs := [(1, Vi m.jb), (2, Vi m.ep), (3, Vi m.st)]) (cells := #[Vi 0, Vi m.jb, Vi m.ep, Vi m.st, Vi 0, .slice none 0 0]) rfl (by kernel_rfl)) rfl ?_
    refine WL.alloc' rfl h6 inf37 ?_
    intro b5 w7 h7
    refine WL.storeAll h7 0 rfl rfl rfl inf37 rfl rfl rfl (Free.zero _) ?_
    intro  w8 h8
    try simp only [lz, ls, ez, es'] at h8
    refine WL.nil (WN.thn (WC.seq ?_))
    refine WC.cutT (σ := Nat × Snap × Option Addr × Nat) (fun q_ => [(1, .slice Ac_ codes.length cc), (2, .pointer (some ⟨b2, 0, none⟩)), (5, .pointer (some ⟨b5, 0, none⟩)), (6, .pointer (some ⟨q_.1, 0, none⟩)), (7, Vi (exitM id z (atR m) codes).2)]) (fun q_ w => Le F q_.2.1 ∧ RdS (Kd.one Vi) q_.2.1 q_.2.2.1 (exitM id z (atR m) codes).1.rc.ls ∧ St W q_.2.1 ([(q_.1, .cells (acv q_.2.2.1 q_.2.2.2 (exitM id z (atR m) codes).1) 39 (0, 0))] :: [(b5, .cells #[Vi 0, Vi m.jb, Vi m.ep, Vi m.st, Vi 0, .slice none 0 0] 37 (0, 0))] :: [(b2, .cells #[Vi id, .slice AJ z.js.length cj, .slice AS z.ss.length cS, .bool z.dr, Vi m.kd, Vi m.fr, Vi m.to, Vi m.jb, Vi m.ep, Vi m.st, Vi m.ar, .string m.tx, Vi f.cr, .slice Ap f.ps.length cp, Vi f.cd, .bool f.bz] 33 (0, 0))] :: cs) w) ?_ ?_
    · skip
      refine WC.eregK h8 h8 (fun s_ => ([12] : List Nat).any (Nat.beq s_)) mixed (by kernel_rfl) (fun hx => ?_)
      intro w9 h9
      refine WE.p0 hx 0 (by rfl) (fun w_ => Runs.fld fld33_0 rfl) rfl ?_
      refine WE.p0 hx 2 (by rfl) (fun w_ => Runs.fld fld33_1 rfl) rfl ?_
      refine WE.p0 hx 6 (by rfl) (fun w_ => Runs.move rfl) rfl ?_
      refine WE.v0 12 hx 1 (by rfl) (fun w_ hE_ => Runs.load1 Try.underlying3 rfl rfl (hE_.ocell (i := 1) rfl rfl)) rfl ?_
      refine WE.v0 12 hx 3 (by rfl) (fun w_ hE_ => Runs.loadPart (vs := #[.slice AJ z.js.length cj, .slice AS z.ss.length cS, .bool z.dr]) hE_ 1 rfl Try.underlying25 rfl inf25 rfl (by kernel_rfl) rfl) rfl ?_
      refine WE.v0 12 hx 5 (by rfl) (fun w_ hE_ => Runs.loadAll hE_ 0 rfl Try.underlying37 rfl inf37 rfl rfl) rfl ?_
      refine WE.op2 (.inr h9) (i := 4) (j := 11) (by rfl) (by rfl) (by kernel_rfl) ?_ ?_
      · skip
        refine WL.call can12 rfl rfl (own_c _ hz hR h9) ?_
        rintro _ w10 ⟨G34, AJ34, AS34, cj34, cS34, hG34, rfl, hZ34, h10⟩
        refine ⟨_, rfl, ?_⟩
        replace hleF := Le.trans hleF hG34
        replace hR := hR.mono hG34
        replace hf := hf.mono hG34
        replace hcd := hcd.mono hG34
        refine WL.nil (WE.next ?_)
        refine WE.op2 (.inr (h10.weak hG34)) (i := 7) (j := 11) (by rfl) (by rfl) (by kernel_rfl) ?_ ?_
        · skip
          refine WL.call can19 rfl rfl ((show Calls _ _ #[_, _, .agg #[Vi (atR m).kd, Vi (atR m).jb, Vi (atR m).ep, Vi (atR m).st, Vi (atR m).ar, .slice none (atR m).ls.length 0], _] _ _ from exit_c (r := atR m) _ id hz hZ34 hcd hcn h10)) ?_
          rintro _ w11 ⟨G37, A37, c37, hG37, rfl, hrd37, h11⟩
          refine ⟨_, rfl, ?_⟩
          replace hleF := Le.trans hleF hG37
          replace hR := hR.mono hG37
          replace hf := hf.mono hG37
          replace hcd := hcd.mono hG37
          replace hZ34 := hZ34.mono hG37
          refine WL.nil (WE.next ?_)
          refine WE.p0 hx 8 (by rfl) (fun w_ => Runs.move rfl) rfl ?_
          refine WE.p0 hx 9 (by rfl) (fun w_ => Runs.extract rfl rfl) rfl ?_
          refine WE.p0 hx 10 (by rfl) (fun w_ => Runs.extract rfl rfl) rfl ?_
          refine WE.op (.inr (h11.weak (Le.trans hG34 hG37))) (i := 11) (by rfl) (by kernel_rfl) ?_
          refine WL.alloc' rfl h11 inf39 ?_
          intro b6 w12 h12
          refine WL.nil (WE.next ?_)
          refine WE.op (.inr ((h12.weak (Le.trans hG34 hG37)).drop 0)) (i := 12) (by rfl) (by kernel_rfl) ?_
          refine WL.storeAll h12 0 rfl rfl rfl inf39 rfl rfl rfl (Free.zero _) ?_
          intro  w13 h13
          try simp only [lz, ls, ez, es'] at h13
          refine WL.nil (WE.next ?_)
          refine WE.p0 hx 13 (by rfl) (fun w_ => Runs.assign rfl) rfl ?_
          refine WE.fin (.inl ⟨12, rfl, by kernel_rfl⟩) (by kernel_rfl) ?_
          exact WN.at_ (⟨b6, _, A37, c37⟩ : Nat × Snap × Option Addr × Nat) (by repeat (first | exact trivial | refine ⟨rfl, ?_⟩)) ⟨(Le.trans hG34 hG37), hrd37, h13⟩
        · skip
          refine WL.alloc' rfl h10 inf39 ?_
          intro b6 w14 h14
          refine WL.nil (WE.next ?_)
          refine WE.op (.inr ((h14.weak hG34).drop 0)) (i := 7) (by rfl) (by kernel_rfl) ?_
          refine WL.call can19 rfl rfl ((show Calls _ _ #[_, _, .agg #[Vi (atR m).kd, Vi (atR m).jb, Vi (atR m).ep, Vi (atR m).st, Vi (atR m).ar, .slice none (atR m).ls.length 0], _] _ _ from exit_c (r := atR m) _ id hz hZ34 hcd hcn h14)) ?_
          rintro _ w15 ⟨G37, A37, c37, hG37, rfl, hrd37, h15⟩
          refine ⟨_, rfl, ?_⟩
          replace hleF := Le.trans hleF hG37
          replace hR := hR.mono hG37
          replace hf := hf.mono hG37
          replace hcd := hcd.mono hG37
          replace hZ34 := hZ34.mono hG37
          refine WL.nil (WE.next ?_)
          refine WE.p0 hx 8 (by rfl) (fun w_ => Runs.move rfl) rfl ?_
          refine WE.p0 hx 9 (by rfl) (fun w_ => Runs.extract rfl rfl) rfl ?_
          refine WE.p0 hx 10 (by rfl) (fun w_ => Runs.extract rfl rfl) rfl ?_
          refine WE.op (.inr ((h15.weak (Le.trans hG34 hG37)).drop 0)) (i := 12) (by rfl) (by kernel_rfl) ?_
          refine WL.storeAll h15 0 rfl rfl rfl inf39 rfl rfl rfl (Free.zero _) ?_
          intro  w16 h16
          try simp only [lz, ls, ez, es'] at h16
          refine WL.nil (WE.next ?_)
          refine WE.p0 hx 13 (by rfl) (fun w_ => Runs.assign rfl) rfl ?_
          refine WE.fin (.inl ⟨12, rfl, by kernel_rfl⟩) (by kernel_rfl) ?_
          exact WN.at_ (⟨b6, _, A37, c37⟩ : Nat × Snap × Option Addr × Nat) (by repeat (first | exact trivial | refine ⟨rfl, ?_⟩)) ⟨(Le.trans hG34 hG37), hrd37, h16⟩
      · skip
        refine WL.alloc' rfl h9 inf39 ?_
        intro b6 w17 h17
        refine WL.nil (WE.next ?_)
        refine WE.op (.inr (h17.drop 0)) (i := 4) (by rfl) (by kernel_rfl) ?_
        refine WL.call can12 rfl rfl (own_c _ hz hR h17) ?_
        rintro _ w18 ⟨G34, AJ34, AS34, cj34, cS34, hG34, rfl, hZ34, h18⟩
        refine ⟨_, rfl, ?_⟩
        replace hleF := Le.trans hleF hG34
        replace hR := hR.mono hG34
        replace hf := hf.mono hG34
        replace hcd := hcd.mono hG34
        refine WL.nil (WE.next ?_)
        refine WE.op (.inr ((h18.weak hG34).drop 0)) (i := 7) (by rfl) (by kernel_rfl) ?_
        refine WL.call can19 rfl rfl ((show Calls _ _ #[_, _, .agg #[Vi (atR m).kd, Vi (atR m).jb, Vi (atR m).ep, Vi (atR m).st, Vi (atR m).ar, .slice none (atR m).ls.length 0], _] _ _ from exit_c (r := atR m) _ id hz hZ34 hcd hcn h18)) ?_
        rintro _ w19 ⟨G37, A37, c37, hG37, rfl, hrd37, h19⟩
        refine ⟨_, rfl, ?_⟩
        replace hleF := Le.trans hleF hG37
        replace hR := hR.mono hG37
        replace hf := hf.mono hG37
        replace hcd := hcd.mono hG37
        replace hZ34 := hZ34.mono hG37
        refine WL.nil (WE.next ?_)
        refine WE.p0 hx 8 (by rfl) (fun w_ => Runs.move rfl) rfl ?_
        refine WE.p0 hx 9 (by rfl) (fun w_ => Runs.extract rfl rfl) rfl ?_
        refine WE.p0 hx 10 (by rfl) (fun w_ => Runs.extract rfl rfl) rfl ?_
        refine WE.op (.inr ((h19.weak (Le.trans hG34 hG37)).drop 0)) (i := 12) (by rfl) (by kernel_rfl) ?_
        refine WL.storeAll h19 0 rfl rfl rfl inf39 rfl rfl rfl (Free.zero _) ?_
        intro  w20 h20
        try simp only [lz, ls, ez, es'] at h20
        refine WL.nil (WE.next ?_)
        refine WE.p0 hx 13 (by rfl) (fun w_ => Runs.assign rfl) rfl ?_
        refine WE.fin (.inl ⟨12, rfl, by kernel_rfl⟩) (by kernel_rfl) ?_
        exact WN.at_ (⟨b6, _, A37, c37⟩ : Nat × Snap × Option Addr × Nat) (by repeat (first | exact trivial | refine ⟨rfl, ?_⟩)) ⟨(Le.trans hG34 hG37), hrd37, h20⟩
    · rintro ⟨b6, G1, A37, c37⟩ w21 ⟨hleG1, hrd37, hL⟩
      dsimp only at hleG1 hrd37 hL
      replace hleF := Le.trans hleF hleG1
      replace hR := hR.mono hleG1
      replace hf := hf.mono hleG1
      replace hcd := hcd.mono hleG1
      refine WC.seq (WC.reg ?_)
      refine WL.v (Runs.fld fld33_0 rfl) rfl ?_
      refine WL.v (Runs.load1 Try.underlying3 rfl rfl (hL.ocell (i := 2) rfl rfl)) rfl ?_
      refine WL.v (Runs.fld fld33_1 rfl) rfl ?_
      refine WL.v (Runs.loadPart (vs := #[.slice AJ z.js.length cj, .slice AS z.ss.length cS, .bool z.dr]) hL 2 rfl Try.underlying25 rfl inf25 rfl (by kernel_rfl) rfl) rfl ?_
      refine WL.v (Runs.loadAll hL 1 rfl Try.underlying37 rfl inf37 rfl rfl) rfl ?_
      refine WL.v (Runs.move rfl) rfl ?_
      refine WL.call can20 rfl rfl ((show Calls _ _ #[_, _, .agg #[Vi (atR m).kd, Vi (atR m).jb, Vi (atR m).ep, Vi (atR m).st, Vi (atR m).ar, .slice none (atR m).ls.length 0], _] _ _ from qexit_c (r := atR m) _ id hcd hcn hz hR hL)) ?_
      rintro _ w22 ⟨G47, A47, c47, hG47, rfl, hrd47, h22⟩
      refine ⟨_, rfl, ?_⟩
      replace hleF := Le.trans hleF hG47
      replace hR := hR.mono hG47
      replace hf := hf.mono hG47
      replace hcd := hcd.mono hG47
      replace hrd37 := hrd37.mono hG47
      refine WL.v (Runs.move rfl) rfl ?_
      refine WL.v (Runs.extract rfl rfl) rfl ?_
      refine WL.v (Runs.extract rfl rfl) rfl ?_
      refine WL.alloc' rfl h22 inf49 ?_
      intro b8 w23 h23
      refine WL.storeAll h23 0 rfl rfl rfl inf49 rfl rfl rfl (Free.zero _) ?_
      intro  w24 h24
      try simp only [lz, ls, ez, es'] at h24
      refine WL.v (Runs.assign rfl) rfl ?_
      refine WL.nil (WN.thn (WC.seq ?_))
      refine WC.eregK h24 h24 (fun s_ => ([] : List Nat).any (Nat.beq s_)) mixed (by kernel_rfl) (fun hx => ?_)
      intro w25 h25
      refine WE.v0 12 hx 0 (by rfl) (fun w_ hE_ => Runs.loadAll hE_ 1 rfl Try.underlying39 rfl inf39 rfl rfl) rfl ?_
      refine WE.v0 12 hx 2 (by rfl) (fun w_ hE_ => Runs.loadAll hE_ 0 rfl Try.underlying49 rfl inf49 rfl rfl) rfl ?_
      refine WE.op (.inr h25) (i := 1) (by rfl) (by kernel_rfl) ?_
      refine WL.call can16 rfl rfl ((show Calls _ _ #[.agg (acv A37 c37 (exitM id z (atR m) codes).1)] _ _ from told_c (a := (exitM id z (atR m) codes).1) _ h25)) ?_
      rintro _ w26 ⟨rfl, h26⟩
      refine ⟨_, rfl, ?_⟩
      refine WL.nil (WE.next ?_)
      refine WE.op (.inr h26) (i := 3) (by rfl) (by kernel_rfl) ?_
      refine WL.call can15 rfl rfl ((show Calls _ _ #[.agg (acv A37 c37 (exitM id z (atR m) codes).1), .agg (acv A47 c47 (exitM id z (atR m) codes).1)] _ _ from same16_c (a := (exitM id z (atR m) codes).1) _ hrd37 hrd47 (by rw [exit_few]; omega) h26)) ?_
      rintro _ w27 ⟨rfl, h27⟩
      refine ⟨_, rfl, ?_⟩
      refine WL.nil (WE.next ?_)
      refine WE.p0 hx 4 (by rfl) (fun w_ => Runs.move rfl) rfl ?_
      refine WE.p1 (j := 4) (b := true) hx 5 (by rfl) ⟨_, _, rfl, rfl, rfl⟩ (fun w_ => Runs.move rfl) rfl ?_
      refine WE.p1 (j := 4) (b := true) hx 6 (by rfl) ⟨_, _, rfl, rfl, rfl⟩ (fun w_ => Runs.move rfl) rfl ?_
      refine WE.p1 (j := 4) (b := true) hx 7 (by rfl) ⟨_, _, rfl, rfl, rfl⟩ (fun w_ => Runs.boolT (c := true) (Runs.eql rfl rfl) (by simp)) rfl ?_
      refine WE.p0 hx 8 (by rfl) (fun w_ => Runs.pick rfl rfl rfl) rfl ?_
      refine WE.p0 hx 9 (by rfl) (fun w_ => Runs.move rfl) rfl ?_
      refine WE.op (.inr h27) (i := 10) (by rfl) (by kernel_rfl) ?_
      refine WL.gon rfl rfl rfl ?_
      refine WL.call can10 rfl rfl (live_c _ h27) ?_
      rintro _ w28 ⟨G60, hG60, rfl, h28⟩
      refine ⟨_, rfl, ?_⟩
      replace hleF := Le.trans hleF hG60
      replace hR := hR.mono hG60
      replace hf := hf.mono hG60
      replace hcd := hcd.mono hG60
      replace hrd37 := hrd37.mono hG60
      replace hrd47 := hrd47.mono hG60
      refine WL.nil (WE.next ?_)
      refine WE.p0 hx 11 (by rfl) (fun w_ => Runs.pick rfl rfl rfl) rfl ?_
      refine WE.p0 hx 12 (by rfl) (fun w_ => Runs.assign rfl) rfl ?_
      refine WE.fin (.inr (h28.weak hG60)) (by kernel_rfl) ?_
      refine WN.thn (WC.ret ?_)
      exact ret1 rfl rfl ⟨rfl, (((((h28.drop 0).drop 0).drop 0).drop 0)).weak hleF⟩
end Rc
end Go.Proofs.Ytanlminnobonnaa
