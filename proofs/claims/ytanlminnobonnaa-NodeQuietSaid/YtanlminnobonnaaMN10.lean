/- The law NodeQuiet. -/
import Derived.Test.YtanlminnobonnaaProg
import Derived.KernelRfl
import Derived.Test.YtanlminnobonnaaMBaseAH
import Derived.Test.YtanlminnobonnaaMN8
namespace Go.Proofs.Ytanlminnobonnaa
open Go Go.RowKit B
set_option linter.unusedVariables false
set_option linter.unusedSimpArgs false
namespace Rc

theorem inf33 : Inf Try.prog 33 (.agg #[.int .i64 0, .slice none 0 0, .slice none 0 0, .bool false, .int .i64 0, .int .i64 0, .int .i64 0, .int .i64 0, .int .i64 0, .int .i64 0, .int .i64 0, .string ⟨#[]⟩, .int .i64 0, .slice none 0 0, .int .i64 0, .bool false]) 16 184 := by unfold Inf; kernel_rfl
theorem fld27_7 : fldB Try.prog 27 7 7 = true := by kernel_rfl
theorem fld33_0 : fldB Try.prog 33 0 0 = true := by kernel_rfl
theorem fld33_2 : fldB Try.prog 33 2 4 = true := by kernel_rfl
theorem can9 : B.Can Try.prog 9 := ⟨_, Try.func9, by kernel_rfl, rfl⟩   -- roundhouse/roundhouselaw16.small
theorem can10 : B.Can Try.prog 10 := ⟨_, Try.func10, by kernel_rfl, rfl⟩   -- roundhouse/roundhouselaw16.live
theorem can12 : B.Can Try.prog 12 := ⟨_, Try.func12, by kernel_rfl, rfl⟩   -- roundhouse/roundhouselaw16.own
theorem can13 : B.Can Try.prog 13 := ⟨_, Try.func13, by kernel_rfl, rfl⟩   -- roundhouse/roundhouselaw16.facts
theorem quiet_err {id : Int} {z : Z} {m : M} {f : Fc} (h : (decideM id z m f).2 ≠ 0) : (decideM id z m f).1 = A0 := by
  revert h
  unfold decideM
  repeat' split
  all_goals first | (intro _; rfl) | (intro h; exact absurd rfl h)
/-- what holds of any act -/
structure Calm (id : Int) (m : M) (a : Ac) : Prop where
  bk : a.bk = true → a.rp.fr = id ∧ a.rp.to = -1 ∧ a.rp.jb = m.jb ∧ a.rp.ep = m.ep ∧ a.rp.st = m.st ∧ a.rp.tx = ⟨#[]⟩
  hs : a.has = true → a.rc.jb = m.jb ∧ a.rc.ep = m.ep
  sh : (a.has = true ∧ a.sta = true ∧ a.kil = false ∧ a.can = false ∧ a.rc.kd = 3 ∧ m.kd = 4) ∨ (a.has = true ∧ a.sta = false ∧ a.kil = true ∧ a.can = false ∧ a.rc.kd = 4 ∧ m.kd = 5) ∨ (a.has = false ∧ a.sta = false ∧ a.kil = false ∧ a.can = true ∧ m.kd = 7) ∨ (a.has = true ∧ a.sta = false ∧ a.kil = false ∧ a.can = false ∧ a.rc.kd ≠ 3 ∧ a.rc.kd ≠ 4) ∨ (a.has = false ∧ a.sta = false ∧ a.kil = false ∧ a.can = false)
theorem Calm.a0 {id : Int} {m : M} : Calm id m A0 := ⟨(fun h => by cases h), (fun h => by cases h), .inr (.inr (.inr (.inr ⟨rfl, rfl, rfl, rfl⟩)))⟩
theorem Calm.an {id : Int} {m : M} {a : Ac} {kd ar : Int} (h : Calm id m a) : Calm id m (anM id m a kd ar) := ⟨fun _ => ⟨rfl, rfl, rfl, rfl, rfl, rfl⟩, h.hs, h.sh⟩
theorem Calm.wr {id : Int} {m : M} {kd ar : Int} (h3 : kd ≠ 3) (h4 : kd ≠ 4) : Calm id m (wrM m kd ar) := ⟨(fun h => by cases h), fun _ => ⟨rfl, rfl⟩, .inr (.inr (.inr (.inl ⟨rfl, rfl, rfl, rfl, h3, h4⟩)))⟩
theorem Calm.ls {id : Int} {m : M} {a : Ac} {l : List Int} (h : Calm id m a) : Calm id m { a with rc := { a.rc with ls := l } } := ⟨h.bk, h.hs, h.sh⟩
theorem calm {id : Int} {z : Z} {m : M} {f : Fc} : Calm id m (decideM id z m f).1 := by
  unfold decideM
  split
  · exact Calm.a0
  · split
    · show Calm id m (prologA id z m f.cd)
      unfold prologA
      repeat' split
      all_goals first | exact Calm.a0 | exact Calm.a0.an | exact (Calm.wr (by decide) (by decide)).an
    · split
      · show Calm id m (launchA id z m f)
        unfold launchA
        repeat' split
        all_goals first | exact Calm.a0.an | exact (Calm.wr (by decide) (by decide)).ls.an
      · split
        · rename_i hk
          show Calm id m (releaseA id z m)
          unfold releaseA
          repeat' split
          all_goals first | exact Calm.a0 | exact Calm.a0.an | exact ⟨(fun h => by cases h), fun _ => ⟨rfl, rfl⟩, .inl ⟨rfl, rfl, rfl, rfl, rfl, hk⟩⟩
        · split
          · rename_i hk
            show Calm id m (abortA z m)
            unfold abortA
            repeat' split
            all_goals first | exact Calm.a0 | exact Calm.wr (by decide) (by decide) | exact ⟨(fun h => by cases h), fun _ => ⟨rfl, rfl⟩, .inr (.inl ⟨rfl, rfl, rfl, rfl, rfl, hk⟩)⟩
          · split
            · rename_i hk
              refine ⟨(fun h => by cases h), (fun h => by cases h), ?_⟩
              show (_ ∧ _) ∨ _
              cases hp : phB z m 1
              · exact .inr (.inr (.inr (.inr ⟨rfl, rfl, rfl, rfl⟩)))
              · exact .inr (.inr (.inl ⟨rfl, rfl, rfl, rfl, hk⟩))
            · split
              · show Calm id m (finishA id z m f)
                unfold finishA
                repeat' split
                all_goals first | exact Calm.a0 | exact Calm.a0.an | exact (Calm.wr (by decide) (by decide)).an
              · exact Calm.a0
set_option maxRecDepth 100000 in
set_option maxHeartbeats 32000000 in
theorem quiet_law {W : World} {F : Snap} {cs : List Res} (w : World) {AJ AS : Option Addr} {cj cS : Nat} {z : Z} {m : M} {Ap : Option Addr} {cp : Nat} {f : Fc} {id : Int} (h : St W F cs w) (hR : ZR F AJ AS z) (hls : z.ss.length ≤ 9223372036854775807) (hf : RdS (Kd.one Vi) F Ap f.ps) : Calls Try.prog 7 #[.agg #[Vi id, .slice AJ z.js.length cj, .slice AS z.ss.length cS, .bool z.dr, Vi m.kd, Vi m.fr, Vi m.to, Vi m.jb, Vi m.ep, Vi m.st, Vi m.ar, .string m.tx, Vi f.cr, .slice Ap f.ps.length cp, Vi f.cd, .bool f.bz]] w fun e w' => e = .returned (.bool true) ∧ St W F cs w'  := by
  refine enter (P := Try.prog) (args := [.agg #[Vi id, .slice AJ z.js.length cj, .slice AS z.ss.length cS, .bool z.dr, Vi m.kd, Vi m.fr, Vi m.to, Vi m.jb, Vi m.ep, Vi m.st, Vi m.ar, .string m.tx, Vi f.cr, .slice Ap f.ps.length cp, Vi f.cd, .bool f.bz]]) Try.func7 rfl rfl rfl ?_
  have hleF := Le.refl F
  refine WC.seq (WC.reg ?_)
  refine WL.box rfl h rfl ?_
  intro b1 w1 h1
  refine WL.v (Runs.assign rfl) rfl ?_
  refine WL.nil (WN.thn (WC.seq (WC.seq ?_)))
  by_cases hs : smallZ z ∧ f.ps.length ≤ 40
  · have hz := hs.1.few
    have hfn : f.ps.length ≤ 100000 := by omega
    refine WC.reg ?_
    refine WL.v (Runs.loadAll h1 0 rfl Try.underlying33 rfl inf33 rfl rfl) rfl ?_
    refine WL.call can9 rfl rfl (small_c _ h1 hR.s hls) ?_
    rintro _ w2 ⟨rfl, h2⟩
    refine ⟨_, rfl, ?_⟩
    refine WL.v (Runs.boolT (c := false) (Runs.not rfl) (by rw [decide_eq_true hs.1, decide_eq_true hs.2]; rfl)) rfl ?_
    refine WL.nil (WN.thn ?_)
    refine WC.condF rfl (rfl) ?_
    refine WC.skip (WN.thn (WC.seq ?_))
    refine WC.cutT (σ := Nat × Snap × Option Addr × Nat) (fun q_ => [(1, .pointer (some ⟨b1, 0, none⟩)), (3, .pointer (some ⟨q_.1, 0, none⟩)), (4, Vi (decideM id z m f).2)]) (fun q_ w => Le F q_.2.1 ∧ RdS (Kd.one Vi) q_.2.1 q_.2.2.1 (decideM id z m f).1.rc.ls ∧ St W q_.2.1 ([(q_.1, .cells (acv q_.2.2.1 q_.2.2.2 (decideM id z m f).1) 39 (0, 0))] :: [(b1, .cells #[Vi id, .slice AJ z.js.length cj, .slice AS z.ss.length cS, .bool z.dr, Vi m.kd, Vi m.fr, Vi m.to, Vi m.jb, Vi m.ep, Vi m.st, Vi m.ar, .string m.tx, Vi f.cr, .slice Ap f.ps.length cp, Vi f.cd, .bool f.bz] 33 (0, 0))] :: cs) w) ?_ ?_
    · skip
      refine WC.eregK h2 h2 (fun s_ => ([15] : List Nat).any (Nat.beq s_)) mixed (by kernel_rfl) (fun hx => ?_)
      intro w3 h3
      refine WE.p0 hx 0 (by rfl) (fun w_ => Runs.fld fld33_0 rfl) rfl ?_
      refine WE.p0 hx 2 (by rfl) (fun w_ => Runs.fld fld33_1 rfl) rfl ?_
      refine WE.p0 hx 5 (by rfl) (fun w_ => Runs.fld fld33_2 rfl) rfl ?_
      refine WE.p0 hx 7 (by rfl) (fun w_ => Runs.fld fld33_3 rfl) rfl ?_
      refine WE.v0 12 hx 1 (by rfl) (fun w_ hE_ => Runs.load1 Try.underlying3 rfl rfl (hE_.ocell (i := 0) rfl rfl)) rfl ?_
      refine WE.v0 12 hx 3 (by rfl) (fun w_ hE_ => Runs.loadPart (vs := #[.slice AJ z.js.length cj, .slice AS z.ss.length cS, .bool z.dr]) hE_ 0 rfl Try.underlying25 rfl inf25 rfl (by kernel_rfl) rfl) rfl ?_
      refine WE.v0 12 hx 6 (by rfl) (fun w_ hE_ => Runs.loadPart (vs := #[Vi m.kd, Vi m.fr, Vi m.to, Vi m.jb, Vi m.ep, Vi m.st, Vi m.ar, .string m.tx]) hE_ 0 rfl Try.underlying27 rfl inf27 rfl (by kernel_rfl) rfl) rfl ?_
      refine WE.v0 12 hx 8 (by rfl) (fun w_ hE_ => Runs.loadPart (vs := #[Vi f.cr, .slice Ap f.ps.length cp, Vi f.cd, .bool f.bz]) hE_ 0 rfl Try.underlying31 rfl inf31 rfl (by kernel_rfl) rfl) rfl ?_
      refine WE.op2 (.inr h3) (i := 4) (j := 14) (by rfl) (by rfl) (by kernel_rfl) ?_ ?_
      · skip
        refine WL.call can12 rfl rfl (own_c _ hz hR h3) ?_
        rintro _ w4 ⟨G14, AJ14, AS14, cj14, cS14, hG14, rfl, hZ14, h4⟩
        refine ⟨_, rfl, ?_⟩
        replace hleF := Le.trans hleF hG14
        replace hR := hR.mono hG14
        replace hf := hf.mono hG14
        refine WL.nil (WE.next ?_)
        refine WE.op2 (.inr (h4.weak hG14)) (i := 9) (j := 14) (by rfl) (by rfl) (by kernel_rfl) ?_ ?_
        · skip
          refine WL.call can13 rfl rfl (facts_c _ h4) ?_
          rintro _ w5 ⟨rfl, h5⟩
          refine ⟨_, rfl, ?_⟩
          refine WL.nil (WE.next ?_)
          refine WE.op2 (.inr (h5.weak hG14)) (i := 10) (j := 14) (by rfl) (by rfl) (by kernel_rfl) ?_ ?_
          · skip
            refine WL.call can11 rfl rfl (decide_c (m := m) _ id hz hZ14 hf hfn h5) ?_
            rintro _ w6 ⟨G20, A20, c20, hG20, rfl, hrd20, h6⟩
            refine ⟨_, rfl, ?_⟩
            replace hleF := Le.trans hleF hG20
            replace hR := hR.mono hG20
            replace hf := hf.mono hG20
            replace hZ14 := hZ14.mono hG20
            refine WL.nil (WE.next ?_)
            refine WE.p0 hx 11 (by rfl) (fun w_ => Runs.move rfl) rfl ?_
            refine WE.p0 hx 12 (by rfl) (fun w_ => Runs.extract rfl rfl) rfl ?_
            refine WE.p0 hx 13 (by rfl) (fun w_ => Runs.extract rfl rfl) rfl ?_
            refine WE.op (.inr (h6.weak (Le.trans hG14 hG20))) (i := 14) (by rfl) (by kernel_rfl) ?_
            refine WL.alloc' rfl h6 inf39 ?_
            intro b3 w7 h7
            refine WL.nil (WE.next ?_)
            refine WE.op (.inr ((h7.weak (Le.trans hG14 hG20)).drop 0)) (i := 15) (by rfl) (by kernel_rfl) ?_
            refine WL.storeAll h7 0 rfl rfl rfl inf39 rfl rfl rfl (Free.zero _) ?_
            intro  w8 h8
            try simp only [lz, ls, ez, es'] at h8
            refine WL.nil (WE.next ?_)
            refine WE.p0 hx 16 (by rfl) (fun w_ => Runs.assign rfl) rfl ?_
            refine WE.fin (.inl ⟨15, rfl, by kernel_rfl⟩) (by kernel_rfl) ?_
            exact WN.at_ (⟨b3, _, A20, c20⟩ : Nat × Snap × Option Addr × Nat) (by repeat (first | exact trivial | refine ⟨rfl, ?_⟩)) ⟨(Le.trans hG14 hG20), hrd20, h8⟩
          · skip
            refine WL.alloc' rfl h5 inf39 ?_
            intro b3 w9 h9
            refine WL.nil (WE.next ?_)
            refine WE.op (.inr ((h9.weak hG14).drop 0)) (i := 10) (by rfl) (by kernel_rfl) ?_
            refine WL.call can11 rfl rfl (decide_c (m := m) _ id hz hZ14 hf hfn h9) ?_
            rintro _ w10 ⟨G20, A20, c20, hG20, rfl, hrd20, h10⟩
            refine ⟨_, rfl, ?_⟩
            replace hleF := Le.trans hleF hG20
            replace hR := hR.mono hG20
            replace hf := hf.mono hG20
            replace hZ14 := hZ14.mono hG20
            refine WL.nil (WE.next ?_)
            refine WE.p0 hx 11 (by rfl) (fun w_ => Runs.move rfl) rfl ?_
            refine WE.p0 hx 12 (by rfl) (fun w_ => Runs.extract rfl rfl) rfl ?_
            refine WE.p0 hx 13 (by rfl) (fun w_ => Runs.extract rfl rfl) rfl ?_
            refine WE.op (.inr ((h10.weak (Le.trans hG14 hG20)).drop 0)) (i := 15) (by rfl) (by kernel_rfl) ?_
            refine WL.storeAll h10 0 rfl rfl rfl inf39 rfl rfl rfl (Free.zero _) ?_
            intro  w11 h11
            try simp only [lz, ls, ez, es'] at h11
            refine WL.nil (WE.next ?_)
            refine WE.p0 hx 16 (by rfl) (fun w_ => Runs.assign rfl) rfl ?_
            refine WE.fin (.inl ⟨15, rfl, by kernel_rfl⟩) (by kernel_rfl) ?_
            exact WN.at_ (⟨b3, _, A20, c20⟩ : Nat × Snap × Option Addr × Nat) (by repeat (first | exact trivial | refine ⟨rfl, ?_⟩)) ⟨(Le.trans hG14 hG20), hrd20, h11⟩
        · skip
          refine WL.alloc' rfl h4 inf39 ?_
          intro b3 w12 h12
          refine WL.nil (WE.next ?_)
          refine WE.op (.inr ((h12.weak hG14).drop 0)) (i := 9) (by rfl) (by kernel_rfl) ?_
          refine WL.call can13 rfl rfl (facts_c _ h12) ?_
          rintro _ w13 ⟨rfl, h13⟩
          refine ⟨_, rfl, ?_⟩
          refine WL.nil (WE.next ?_)
          refine WE.op (.inr ((h13.weak hG14).drop 0)) (i := 10) (by rfl) (by kernel_rfl) ?_
          refine WL.call can11 rfl rfl (decide_c (m := m) _ id hz hZ14 hf hfn h13) ?_
          rintro _ w14 ⟨G20, A20, c20, hG20, rfl, hrd20, h14⟩
          refine ⟨_, rfl, ?_⟩
          replace hleF := Le.trans hleF hG20
          replace hR := hR.mono hG20
          replace hf := hf.mono hG20
          replace hZ14 := hZ14.mono hG20
          refine WL.nil (WE.next ?_)
          refine WE.p0 hx 11 (by rfl) (fun w_ => Runs.move rfl) rfl ?_
          refine WE.p0 hx 12 (by rfl) (fun w_ => Runs.extract rfl rfl) rfl ?_
          refine WE.p0 hx 13 (by rfl) (fun w_ => Runs.extract rfl rfl) rfl ?_
          refine WE.op (.inr ((h14.weak (Le.trans hG14 hG20)).drop 0)) (i := 15) (by rfl) (by kernel_rfl) ?_
          refine WL.storeAll h14 0 rfl rfl rfl inf39 rfl rfl rfl (Free.zero _) ?_
          intro  w15 h15
          try simp only [lz, ls, ez, es'] at h15
          refine WL.nil (WE.next ?_)
          refine WE.p0 hx 16 (by rfl) (fun w_ => Runs.assign rfl) rfl ?_
          refine WE.fin (.inl ⟨15, rfl, by kernel_rfl⟩) (by kernel_rfl) ?_
          exact WN.at_ (⟨b3, _, A20, c20⟩ : Nat × Snap × Option Addr × Nat) (by repeat (first | exact trivial | refine ⟨rfl, ?_⟩)) ⟨(Le.trans hG14 hG20), hrd20, h15⟩
      · skip
        refine WL.alloc' rfl h3 inf39 ?_
        intro b3 w16 h16
        refine WL.nil (WE.next ?_)
        refine WE.op (.inr (h16.drop 0)) (i := 4) (by rfl) (by kernel_rfl) ?_
        refine WL.call can12 rfl rfl (own_c _ hz hR h16) ?_
        rintro _ w17 ⟨G14, AJ14, AS14, cj14, cS14, hG14, rfl, hZ14, h17⟩
        refine ⟨_, rfl, ?_⟩
        replace hleF := Le.trans hleF hG14
        replace hR := hR.mono hG14
        replace hf := hf.mono hG14
        refine WL.nil (WE.next ?_)
        refine WE.op (.inr ((h17.weak hG14).drop 0)) (i := 9) (by rfl) (by kernel_rfl) ?_
        refine WL.call can13 rfl rfl (facts_c _ h17) ?_
        rintro _ w18 ⟨rfl, h18⟩
        refine ⟨_, rfl, ?_⟩
        refine WL.nil (WE.next ?_)
        refine WE.op (.inr ((h18.weak hG14).drop 0)) (i := 10) (by rfl) (by kernel_rfl) ?_
        refine WL.call can11 rfl rfl (decide_c (m := m) _ id hz hZ14 hf hfn h18) ?_
        rintro _ w19 ⟨G20, A20, c20, hG20, rfl, hrd20, h19⟩
        refine ⟨_, rfl, ?_⟩
        replace hleF := Le.trans hleF hG20
        replace hR := hR.mono hG20
        replace hf := hf.mono hG20
        replace hZ14 := hZ14.mono hG20
        refine WL.nil (WE.next ?_)
        refine WE.p0 hx 11 (by rfl) (fun w_ => Runs.move rfl) rfl ?_
        refine WE.p0 hx 12 (by rfl) (fun w_ => Runs.extract rfl rfl) rfl ?_
        refine WE.p0 hx 13 (by rfl) (fun w_ => Runs.extract rfl rfl) rfl ?_
        refine WE.op (.inr ((h19.weak (Le.trans hG14 hG20)).drop 0)) (i := 15) (by rfl) (by kernel_rfl) ?_
        refine WL.storeAll h19 0 rfl rfl rfl inf39 rfl rfl rfl (Free.zero _) ?_
        intro  w20 h20
        try simp only [lz, ls, ez, es'] at h20
        refine WL.nil (WE.next ?_)
        refine WE.p0 hx 16 (by rfl) (fun w_ => Runs.assign rfl) rfl ?_
        refine WE.fin (.inl ⟨15, rfl, by kernel_rfl⟩) (by kernel_rfl) ?_
        exact WN.at_ (⟨b3, _, A20, c20⟩ : Nat × Snap × Option Addr × Nat) (by repeat (first | exact trivial | refine ⟨rfl, ?_⟩)) ⟨(Le.trans hG14 hG20), hrd20, h20⟩
    · rintro ⟨b3, G1, A20, c20⟩ w21 ⟨hleG1, hrd20, hL⟩
      dsimp only at hleG1 hrd20 hL
      replace hleF := Le.trans hleF hleG1
      replace hR := hR.mono hleG1
      replace hf := hf.mono hleG1
      refine WC.seq (WC.seq (WC.reg ?_))
      refine WL.v (Runs.move rfl) rfl ?_
      refine WL.v (Runs.neq rfl rfl) rfl ?_
      refine WL.nil (WN.thn ?_)
      refine WC.cond rfl (fun c22 => ?_) (fun c22 => ?_)
      · try simp only [dt, df, nt, nf, ba, il, ie] at c22
        first
        | (exfalso; omega)
        | skip
          refine WC.seq ?_
          have hq := quiet_err c22
          refine WC.reg ?_
          refine WL.v (Runs.fld fld39_0 rfl) rfl ?_
          refine WL.v (Runs.boolT (c := false) (Runs.load1 Try.underlying4 rfl rfl (hL.ocell (i := 0) rfl rfl)) (by rw [hq]; rfl)) rfl ?_
          refine WL.v (Runs.not rfl) rfl ?_
          refine WL.v (Runs.move rfl) rfl ?_
          refine WL.gon rfl rfl rfl ?_
          refine WL.v (Runs.fld fld39_2 rfl) rfl ?_
          refine WL.gon rfl rfl rfl ?_
          refine WL.v (Runs.boolT (c := false) (Runs.load1 Try.underlying4 rfl rfl (hL.ocell (i := 0) rfl rfl)) (by rw [hq]; rfl)) rfl ?_
          refine WL.gon rfl rfl rfl ?_
          refine WL.v (Runs.not rfl) rfl ?_
          refine WL.v (Runs.pick rfl rfl rfl) rfl ?_
          refine WL.v (Runs.move rfl) rfl ?_
          refine WL.gon rfl rfl rfl ?_
          refine WL.v (Runs.fld fld39_4 rfl) rfl ?_
          refine WL.gon rfl rfl rfl ?_
          refine WL.v (Runs.boolT (c := false) (Runs.load1 Try.underlying4 rfl rfl (hL.ocell (i := 0) rfl rfl)) (by rw [hq]; rfl)) rfl ?_
          refine WL.gon rfl rfl rfl ?_
          refine WL.v (Runs.not rfl) rfl ?_
          refine WL.v (Runs.pick rfl rfl rfl) rfl ?_
          refine WL.v (Runs.move rfl) rfl ?_
          refine WL.gon rfl rfl rfl ?_
          refine WL.v (Runs.fld fld39_5 rfl) rfl ?_
          refine WL.gon rfl rfl rfl ?_
          refine WL.v (Runs.boolT (c := false) (Runs.load1 Try.underlying4 rfl rfl (hL.ocell (i := 0) rfl rfl)) (by rw [hq]; rfl)) rfl ?_
          refine WL.gon rfl rfl rfl ?_
          refine WL.v (Runs.not rfl) rfl ?_
          refine WL.v (Runs.pick rfl rfl rfl) rfl ?_
          refine WL.v (Runs.move rfl) rfl ?_
          refine WL.gon rfl rfl rfl ?_
          refine WL.v (Runs.fld fld39_6 rfl) rfl ?_
          refine WL.gon rfl rfl rfl ?_
          refine WL.v (Runs.boolT (c := false) (Runs.load1 Try.underlying4 rfl rfl (hL.ocell (i := 0) rfl rfl)) (by rw [hq]; rfl)) rfl ?_
          refine WL.gon rfl rfl rfl ?_
          refine WL.v (Runs.not rfl) rfl ?_
          refine WL.v (Runs.pick rfl rfl rfl) rfl ?_
          refine WL.v (Runs.move rfl) rfl ?_
          refine WL.gon rfl rfl rfl ?_
          refine WL.call can10 rfl rfl (live_c _ hL) ?_
          rintro _ w23 ⟨G49, hG49, rfl, h23⟩
          refine ⟨_, rfl, ?_⟩
          replace hleF := Le.trans hleF hG49
          replace hR := hR.mono hG49
          replace hf := hf.mono hG49
          replace hrd20 := hrd20.mono hG49
          refine WL.v (Runs.pick rfl rfl rfl) rfl ?_
          refine WL.v (Runs.assign rfl) rfl ?_
          refine WL.nil (WN.thn (WC.ret ?_))
          exact ret1 rfl rfl ⟨rfl, (((h23.drop 0).drop 0)).weak hleF⟩
      · try simp only [dt, df, nt, nf, ba, il, ie] at c22
        first
        | (exfalso; omega)
        | skip
          refine WC.skip (WN.thn (WC.seq (WC.seq ?_)))
          have hc := calm (id := id) (z := z) (m := m) (f := f)
          rcases Bool.eq_false_or_eq_true (decideM id z m f).1.bk with g0 | g0
          · obtain ⟨r1, r2, r3, r4, r5, r6⟩ := hc.bk g0
            refine WC.reg ?_
            refine WL.v (Runs.fld fld39_2 rfl) rfl ?_
            refine WL.v (Runs.boolT (c := true) (Runs.load1 Try.underlying4 rfl rfl (hL.ocell (i := 0) rfl rfl)) g0) rfl ?_
            refine WL.v (Runs.move rfl) rfl ?_
            refine WL.gon rfl rfl rfl ?_
            refine WL.v (Runs.fld fld39_3 rfl) rfl ?_
            refine WL.gon rfl rfl rfl ?_
            refine WL.v (Runs.fld fld27_1 rfl) rfl ?_
            refine WL.gon rfl rfl rfl ?_
            refine WL.v (Runs.load1 Try.underlying3 rfl rfl (hL.ocell (i := 0) rfl rfl)) rfl ?_
            refine WL.gon rfl rfl rfl ?_
            refine WL.v (Runs.fld fld33_0 rfl) rfl ?_
            refine WL.gon rfl rfl rfl ?_
            refine WL.v (Runs.load1 Try.underlying3 rfl rfl (hL.ocell (i := 1) rfl rfl)) rfl ?_
            refine WL.gon rfl rfl rfl ?_
            refine WL.v (Runs.boolT (c := false) (Runs.neq rfl rfl) (by rw [r1]; simp)) rfl ?_
            refine WL.gon rfl rfl rfl ?_
            refine WL.v (Runs.move rfl) rfl ?_
            refine WL.gon rfl rfl rfl ?_
            refine WL.v (Runs.fld fld39_3 rfl) rfl ?_
            refine WL.gon rfl rfl rfl ?_
            refine WL.v (Runs.fld fld27_2 rfl) rfl ?_
            refine WL.gon rfl rfl rfl ?_
            refine WL.v (Runs.load1 Try.underlying3 rfl rfl (hL.ocell (i := 0) rfl rfl)) rfl ?_
            refine WL.gon rfl rfl rfl ?_
            refine WL.v (Runs.boolT (c := false) (Runs.neq rfl rfl) (by rw [r2]; simp)) rfl ?_
            refine WL.gon rfl rfl rfl ?_
            refine WL.v (Runs.pick rfl rfl rfl) rfl ?_
            refine WL.gon rfl rfl rfl ?_
            refine WL.v (Runs.move rfl) rfl ?_
            refine WL.gon rfl rfl rfl ?_
            refine WL.v (Runs.fld fld39_3 rfl) rfl ?_
            refine WL.gon rfl rfl rfl ?_
            refine WL.v (Runs.fld fld27_3 rfl) rfl ?_
            refine WL.gon rfl rfl rfl ?_
            refine WL.v (Runs.load1 Try.underlying3 rfl rfl (hL.ocell (i := 0) rfl rfl)) rfl ?_
            refine WL.gon rfl rfl rfl ?_
            refine WL.v (Runs.fld fld33_2 rfl) rfl ?_
            refine WL.gon rfl rfl rfl ?_
            refine WL.v (Runs.fld fld27_3 rfl) rfl ?_
            refine WL.gon rfl rfl rfl ?_
            refine WL.v (Runs.load1 Try.underlying3 rfl rfl (hL.ocell (i := 1) rfl rfl)) rfl ?_
            refine WL.gon rfl rfl rfl ?_
            refine WL.v (Runs.boolT (c := false) (Runs.neq rfl rfl) (by rw [r3]; simp)) rfl ?_
            refine WL.gon rfl rfl rfl ?_
            refine WL.v (Runs.pick rfl rfl rfl) rfl ?_
            refine WL.gon rfl rfl rfl ?_
            refine WL.v (Runs.move rfl) rfl ?_
            refine WL.gon rfl rfl rfl ?_
            refine WL.v (Runs.fld fld39_3 rfl) rfl ?_
            refine WL.gon rfl rfl rfl ?_
            refine WL.v (Runs.fld fld27_4 rfl) rfl ?_
            refine WL.gon rfl rfl rfl ?_
            refine WL.v (Runs.load1 Try.underlying3 rfl rfl (hL.ocell (i := 0) rfl rfl)) rfl ?_
            refine WL.gon rfl rfl rfl ?_
            refine WL.v (Runs.fld fld33_2 rfl) rfl ?_
            refine WL.gon rfl rfl rfl ?_
            refine WL.v (Runs.fld fld27_4 rfl) rfl ?_
            refine WL.gon rfl rfl rfl ?_
            refine WL.v (Runs.load1 Try.underlying3 rfl rfl (hL.ocell (i := 1) rfl rfl)) rfl ?_
            refine WL.gon rfl rfl rfl ?_
            refine WL.v (Runs.boolT (c := false) (Runs.neq rfl rfl) (by rw [r4]; simp)) rfl ?_
            refine WL.gon rfl rfl rfl ?_
            refine WL.v (Runs.pick rfl rfl rfl) rfl ?_
            refine WL.gon rfl rfl rfl ?_
            refine WL.v (Runs.move rfl) rfl ?_
            refine WL.gon rfl rfl rfl ?_
            refine WL.v (Runs.fld fld39_3 rfl) rfl ?_
            refine WL.gon rfl rfl rfl ?_
            refine WL.v (Runs.fld fld27_5 rfl) rfl ?_
            refine WL.gon rfl rfl rfl ?_
            refine WL.v (Runs.load1 Try.underlying3 rfl rfl (hL.ocell (i := 0) rfl rfl)) rfl ?_
            refine WL.gon rfl rfl rfl ?_
            refine WL.v (Runs.fld fld33_2 rfl) rfl ?_
            refine WL.gon rfl rfl rfl ?_
            refine WL.v (Runs.fld fld27_5 rfl) rfl ?_
            refine WL.gon rfl rfl rfl ?_
            refine WL.v (Runs.load1 Try.underlying3 rfl rfl (hL.ocell (i := 1) rfl rfl)) rfl ?_
            refine WL.gon rfl rfl rfl ?_
            refine WL.v (Runs.boolT (c := false) (Runs.neq rfl rfl) (by rw [r5]; simp)) rfl ?_
            refine WL.gon rfl rfl rfl ?_
            refine WL.v (Runs.pick rfl rfl rfl) rfl ?_
            refine WL.gon rfl rfl rfl ?_
            refine WL.v (Runs.move rfl) rfl ?_
            refine WL.gon rfl rfl rfl ?_
            refine WL.v (Runs.fld fld39_3 rfl) rfl ?_
            refine WL.gon rfl rfl rfl ?_
            refine WL.v (Runs.fld fld27_7 rfl) rfl ?_
            refine WL.gon rfl rfl rfl ?_
            refine WL.v (Runs.load1 Try.underlying9 rfl rfl (hL.ocell (i := 0) rfl rfl)) rfl ?_
            refine WL.gon rfl rfl rfl ?_
            refine WL.v (Runs.boolT (c := false) (Runs.sneq rfl rfl) (by rw [r6]; simp)) rfl ?_
            refine WL.gon rfl rfl rfl ?_
            refine WL.v (Runs.pick rfl rfl rfl) rfl ?_
            refine WL.v (Runs.pick rfl rfl rfl) rfl ?_
            refine WL.nil (WN.thn ?_)
            refine WC.condF rfl (rfl) ?_
            refine WC.skip (WN.thn (WC.seq (WC.seq ?_)))
            rcases hc.sh with ⟨e1, e2, e3, e4, e5, e7⟩ | ⟨e1, e2, e3, e4, e5, e7⟩ | ⟨e1, e2, e3, e4, e7⟩ | ⟨e1, e2, e3, e4, e5, e6⟩ | ⟨e1, e2, e3, e4⟩
            · obtain ⟨f1, f2⟩ := hc.hs e1
              refine WC.reg ?_
              refine WL.v (Runs.fld fld39_0 rfl) rfl ?_
              refine WL.v (Runs.boolT (c := true) (Runs.load1 Try.underlying4 rfl rfl (hL.ocell (i := 0) rfl rfl)) e1) rfl ?_
              refine WL.v (Runs.move rfl) rfl ?_
              refine WL.gon rfl rfl rfl ?_
              refine WL.v (Runs.fld fld39_1 rfl) rfl ?_
              refine WL.gon rfl rfl rfl ?_
              refine WL.v (Runs.fld fld37_1 rfl) rfl ?_
              refine WL.gon rfl rfl rfl ?_
              refine WL.v (Runs.load1 Try.underlying3 rfl rfl (hL.ocell (i := 0) rfl rfl)) rfl ?_
              refine WL.gon rfl rfl rfl ?_
              refine WL.v (Runs.fld fld33_2 rfl) rfl ?_
              refine WL.gon rfl rfl rfl ?_
              refine WL.v (Runs.fld fld27_3 rfl) rfl ?_
              refine WL.gon rfl rfl rfl ?_
              refine WL.v (Runs.load1 Try.underlying3 rfl rfl (hL.ocell (i := 1) rfl rfl)) rfl ?_
              refine WL.gon rfl rfl rfl ?_
              refine WL.v (Runs.boolT (c := false) (Runs.neq rfl rfl) (by rw [f1]; simp)) rfl ?_
              refine WL.gon rfl rfl rfl ?_
              refine WL.v (Runs.move rfl) rfl ?_
              refine WL.gon rfl rfl rfl ?_
              refine WL.v (Runs.fld fld39_1 rfl) rfl ?_
              refine WL.gon rfl rfl rfl ?_
              refine WL.v (Runs.fld fld37_2 rfl) rfl ?_
              refine WL.gon rfl rfl rfl ?_
              refine WL.v (Runs.load1 Try.underlying3 rfl rfl (hL.ocell (i := 0) rfl rfl)) rfl ?_
              refine WL.gon rfl rfl rfl ?_
              refine WL.v (Runs.fld fld33_2 rfl) rfl ?_
              refine WL.gon rfl rfl rfl ?_
              refine WL.v (Runs.fld fld27_4 rfl) rfl ?_
              refine WL.gon rfl rfl rfl ?_
              refine WL.v (Runs.load1 Try.underlying3 rfl rfl (hL.ocell (i := 1) rfl rfl)) rfl ?_
              refine WL.gon rfl rfl rfl ?_
              refine WL.v (Runs.boolT (c := false) (Runs.neq rfl rfl) (by rw [f2]; simp)) rfl ?_
              refine WL.gon rfl rfl rfl ?_
              refine WL.v (Runs.pick rfl rfl rfl) rfl ?_
              refine WL.v (Runs.pick rfl rfl rfl) rfl ?_
              refine WL.nil (WN.thn ?_)
              refine WC.condF rfl (rfl) ?_
              refine WC.skip (WN.thn (WC.seq (WC.reg ?_)))
              refine WL.v (Runs.fld fld39_4 rfl) rfl ?_
              refine WL.v (Runs.boolT (c := true) (Runs.load1 Try.underlying4 rfl rfl (hL.ocell (i := 0) rfl rfl)) e2) rfl ?_
              refine WL.v (Runs.fld fld39_0 rfl) rfl ?_
              refine WL.v (Runs.boolT (c := true) (Runs.load1 Try.underlying4 rfl rfl (hL.ocell (i := 0) rfl rfl)) e1) rfl ?_
              refine WL.v (Runs.move rfl) rfl ?_
              refine WL.gon rfl rfl rfl ?_
              refine WL.v (Runs.fld fld39_1 rfl) rfl ?_
              refine WL.gon rfl rfl rfl ?_
              refine WL.v (Runs.fld fld37_0 rfl) rfl ?_
              refine WL.gon rfl rfl rfl ?_
              refine WL.v (Runs.load1 Try.underlying3 rfl rfl (hL.ocell (i := 0) rfl rfl)) rfl ?_
              refine WL.gon rfl rfl rfl ?_
              refine WL.v (Runs.boolT (c := true) (Runs.eql rfl rfl) (decide_eq_true e5)) rfl ?_
              refine WL.v (Runs.pick rfl rfl rfl) rfl ?_
              refine WL.v (Runs.boolT (c := true) (Runs.eqlb Try.underlying4 rfl rfl) rfl) rfl ?_
              refine WL.v (Runs.move rfl) rfl ?_
              refine WL.gon rfl rfl rfl ?_
              refine WL.v (Runs.fld fld39_5 rfl) rfl ?_
              refine WL.gon rfl rfl rfl ?_
              refine WL.v (Runs.boolT (c := false) (Runs.load1 Try.underlying4 rfl rfl (hL.ocell (i := 0) rfl rfl)) e3) rfl ?_
              refine WL.gon rfl rfl rfl ?_
              refine WL.v (Runs.fld fld39_0 rfl) rfl ?_
              refine WL.gon rfl rfl rfl ?_
              refine WL.v (Runs.boolT (c := true) (Runs.load1 Try.underlying4 rfl rfl (hL.ocell (i := 0) rfl rfl)) e1) rfl ?_
              refine WL.gon rfl rfl rfl ?_
              refine WL.v (Runs.move rfl) rfl ?_
              refine WL.gon rfl rfl rfl ?_
              refine WL.v (Runs.fld fld39_1 rfl) rfl ?_
              refine WL.gon rfl rfl rfl ?_
              refine WL.v (Runs.fld fld37_0 rfl) rfl ?_
              refine WL.gon rfl rfl rfl ?_
              refine WL.v (Runs.load1 Try.underlying3 rfl rfl (hL.ocell (i := 0) rfl rfl)) rfl ?_
              refine WL.gon rfl rfl rfl ?_
              refine WL.v (Runs.boolT (c := false) (Runs.eql rfl rfl) (by rw [e5]; rfl)) rfl ?_
              refine WL.gon rfl rfl rfl ?_
              refine WL.v (Runs.pick rfl rfl rfl) rfl ?_
              refine WL.gon rfl rfl rfl ?_
              refine WL.v (Runs.boolT (c := true) (Runs.eqlb Try.underlying4 rfl rfl) rfl) rfl ?_
              refine WL.v (Runs.pick rfl rfl rfl) rfl ?_
              refine WL.v (Runs.move rfl) rfl ?_
              refine WL.gon rfl rfl rfl ?_
              refine WL.v (Runs.fld fld39_4 rfl) rfl ?_
              refine WL.gon rfl rfl rfl ?_
              refine WL.v (Runs.boolT (c := true) (Runs.load1 Try.underlying4 rfl rfl (hL.ocell (i := 0) rfl rfl)) e2) rfl ?_
              refine WL.gon rfl rfl rfl ?_
              refine WL.v (Runs.not rfl) rfl ?_
              refine WL.gon rfl rfl rfl ?_
              refine WL.v (Runs.move rfl) rfl ?_
              refine WL.gon rfl rfl rfl ?_
              refine WL.v (Runs.fld fld33_2 rfl) rfl ?_
              refine WL.gon rfl rfl rfl ?_
              refine WL.v (Runs.fld fld27_0 rfl) rfl ?_
              refine WL.gon rfl rfl rfl ?_
              refine WL.v (Runs.load1 Try.underlying3 rfl rfl (hL.ocell (i := 1) rfl rfl)) rfl ?_
              refine WL.gon rfl rfl rfl ?_
              refine WL.v (Runs.boolT (c := true) (Runs.eql rfl rfl) (decide_eq_true e7)) rfl ?_
              refine WL.gon rfl rfl rfl ?_
              refine WL.v (Runs.pick rfl rfl rfl) rfl ?_
              refine WL.v (Runs.pick rfl rfl rfl) rfl ?_
              refine WL.v (Runs.move rfl) rfl ?_
              refine WL.gon rfl rfl rfl ?_
              refine WL.v (Runs.fld fld39_5 rfl) rfl ?_
              refine WL.gon rfl rfl rfl ?_
              refine WL.v (Runs.boolT (c := false) (Runs.load1 Try.underlying4 rfl rfl (hL.ocell (i := 0) rfl rfl)) e3) rfl ?_
              refine WL.gon rfl rfl rfl ?_
              refine WL.v (Runs.not rfl) rfl ?_
              refine WL.gon rfl rfl rfl ?_
              refine WL.v (Runs.move rfl) rfl ?_
              refine WL.goff rfl rfl rfl rfl ?_
              refine WL.goff rfl rfl rfl rfl ?_
              refine WL.goff rfl rfl rfl rfl ?_
              refine WL.goff rfl rfl rfl rfl ?_
              refine WL.gon rfl rfl rfl ?_
              refine WL.v (Runs.pick rfl rfl rfl) rfl ?_
              refine WL.v (Runs.pick rfl rfl rfl) rfl ?_
              refine WL.v (Runs.move rfl) rfl ?_
              refine WL.gon rfl rfl rfl ?_
              refine WL.v (Runs.fld fld39_6 rfl) rfl ?_
              refine WL.gon rfl rfl rfl ?_
              refine WL.v (Runs.boolT (c := false) (Runs.load1 Try.underlying4 rfl rfl (hL.ocell (i := 0) rfl rfl)) e4) rfl ?_
              refine WL.gon rfl rfl rfl ?_
              refine WL.v (Runs.not rfl) rfl ?_
              refine WL.gon rfl rfl rfl ?_
              refine WL.v (Runs.move rfl) rfl ?_
              refine WL.goff rfl rfl rfl rfl ?_
              refine WL.goff rfl rfl rfl rfl ?_
              refine WL.goff rfl rfl rfl rfl ?_
              refine WL.goff rfl rfl rfl rfl ?_
              refine WL.gon rfl rfl rfl ?_
              refine WL.v (Runs.pick rfl rfl rfl) rfl ?_
              refine WL.v (Runs.pick rfl rfl rfl) rfl ?_
              refine WL.v (Runs.move rfl) rfl ?_
              refine WL.gon rfl rfl rfl ?_
              refine WL.call can10 rfl rfl (live_c _ hL) ?_
              rintro _ w24 ⟨G178, hG178, rfl, h24⟩
              refine ⟨_, rfl, ?_⟩
              replace hleF := Le.trans hleF hG178
              replace hR := hR.mono hG178
              replace hf := hf.mono hG178
              replace hrd20 := hrd20.mono hG178
              refine WL.v (Runs.pick rfl rfl rfl) rfl ?_
              refine WL.v (Runs.assign rfl) rfl ?_
              refine WL.nil (WN.thn (WC.ret ?_))
              exact ret1 rfl rfl ⟨rfl, (((h24.drop 0).drop 0)).weak hleF⟩
            · obtain ⟨f1, f2⟩ := hc.hs e1
              refine WC.reg ?_
              refine WL.v (Runs.fld fld39_0 rfl) rfl ?_
              refine WL.v (Runs.boolT (c := true) (Runs.load1 Try.underlying4 rfl rfl (hL.ocell (i := 0) rfl rfl)) e1) rfl ?_
              refine WL.v (Runs.move rfl) rfl ?_
              refine WL.gon rfl rfl rfl ?_
              refine WL.v (Runs.fld fld39_1 rfl) rfl ?_
              refine WL.gon rfl rfl rfl ?_
              refine WL.v (Runs.fld fld37_1 rfl) rfl ?_
              refine WL.gon rfl rfl rfl ?_
              refine WL.v (Runs.load1 Try.underlying3 rfl rfl (hL.ocell (i := 0) rfl rfl)) rfl ?_
              refine WL.gon rfl rfl rfl ?_
              refine WL.v (Runs.fld fld33_2 rfl) rfl ?_
              refine WL.gon rfl rfl rfl ?_
              refine WL.v (Runs.fld fld27_3 rfl) rfl ?_
              refine WL.gon rfl rfl rfl ?_
              refine WL.v (Runs.load1 Try.underlying3 rfl rfl (hL.ocell (i := 1) rfl rfl)) rfl ?_
              refine WL.gon rfl rfl rfl ?_
              refine WL.v (Runs.boolT (c := false) (Runs.neq rfl rfl) (by rw [f1]; simp)) rfl ?_
              refine WL.gon rfl rfl rfl ?_
              refine WL.v (Runs.move rfl) rfl ?_
              refine WL.gon rfl rfl rfl ?_
              refine WL.v (Runs.fld fld39_1 rfl) rfl ?_
              refine WL.gon rfl rfl rfl ?_
              refine WL.v (Runs.fld fld37_2 rfl) rfl ?_
              refine WL.gon rfl rfl rfl ?_
              refine WL.v (Runs.load1 Try.underlying3 rfl rfl (hL.ocell (i := 0) rfl rfl)) rfl ?_
              refine WL.gon rfl rfl rfl ?_
              refine WL.v (Runs.fld fld33_2 rfl) rfl ?_
              refine WL.gon rfl rfl rfl ?_
              refine WL.v (Runs.fld fld27_4 rfl) rfl ?_
              refine WL.gon rfl rfl rfl ?_
              refine WL.v (Runs.load1 Try.underlying3 rfl rfl (hL.ocell (i := 1) rfl rfl)) rfl ?_
              refine WL.gon rfl rfl rfl ?_
              refine WL.v (Runs.boolT (c := false) (Runs.neq rfl rfl) (by rw [f2]; simp)) rfl ?_
              refine WL.gon rfl rfl rfl ?_
              refine WL.v (Runs.pick rfl rfl rfl) rfl ?_
              refine WL.v (Runs.pick rfl rfl rfl) rfl ?_
              refine WL.nil (WN.thn ?_)
              refine WC.condF rfl (rfl) ?_
              refine WC.skip (WN.thn (WC.seq (WC.reg ?_)))
              refine WL.v (Runs.fld fld39_4 rfl) rfl ?_
              refine WL.v (Runs.boolT (c := false) (Runs.load1 Try.underlying4 rfl rfl (hL.ocell (i := 0) rfl rfl)) e2) rfl ?_
              refine WL.v (Runs.fld fld39_0 rfl) rfl ?_
              refine WL.v (Runs.boolT (c := true) (Runs.load1 Try.underlying4 rfl rfl (hL.ocell (i := 0) rfl rfl)) e1) rfl ?_
              refine WL.v (Runs.move rfl) rfl ?_
              refine WL.gon rfl rfl rfl ?_
              refine WL.v (Runs.fld fld39_1 rfl) rfl ?_
              refine WL.gon rfl rfl rfl ?_
              refine WL.v (Runs.fld fld37_0 rfl) rfl ?_
              refine WL.gon rfl rfl rfl ?_
              refine WL.v (Runs.load1 Try.underlying3 rfl rfl (hL.ocell (i := 0) rfl rfl)) rfl ?_
              refine WL.gon rfl rfl rfl ?_
              refine WL.v (Runs.boolT (c := false) (Runs.eql rfl rfl) (by rw [e5]; rfl)) rfl ?_
              refine WL.v (Runs.pick rfl rfl rfl) rfl ?_
              refine WL.v (Runs.boolT (c := true) (Runs.eqlb Try.underlying4 rfl rfl) rfl) rfl ?_
              refine WL.v (Runs.move rfl) rfl ?_
              refine WL.gon rfl rfl rfl ?_
              refine WL.v (Runs.fld fld39_5 rfl) rfl ?_
              refine WL.gon rfl rfl rfl ?_
              refine WL.v (Runs.boolT (c := true) (Runs.load1 Try.underlying4 rfl rfl (hL.ocell (i := 0) rfl rfl)) e3) rfl ?_
              refine WL.gon rfl rfl rfl ?_
              refine WL.v (Runs.fld fld39_0 rfl) rfl ?_
              refine WL.gon rfl rfl rfl ?_
              refine WL.v (Runs.boolT (c := true) (Runs.load1 Try.underlying4 rfl rfl (hL.ocell (i := 0) rfl rfl)) e1) rfl ?_
              refine WL.gon rfl rfl rfl ?_
              refine WL.v (Runs.move rfl) rfl ?_
              refine WL.gon rfl rfl rfl ?_
              refine WL.v (Runs.fld fld39_1 rfl) rfl ?_
              refine WL.gon rfl rfl rfl ?_
              refine WL.v (Runs.fld fld37_0 rfl) rfl ?_
              refine WL.gon rfl rfl rfl ?_
              refine WL.v (Runs.load1 Try.underlying3 rfl rfl (hL.ocell (i := 0) rfl rfl)) rfl ?_
              refine WL.gon rfl rfl rfl ?_
              refine WL.v (Runs.boolT (c := true) (Runs.eql rfl rfl) (decide_eq_true e5)) rfl ?_
              refine WL.gon rfl rfl rfl ?_
              refine WL.v (Runs.pick rfl rfl rfl) rfl ?_
              refine WL.gon rfl rfl rfl ?_
              refine WL.v (Runs.boolT (c := true) (Runs.eqlb Try.underlying4 rfl rfl) rfl) rfl ?_
              refine WL.v (Runs.pick rfl rfl rfl) rfl ?_
              refine WL.v (Runs.move rfl) rfl ?_
              refine WL.gon rfl rfl rfl ?_
              refine WL.v (Runs.fld fld39_4 rfl) rfl ?_
              refine WL.gon rfl rfl rfl ?_
              refine WL.v (Runs.boolT (c := false) (Runs.load1 Try.underlying4 rfl rfl (hL.ocell (i := 0) rfl rfl)) e2) rfl ?_
              refine WL.gon rfl rfl rfl ?_
              refine WL.v (Runs.not rfl) rfl ?_
              refine WL.gon rfl rfl rfl ?_
              refine WL.v (Runs.move rfl) rfl ?_
              refine WL.goff rfl rfl rfl rfl ?_
              refine WL.goff rfl rfl rfl rfl ?_
              refine WL.goff rfl rfl rfl rfl ?_
              refine WL.goff rfl rfl rfl rfl ?_
              refine WL.gon rfl rfl rfl ?_
              refine WL.v (Runs.pick rfl rfl rfl) rfl ?_
              refine WL.v (Runs.pick rfl rfl rfl) rfl ?_
              refine WL.v (Runs.move rfl) rfl ?_
              refine WL.gon rfl rfl rfl ?_
              refine WL.v (Runs.fld fld39_5 rfl) rfl ?_
              refine WL.gon rfl rfl rfl ?_
              refine WL.v (Runs.boolT (c := true) (Runs.load1 Try.underlying4 rfl rfl (hL.ocell (i := 0) rfl rfl)) e3) rfl ?_
              refine WL.gon rfl rfl rfl ?_
              refine WL.v (Runs.not rfl) rfl ?_
              refine WL.gon rfl rfl rfl ?_
              refine WL.v (Runs.move rfl) rfl ?_
              refine WL.gon rfl rfl rfl ?_
              refine WL.v (Runs.fld fld33_2 rfl) rfl ?_
              refine WL.gon rfl rfl rfl ?_
              refine WL.v (Runs.fld fld27_0 rfl) rfl ?_
              refine WL.gon rfl rfl rfl ?_
              refine WL.v (Runs.load1 Try.underlying3 rfl rfl (hL.ocell (i := 1) rfl rfl)) rfl ?_
              refine WL.gon rfl rfl rfl ?_
              refine WL.v (Runs.boolT (c := true) (Runs.eql rfl rfl) (decide_eq_true e7)) rfl ?_
              refine WL.gon rfl rfl rfl ?_
              refine WL.v (Runs.pick rfl rfl rfl) rfl ?_
              refine WL.v (Runs.pick rfl rfl rfl) rfl ?_
              refine WL.v (Runs.move rfl) rfl ?_
              refine WL.gon rfl rfl rfl ?_
              refine WL.v (Runs.fld fld39_6 rfl) rfl ?_
              refine WL.gon rfl rfl rfl ?_
              refine WL.v (Runs.boolT (c := false) (Runs.load1 Try.underlying4 rfl rfl (hL.ocell (i := 0) rfl rfl)) e4) rfl ?_
              refine WL.gon rfl rfl rfl ?_
              refine WL.v (Runs.not rfl) rfl ?_
              refine WL.gon rfl rfl rfl ?_
              refine WL.v (Runs.move rfl) rfl ?_
              refine WL.goff rfl rfl rfl rfl ?_
              refine WL.goff rfl rfl rfl rfl ?_
              refine WL.goff rfl rfl rfl rfl ?_
              refine WL.goff rfl rfl rfl rfl ?_
              refine WL.gon rfl rfl rfl ?_
              refine WL.v (Runs.pick rfl rfl rfl) rfl ?_
              refine WL.v (Runs.pick rfl rfl rfl) rfl ?_
              refine WL.v (Runs.move rfl) rfl ?_
              refine WL.gon rfl rfl rfl ?_
              refine WL.call can10 rfl rfl (live_c _ hL) ?_
              rintro _ w25 ⟨G178, hG178, rfl, h25⟩
              refine ⟨_, rfl, ?_⟩
              replace hleF := Le.trans hleF hG178
              replace hR := hR.mono hG178
              replace hf := hf.mono hG178
              replace hrd20 := hrd20.mono hG178
              refine WL.v (Runs.pick rfl rfl rfl) rfl ?_
              refine WL.v (Runs.assign rfl) rfl ?_
              refine WL.nil (WN.thn (WC.ret ?_))
              exact ret1 rfl rfl ⟨rfl, (((h25.drop 0).drop 0)).weak hleF⟩
            · skip
              refine WC.reg ?_
              refine WL.v (Runs.fld fld39_0 rfl) rfl ?_
              refine WL.v (Runs.boolT (c := false) (Runs.load1 Try.underlying4 rfl rfl (hL.ocell (i := 0) rfl rfl)) e1) rfl ?_
              refine WL.v (Runs.move rfl) rfl ?_
              refine WL.goff rfl rfl rfl rfl ?_
              refine WL.goff rfl rfl rfl rfl ?_
              refine WL.goff rfl rfl rfl rfl ?_
              refine WL.goff rfl rfl rfl rfl ?_
              refine WL.goff rfl rfl rfl rfl ?_
              refine WL.goff rfl rfl rfl rfl ?_
              refine WL.goff rfl rfl rfl rfl ?_
              refine WL.goff rfl rfl rfl rfl ?_
              refine WL.goffU rfl rfl rfl ?_
              refine WL.goffU rfl rfl rfl ?_
              refine WL.goffU rfl rfl rfl ?_
              refine WL.goffU rfl rfl rfl ?_
              refine WL.goffU rfl rfl rfl ?_
              refine WL.goffU rfl rfl rfl ?_
              refine WL.goffU rfl rfl rfl ?_
              refine WL.goff rfl rfl rfl rfl ?_
              refine WL.v (Runs.pick rfl rfl rfl) rfl ?_
              refine WL.nil (WN.thn ?_)
              refine WC.condF rfl (rfl) ?_
              refine WC.skip (WN.thn (WC.seq (WC.reg ?_)))
              refine WL.v (Runs.fld fld39_4 rfl) rfl ?_
              refine WL.v (Runs.boolT (c := false) (Runs.load1 Try.underlying4 rfl rfl (hL.ocell (i := 0) rfl rfl)) e2) rfl ?_
              refine WL.v (Runs.fld fld39_0 rfl) rfl ?_
              refine WL.v (Runs.boolT (c := false) (Runs.load1 Try.underlying4 rfl rfl (hL.ocell (i := 0) rfl rfl)) e1) rfl ?_
              refine WL.v (Runs.move rfl) rfl ?_
              refine WL.goff rfl rfl rfl rfl ?_
              refine WL.goff rfl rfl rfl rfl ?_
              refine WL.goff rfl rfl rfl rfl ?_
              refine WL.goff rfl rfl rfl rfl ?_
              refine WL.v (Runs.pick rfl rfl rfl) rfl ?_
              refine WL.v (Runs.boolT (c := true) (Runs.eqlb Try.underlying4 rfl rfl) rfl) rfl ?_
              refine WL.v (Runs.move rfl) rfl ?_
              refine WL.gon rfl rfl rfl ?_
              refine WL.v (Runs.fld fld39_5 rfl) rfl ?_
              refine WL.gon rfl rfl rfl ?_
              refine WL.v (Runs.boolT (c := false) (Runs.load1 Try.underlying4 rfl rfl (hL.ocell (i := 0) rfl rfl)) e3) rfl ?_
              refine WL.gon rfl rfl rfl ?_
              refine WL.v (Runs.fld fld39_0 rfl) rfl ?_
              refine WL.gon rfl rfl rfl ?_
              refine WL.v (Runs.boolT (c := false) (Runs.load1 Try.underlying4 rfl rfl (hL.ocell (i := 0) rfl rfl)) e1) rfl ?_
              refine WL.gon rfl rfl rfl ?_
              refine WL.v (Runs.move rfl) rfl ?_
              refine WL.goff rfl rfl rfl rfl ?_
              refine WL.goff rfl rfl rfl rfl ?_
              refine WL.goff rfl rfl rfl rfl ?_
              refine WL.goff rfl rfl rfl rfl ?_
              refine WL.gon rfl rfl rfl ?_
              refine WL.v (Runs.pick rfl rfl rfl) rfl ?_
              refine WL.gon rfl rfl rfl ?_
              refine WL.v (Runs.boolT (c := true) (Runs.eqlb Try.underlying4 rfl rfl) rfl) rfl ?_
              refine WL.v (Runs.pick rfl rfl rfl) rfl ?_
              refine WL.v (Runs.move rfl) rfl ?_
              refine WL.gon rfl rfl rfl ?_
              refine WL.v (Runs.fld fld39_4 rfl) rfl ?_
              refine WL.gon rfl rfl rfl ?_
              refine WL.v (Runs.boolT (c := false) (Runs.load1 Try.underlying4 rfl rfl (hL.ocell (i := 0) rfl rfl)) e2) rfl ?_
              refine WL.gon rfl rfl rfl ?_
              refine WL.v (Runs.not rfl) rfl ?_
              refine WL.gon rfl rfl rfl ?_
              refine WL.v (Runs.move rfl) rfl ?_
              refine WL.goff rfl rfl rfl rfl ?_
              refine WL.goff rfl rfl rfl rfl ?_
              refine WL.goff rfl rfl rfl rfl ?_
              refine WL.goff rfl rfl rfl rfl ?_
              refine WL.gon rfl rfl rfl ?_
              refine WL.v (Runs.pick rfl rfl rfl) rfl ?_
              refine WL.v (Runs.pick rfl rfl rfl) rfl ?_
              refine WL.v (Runs.move rfl) rfl ?_
              refine WL.gon rfl rfl rfl ?_
              refine WL.v (Runs.fld fld39_5 rfl) rfl ?_
              refine WL.gon rfl rfl rfl ?_
              refine WL.v (Runs.boolT (c := false) (Runs.load1 Try.underlying4 rfl rfl (hL.ocell (i := 0) rfl rfl)) e3) rfl ?_
              refine WL.gon rfl rfl rfl ?_
              refine WL.v (Runs.not rfl) rfl ?_
              refine WL.gon rfl rfl rfl ?_
              refine WL.v (Runs.move rfl) rfl ?_
              refine WL.goff rfl rfl rfl rfl ?_
              refine WL.goff rfl rfl rfl rfl ?_
              refine WL.goff rfl rfl rfl rfl ?_
              refine WL.goff rfl rfl rfl rfl ?_
              refine WL.gon rfl rfl rfl ?_
              refine WL.v (Runs.pick rfl rfl rfl) rfl ?_
              refine WL.v (Runs.pick rfl rfl rfl) rfl ?_
              refine WL.v (Runs.move rfl) rfl ?_
              refine WL.gon rfl rfl rfl ?_
              refine WL.v (Runs.fld fld39_6 rfl) rfl ?_
              refine WL.gon rfl rfl rfl ?_
              refine WL.v (Runs.boolT (c := true) (Runs.load1 Try.underlying4 rfl rfl (hL.ocell (i := 0) rfl rfl)) e4) rfl ?_
              refine WL.gon rfl rfl rfl ?_
              refine WL.v (Runs.not rfl) rfl ?_
              refine WL.gon rfl rfl rfl ?_
              refine WL.v (Runs.move rfl) rfl ?_
              refine WL.gon rfl rfl rfl ?_
              refine WL.v (Runs.fld fld33_2 rfl) rfl ?_
              refine WL.gon rfl rfl rfl ?_
              refine WL.v (Runs.fld fld27_0 rfl) rfl ?_
              refine WL.gon rfl rfl rfl ?_
              refine WL.v (Runs.load1 Try.underlying3 rfl rfl (hL.ocell (i := 1) rfl rfl)) rfl ?_
              refine WL.gon rfl rfl rfl ?_
              refine WL.v (Runs.boolT (c := true) (Runs.eql rfl rfl) (decide_eq_true e7)) rfl ?_
              refine WL.gon rfl rfl rfl ?_
              refine WL.v (Runs.pick rfl rfl rfl) rfl ?_
              refine WL.v (Runs.pick rfl rfl rfl) rfl ?_
              refine WL.v (Runs.move rfl) rfl ?_
              refine WL.gon rfl rfl rfl ?_
              refine WL.call can10 rfl rfl (live_c _ hL) ?_
              rintro _ w26 ⟨G178, hG178, rfl, h26⟩
              refine ⟨_, rfl, ?_⟩
              replace hleF := Le.trans hleF hG178
              replace hR := hR.mono hG178
              replace hf := hf.mono hG178
              replace hrd20 := hrd20.mono hG178
              refine WL.v (Runs.pick rfl rfl rfl) rfl ?_
              refine WL.v (Runs.assign rfl) rfl ?_
              refine WL.nil (WN.thn (WC.ret ?_))
              exact ret1 rfl rfl ⟨rfl, (((h26.drop 0).drop 0)).weak hleF⟩
            · obtain ⟨f1, f2⟩ := hc.hs e1
              refine WC.reg ?_
              refine WL.v (Runs.fld fld39_0 rfl) rfl ?_
              refine WL.v (Runs.boolT (c := true) (Runs.load1 Try.underlying4 rfl rfl (hL.ocell (i := 0) rfl rfl)) e1) rfl ?_
              refine WL.v (Runs.move rfl) rfl ?_
              refine WL.gon rfl rfl rfl ?_
              refine WL.v (Runs.fld fld39_1 rfl) rfl ?_
              refine WL.gon rfl rfl rfl ?_
              refine WL.v (Runs.fld fld37_1 rfl) rfl ?_
              refine WL.gon rfl rfl rfl ?_
              refine WL.v (Runs.load1 Try.underlying3 rfl rfl (hL.ocell (i := 0) rfl rfl)) rfl ?_
              refine WL.gon rfl rfl rfl ?_
              refine WL.v (Runs.fld fld33_2 rfl) rfl ?_
              refine WL.gon rfl rfl rfl ?_
              refine WL.v (Runs.fld fld27_3 rfl) rfl ?_
              refine WL.gon rfl rfl rfl ?_
              refine WL.v (Runs.load1 Try.underlying3 rfl rfl (hL.ocell (i := 1) rfl rfl)) rfl ?_
              refine WL.gon rfl rfl rfl ?_
              refine WL.v (Runs.boolT (c := false) (Runs.neq rfl rfl) (by rw [f1]; simp)) rfl ?_
              refine WL.gon rfl rfl rfl ?_
              refine WL.v (Runs.move rfl) rfl ?_
              refine WL.gon rfl rfl rfl ?_
              refine WL.v (Runs.fld fld39_1 rfl) rfl ?_
              refine WL.gon rfl rfl rfl ?_
              refine WL.v (Runs.fld fld37_2 rfl) rfl ?_
              refine WL.gon rfl rfl rfl ?_
              refine WL.v (Runs.load1 Try.underlying3 rfl rfl (hL.ocell (i := 0) rfl rfl)) rfl ?_
              refine WL.gon rfl rfl rfl ?_
              refine WL.v (Runs.fld fld33_2 rfl) rfl ?_
              refine WL.gon rfl rfl rfl ?_
              refine WL.v (Runs.fld fld27_4 rfl) rfl ?_
              refine WL.gon rfl rfl rfl ?_
              refine WL.v (Runs.load1 Try.underlying3 rfl rfl (hL.ocell (i := 1) rfl rfl)) rfl ?_
              refine WL.gon rfl rfl rfl ?_
              refine WL.v (Runs.boolT (c := false) (Runs.neq rfl rfl) (by rw [f2]; simp)) rfl ?_
              refine WL.gon rfl rfl rfl ?_
              refine WL.v (Runs.pick rfl rfl rfl) rfl ?_
              refine WL.v (Runs.pick rfl rfl rfl) rfl ?_
              refine WL.nil (WN.thn ?_)
              refine WC.condF rfl (rfl) ?_
              refine WC.skip (WN.thn (WC.seq (WC.reg ?_)))
              refine WL.v (Runs.fld fld39_4 rfl) rfl ?_
              refine WL.v (Runs.boolT (c := false) (Runs.load1 Try.underlying4 rfl rfl (hL.ocell (i := 0) rfl rfl)) e2) rfl ?_
              refine WL.v (Runs.fld fld39_0 rfl) rfl ?_
              refine WL.v (Runs.boolT (c := true) (Runs.load1 Try.underlying4 rfl rfl (hL.ocell (i := 0) rfl rfl)) e1) rfl ?_
              refine WL.v (Runs.move rfl) rfl ?_
              refine WL.gon rfl rfl rfl ?_
              refine WL.v (Runs.fld fld39_1 rfl) rfl ?_
              refine WL.gon rfl rfl rfl ?_
              refine WL.v (Runs.fld fld37_0 rfl) rfl ?_
              refine WL.gon rfl rfl rfl ?_
              refine WL.v (Runs.load1 Try.underlying3 rfl rfl (hL.ocell (i := 0) rfl rfl)) rfl ?_
              refine WL.gon rfl rfl rfl ?_
              refine WL.v (Runs.boolT (c := false) (Runs.eql rfl rfl) (decide_eq_false e5)) rfl ?_
              refine WL.v (Runs.pick rfl rfl rfl) rfl ?_
              refine WL.v (Runs.boolT (c := true) (Runs.eqlb Try.underlying4 rfl rfl) rfl) rfl ?_
              refine WL.v (Runs.move rfl) rfl ?_
              refine WL.gon rfl rfl rfl ?_
              refine WL.v (Runs.fld fld39_5 rfl) rfl ?_
              refine WL.gon rfl rfl rfl ?_
              refine WL.v (Runs.boolT (c := false) (Runs.load1 Try.underlying4 rfl rfl (hL.ocell (i := 0) rfl rfl)) e3) rfl ?_
              refine WL.gon rfl rfl rfl ?_
              refine WL.v (Runs.fld fld39_0 rfl) rfl ?_
              refine WL.gon rfl rfl rfl ?_
              refine WL.v (Runs.boolT (c := true) (Runs.load1 Try.underlying4 rfl rfl (hL.ocell (i := 0) rfl rfl)) e1) rfl ?_
              refine WL.gon rfl rfl rfl ?_
              refine WL.v (Runs.move rfl) rfl ?_
              refine WL.gon rfl rfl rfl ?_
              refine WL.v (Runs.fld fld39_1 rfl) rfl ?_
              refine WL.gon rfl rfl rfl ?_
              refine WL.v (Runs.fld fld37_0 rfl) rfl ?_
              refine WL.gon rfl rfl rfl ?_
              refine WL.v (Runs.load1 Try.underlying3 rfl rfl (hL.ocell (i := 0) rfl rfl)) rfl ?_
              refine WL.gon rfl rfl rfl ?_
              refine WL.v (Runs.boolT (c := false) (Runs.eql rfl rfl) (decide_eq_false e6)) rfl ?_
              refine WL.gon rfl rfl rfl ?_
              refine WL.v (Runs.pick rfl rfl rfl) rfl ?_
              refine WL.gon rfl rfl rfl ?_
              refine WL.v (Runs.boolT (c := true) (Runs.eqlb Try.underlying4 rfl rfl) rfl) rfl ?_
              refine WL.v (Runs.pick rfl rfl rfl) rfl ?_
              refine WL.v (Runs.move rfl) rfl ?_
              refine WL.gon rfl rfl rfl ?_
              refine WL.v (Runs.fld fld39_4 rfl) rfl ?_
              refine WL.gon rfl rfl rfl ?_
              refine WL.v (Runs.boolT (c := false) (Runs.load1 Try.underlying4 rfl rfl (hL.ocell (i := 0) rfl rfl)) e2) rfl ?_
              refine WL.gon rfl rfl rfl ?_
              refine WL.v (Runs.not rfl) rfl ?_
              refine WL.gon rfl rfl rfl ?_
              refine WL.v (Runs.move rfl) rfl ?_
              refine WL.goff rfl rfl rfl rfl ?_
              refine WL.goff rfl rfl rfl rfl ?_
              refine WL.goff rfl rfl rfl rfl ?_
              refine WL.goff rfl rfl rfl rfl ?_
              refine WL.gon rfl rfl rfl ?_
              refine WL.v (Runs.pick rfl rfl rfl) rfl ?_
              refine WL.v (Runs.pick rfl rfl rfl) rfl ?_
              refine WL.v (Runs.move rfl) rfl ?_
              refine WL.gon rfl rfl rfl ?_
              refine WL.v (Runs.fld fld39_5 rfl) rfl ?_
              refine WL.gon rfl rfl rfl ?_
              refine WL.v (Runs.boolT (c := false) (Runs.load1 Try.underlying4 rfl rfl (hL.ocell (i := 0) rfl rfl)) e3) rfl ?_
              refine WL.gon rfl rfl rfl ?_
              refine WL.v (Runs.not rfl) rfl ?_
              refine WL.gon rfl rfl rfl ?_
              refine WL.v (Runs.move rfl) rfl ?_
              refine WL.goff rfl rfl rfl rfl ?_
              refine WL.goff rfl rfl rfl rfl ?_
              refine WL.goff rfl rfl rfl rfl ?_
              refine WL.goff rfl rfl rfl rfl ?_
              refine WL.gon rfl rfl rfl ?_
              refine WL.v (Runs.pick rfl rfl rfl) rfl ?_
              refine WL.v (Runs.pick rfl rfl rfl) rfl ?_
              refine WL.v (Runs.move rfl) rfl ?_
              refine WL.gon rfl rfl rfl ?_
              refine WL.v (Runs.fld fld39_6 rfl) rfl ?_
              refine WL.gon rfl rfl rfl ?_
              refine WL.v (Runs.boolT (c := false) (Runs.load1 Try.underlying4 rfl rfl (hL.ocell (i := 0) rfl rfl)) e4) rfl ?_
              refine WL.gon rfl rfl rfl ?_
              refine WL.v (Runs.not rfl) rfl ?_
              refine WL.gon rfl rfl rfl ?_
              refine WL.v (Runs.move rfl) rfl ?_
              refine WL.goff rfl rfl rfl rfl ?_
              refine WL.goff rfl rfl rfl rfl ?_
              refine WL.goff rfl rfl rfl rfl ?_
              refine WL.goff rfl rfl rfl rfl ?_
              refine WL.gon rfl rfl rfl ?_
              refine WL.v (Runs.pick rfl rfl rfl) rfl ?_
              refine WL.v (Runs.pick rfl rfl rfl) rfl ?_
              refine WL.v (Runs.move rfl) rfl ?_
              refine WL.gon rfl rfl rfl ?_
              refine WL.call can10 rfl rfl (live_c _ hL) ?_
              rintro _ w27 ⟨G178, hG178, rfl, h27⟩
              refine ⟨_, rfl, ?_⟩
              replace hleF := Le.trans hleF hG178
              replace hR := hR.mono hG178
              replace hf := hf.mono hG178
              replace hrd20 := hrd20.mono hG178
              refine WL.v (Runs.pick rfl rfl rfl) rfl ?_
              refine WL.v (Runs.assign rfl) rfl ?_
              refine WL.nil (WN.thn (WC.ret ?_))
              exact ret1 rfl rfl ⟨rfl, (((h27.drop 0).drop 0)).weak hleF⟩
            · skip
              refine WC.reg ?_
              refine WL.v (Runs.fld fld39_0 rfl) rfl ?_
              refine WL.v (Runs.boolT (c := false) (Runs.load1 Try.underlying4 rfl rfl (hL.ocell (i := 0) rfl rfl)) e1) rfl ?_
              refine WL.v (Runs.move rfl) rfl ?_
              refine WL.goff rfl rfl rfl rfl ?_
              refine WL.goff rfl rfl rfl rfl ?_
              refine WL.goff rfl rfl rfl rfl ?_
              refine WL.goff rfl rfl rfl rfl ?_
              refine WL.goff rfl rfl rfl rfl ?_
              refine WL.goff rfl rfl rfl rfl ?_
              refine WL.goff rfl rfl rfl rfl ?_
              refine WL.goff rfl rfl rfl rfl ?_
              refine WL.goffU rfl rfl rfl ?_
              refine WL.goffU rfl rfl rfl ?_
              refine WL.goffU rfl rfl rfl ?_
              refine WL.goffU rfl rfl rfl ?_
              refine WL.goffU rfl rfl rfl ?_
              refine WL.goffU rfl rfl rfl ?_
              refine WL.goffU rfl rfl rfl ?_
              refine WL.goff rfl rfl rfl rfl ?_
              refine WL.v (Runs.pick rfl rfl rfl) rfl ?_
              refine WL.nil (WN.thn ?_)
              refine WC.condF rfl (rfl) ?_
              refine WC.skip (WN.thn (WC.seq (WC.reg ?_)))
              refine WL.v (Runs.fld fld39_4 rfl) rfl ?_
              refine WL.v (Runs.boolT (c := false) (Runs.load1 Try.underlying4 rfl rfl (hL.ocell (i := 0) rfl rfl)) e2) rfl ?_
              refine WL.v (Runs.fld fld39_0 rfl) rfl ?_
              refine WL.v (Runs.boolT (c := false) (Runs.load1 Try.underlying4 rfl rfl (hL.ocell (i := 0) rfl rfl)) e1) rfl ?_
              refine WL.v (Runs.move rfl) rfl ?_
              refine WL.goff rfl rfl rfl rfl ?_
              refine WL.goff rfl rfl rfl rfl ?_
              refine WL.goff rfl rfl rfl rfl ?_
              refine WL.goff rfl rfl rfl rfl ?_
              refine WL.v (Runs.pick rfl rfl rfl) rfl ?_
              refine WL.v (Runs.boolT (c := true) (Runs.eqlb Try.underlying4 rfl rfl) rfl) rfl ?_
              refine WL.v (Runs.move rfl) rfl ?_
              refine WL.gon rfl rfl rfl ?_
              refine WL.v (Runs.fld fld39_5 rfl) rfl ?_
              refine WL.gon rfl rfl rfl ?_
              refine WL.v (Runs.boolT (c := false) (Runs.load1 Try.underlying4 rfl rfl (hL.ocell (i := 0) rfl rfl)) e3) rfl ?_
              refine WL.gon rfl rfl rfl ?_
              refine WL.v (Runs.fld fld39_0 rfl) rfl ?_
              refine WL.gon rfl rfl rfl ?_
              refine WL.v (Runs.boolT (c := false) (Runs.load1 Try.underlying4 rfl rfl (hL.ocell (i := 0) rfl rfl)) e1) rfl ?_
              refine WL.gon rfl rfl rfl ?_
              refine WL.v (Runs.move rfl) rfl ?_
              refine WL.goff rfl rfl rfl rfl ?_
              refine WL.goff rfl rfl rfl rfl ?_
              refine WL.goff rfl rfl rfl rfl ?_
              refine WL.goff rfl rfl rfl rfl ?_
              refine WL.gon rfl rfl rfl ?_
              refine WL.v (Runs.pick rfl rfl rfl) rfl ?_
              refine WL.gon rfl rfl rfl ?_
              refine WL.v (Runs.boolT (c := true) (Runs.eqlb Try.underlying4 rfl rfl) rfl) rfl ?_
              refine WL.v (Runs.pick rfl rfl rfl) rfl ?_
              refine WL.v (Runs.move rfl) rfl ?_
              refine WL.gon rfl rfl rfl ?_
              refine WL.v (Runs.fld fld39_4 rfl) rfl ?_
              refine WL.gon rfl rfl rfl ?_
              refine WL.v (Runs.boolT (c := false) (Runs.load1 Try.underlying4 rfl rfl (hL.ocell (i := 0) rfl rfl)) e2) rfl ?_
              refine WL.gon rfl rfl rfl ?_
              refine WL.v (Runs.not rfl) rfl ?_
              refine WL.gon rfl rfl rfl ?_
              refine WL.v (Runs.move rfl) rfl ?_
              refine WL.goff rfl rfl rfl rfl ?_
              refine WL.goff rfl rfl rfl rfl ?_
              refine WL.goff rfl rfl rfl rfl ?_
              refine WL.goff rfl rfl rfl rfl ?_
              refine WL.gon rfl rfl rfl ?_
              refine WL.v (Runs.pick rfl rfl rfl) rfl ?_
              refine WL.v (Runs.pick rfl rfl rfl) rfl ?_
              refine WL.v (Runs.move rfl) rfl ?_
              refine WL.gon rfl rfl rfl ?_
              refine WL.v (Runs.fld fld39_5 rfl) rfl ?_
              refine WL.gon rfl rfl rfl ?_
              refine WL.v (Runs.boolT (c := false) (Runs.load1 Try.underlying4 rfl rfl (hL.ocell (i := 0) rfl rfl)) e3) rfl ?_
              refine WL.gon rfl rfl rfl ?_
              refine WL.v (Runs.not rfl) rfl ?_
              refine WL.gon rfl rfl rfl ?_
              refine WL.v (Runs.move rfl) rfl ?_
              refine WL.goff rfl rfl rfl rfl ?_
              refine WL.goff rfl rfl rfl rfl ?_
              refine WL.goff rfl rfl rfl rfl ?_
              refine WL.goff rfl rfl rfl rfl ?_
              refine WL.gon rfl rfl rfl ?_
              refine WL.v (Runs.pick rfl rfl rfl) rfl ?_
              refine WL.v (Runs.pick rfl rfl rfl) rfl ?_
              refine WL.v (Runs.move rfl) rfl ?_
              refine WL.gon rfl rfl rfl ?_
              refine WL.v (Runs.fld fld39_6 rfl) rfl ?_
              refine WL.gon rfl rfl rfl ?_
              refine WL.v (Runs.boolT (c := false) (Runs.load1 Try.underlying4 rfl rfl (hL.ocell (i := 0) rfl rfl)) e4) rfl ?_
              refine WL.gon rfl rfl rfl ?_
              refine WL.v (Runs.not rfl) rfl ?_
              refine WL.gon rfl rfl rfl ?_
              refine WL.v (Runs.move rfl) rfl ?_
              refine WL.goff rfl rfl rfl rfl ?_
              refine WL.goff rfl rfl rfl rfl ?_
              refine WL.goff rfl rfl rfl rfl ?_
              refine WL.goff rfl rfl rfl rfl ?_
              refine WL.gon rfl rfl rfl ?_
              refine WL.v (Runs.pick rfl rfl rfl) rfl ?_
              refine WL.v (Runs.pick rfl rfl rfl) rfl ?_
              refine WL.v (Runs.move rfl) rfl ?_
              refine WL.gon rfl rfl rfl ?_
              refine WL.call can10 rfl rfl (live_c _ hL) ?_
              rintro _ w28 ⟨G178, hG178, rfl, h28⟩
              refine ⟨_, rfl, ?_⟩
              replace hleF := Le.trans hleF hG178
              replace hR := hR.mono hG178
              replace hf := hf.mono hG178
              replace hrd20 := hrd20.mono hG178
              refine WL.v (Runs.pick rfl rfl rfl) rfl ?_
              refine WL.v (Runs.assign rfl) rfl ?_
              refine WL.nil (WN.thn (WC.ret ?_))
              exact ret1 rfl rfl ⟨rfl, (((h28.drop 0).drop 0)).weak hleF⟩
          · skip
            refine WC.reg ?_
            refine WL.v (Runs.fld fld39_2 rfl) rfl ?_
            refine WL.v (Runs.boolT (c := false) (Runs.load1 Try.underlying4 rfl rfl (hL.ocell (i := 0) rfl rfl)) g0) rfl ?_
            refine WL.v (Runs.move rfl) rfl ?_
            refine WL.goff rfl rfl rfl rfl ?_
            refine WL.goff rfl rfl rfl rfl ?_
            refine WL.goff rfl rfl rfl rfl ?_
            refine WL.goff rfl rfl rfl rfl ?_
            refine WL.goff rfl rfl rfl rfl ?_
            refine WL.goff rfl rfl rfl rfl ?_
            refine WL.goff rfl rfl rfl rfl ?_
            refine WL.goffU rfl rfl rfl ?_
            refine WL.goffU rfl rfl rfl ?_
            refine WL.goffU rfl rfl rfl ?_
            refine WL.goffU rfl rfl rfl ?_
            refine WL.goff rfl rfl rfl rfl ?_
            refine WL.goff rfl rfl rfl rfl ?_
            refine WL.goffU rfl rfl rfl ?_
            refine WL.goffU rfl rfl rfl ?_
            refine WL.goffU rfl rfl rfl ?_
            refine WL.goffU rfl rfl rfl ?_
            refine WL.goffU rfl rfl rfl ?_
            refine WL.goffU rfl rfl rfl ?_
            refine WL.goffU rfl rfl rfl ?_
            refine WL.goff rfl rfl rfl rfl ?_
            refine WL.goff rfl rfl rfl rfl ?_
            refine WL.goffU rfl rfl rfl ?_
            refine WL.goffU rfl rfl rfl ?_
            refine WL.goffU rfl rfl rfl ?_
            refine WL.goffU rfl rfl rfl ?_
            refine WL.goffU rfl rfl rfl ?_
            refine WL.goffU rfl rfl rfl ?_
            refine WL.goffU rfl rfl rfl ?_
            refine WL.goff rfl rfl rfl rfl ?_
            refine WL.goff rfl rfl rfl rfl ?_
            refine WL.goffU rfl rfl rfl ?_
            refine WL.goffU rfl rfl rfl ?_
            refine WL.goffU rfl rfl rfl ?_
            refine WL.goffU rfl rfl rfl ?_
            refine WL.goffU rfl rfl rfl ?_
            refine WL.goffU rfl rfl rfl ?_
            refine WL.goffU rfl rfl rfl ?_
            refine WL.goff rfl rfl rfl rfl ?_
            refine WL.goff rfl rfl rfl rfl ?_
            refine WL.goffU rfl rfl rfl ?_
            refine WL.goffU rfl rfl rfl ?_
            refine WL.goffU rfl rfl rfl ?_
            refine WL.goffU rfl rfl rfl ?_
            refine WL.goff rfl rfl rfl rfl ?_
            refine WL.v (Runs.pick rfl rfl rfl) rfl ?_
            refine WL.nil (WN.thn ?_)
            refine WC.condF rfl (rfl) ?_
            refine WC.skip (WN.thn (WC.seq (WC.seq ?_)))
            rcases hc.sh with ⟨e1, e2, e3, e4, e5, e7⟩ | ⟨e1, e2, e3, e4, e5, e7⟩ | ⟨e1, e2, e3, e4, e7⟩ | ⟨e1, e2, e3, e4, e5, e6⟩ | ⟨e1, e2, e3, e4⟩
            · obtain ⟨f1, f2⟩ := hc.hs e1
              refine WC.reg ?_
              refine WL.v (Runs.fld fld39_0 rfl) rfl ?_
              refine WL.v (Runs.boolT (c := true) (Runs.load1 Try.underlying4 rfl rfl (hL.ocell (i := 0) rfl rfl)) e1) rfl ?_
              refine WL.v (Runs.move rfl) rfl ?_
              refine WL.gon rfl rfl rfl ?_
              refine WL.v (Runs.fld fld39_1 rfl) rfl ?_
              refine WL.gon rfl rfl rfl ?_
              refine WL.v (Runs.fld fld37_1 rfl) rfl ?_
              refine WL.gon rfl rfl rfl ?_
              refine WL.v (Runs.load1 Try.underlying3 rfl rfl (hL.ocell (i := 0) rfl rfl)) rfl ?_
              refine WL.gon rfl rfl rfl ?_
              refine WL.v (Runs.fld fld33_2 rfl) rfl ?_
              refine WL.gon rfl rfl rfl ?_
              refine WL.v (Runs.fld fld27_3 rfl) rfl ?_
              refine WL.gon rfl rfl rfl ?_
              refine WL.v (Runs.load1 Try.underlying3 rfl rfl (hL.ocell (i := 1) rfl rfl)) rfl ?_
              refine WL.gon rfl rfl rfl ?_
              refine WL.v (Runs.boolT (c := false) (Runs.neq rfl rfl) (by rw [f1]; simp)) rfl ?_
              refine WL.gon rfl rfl rfl ?_
              refine WL.v (Runs.move rfl) rfl ?_
              refine WL.gon rfl rfl rfl ?_
              refine WL.v (Runs.fld fld39_1 rfl) rfl ?_
              refine WL.gon rfl rfl rfl ?_
              refine WL.v (Runs.fld fld37_2 rfl) rfl ?_
              refine WL.gon rfl rfl rfl ?_
              refine WL.v (Runs.load1 Try.underlying3 rfl rfl (hL.ocell (i := 0) rfl rfl)) rfl ?_
              refine WL.gon rfl rfl rfl ?_
              refine WL.v (Runs.fld fld33_2 rfl) rfl ?_
              refine WL.gon rfl rfl rfl ?_
              refine WL.v (Runs.fld fld27_4 rfl) rfl ?_
              refine WL.gon rfl rfl rfl ?_
              refine WL.v (Runs.load1 Try.underlying3 rfl rfl (hL.ocell (i := 1) rfl rfl)) rfl ?_
              refine WL.gon rfl rfl rfl ?_
              refine WL.v (Runs.boolT (c := false) (Runs.neq rfl rfl) (by rw [f2]; simp)) rfl ?_
              refine WL.gon rfl rfl rfl ?_
              refine WL.v (Runs.pick rfl rfl rfl) rfl ?_
              refine WL.v (Runs.pick rfl rfl rfl) rfl ?_
              refine WL.nil (WN.thn ?_)
              refine WC.condF rfl (rfl) ?_
              refine WC.skip (WN.thn (WC.seq (WC.reg ?_)))
              refine WL.v (Runs.fld fld39_4 rfl) rfl ?_
              refine WL.v (Runs.boolT (c := true) (Runs.load1 Try.underlying4 rfl rfl (hL.ocell (i := 0) rfl rfl)) e2) rfl ?_
              refine WL.v (Runs.fld fld39_0 rfl) rfl ?_
              refine WL.v (Runs.boolT (c := true) (Runs.load1 Try.underlying4 rfl rfl (hL.ocell (i := 0) rfl rfl)) e1) rfl ?_
              refine WL.v (Runs.move rfl) rfl ?_
              refine WL.gon rfl rfl rfl ?_
              refine WL.v (Runs.fld fld39_1 rfl) rfl ?_
              refine WL.gon rfl rfl rfl ?_
              refine WL.v (Runs.fld fld37_0 rfl) rfl ?_
              refine WL.gon rfl rfl rfl ?_
              refine WL.v (Runs.load1 Try.underlying3 rfl rfl (hL.ocell (i := 0) rfl rfl)) rfl ?_
              refine WL.gon rfl rfl rfl ?_
              refine WL.v (Runs.boolT (c := true) (Runs.eql rfl rfl) (decide_eq_true e5)) rfl ?_
              refine WL.v (Runs.pick rfl rfl rfl) rfl ?_
              refine WL.v (Runs.boolT (c := true) (Runs.eqlb Try.underlying4 rfl rfl) rfl) rfl ?_
              refine WL.v (Runs.move rfl) rfl ?_
              refine WL.gon rfl rfl rfl ?_
              refine WL.v (Runs.fld fld39_5 rfl) rfl ?_
              refine WL.gon rfl rfl rfl ?_
              refine WL.v (Runs.boolT (c := false) (Runs.load1 Try.underlying4 rfl rfl (hL.ocell (i := 0) rfl rfl)) e3) rfl ?_
              refine WL.gon rfl rfl rfl ?_
              refine WL.v (Runs.fld fld39_0 rfl) rfl ?_
              refine WL.gon rfl rfl rfl ?_
              refine WL.v (Runs.boolT (c := true) (Runs.load1 Try.underlying4 rfl rfl (hL.ocell (i := 0) rfl rfl)) e1) rfl ?_
              refine WL.gon rfl rfl rfl ?_
              refine WL.v (Runs.move rfl) rfl ?_
              refine WL.gon rfl rfl rfl ?_
              refine WL.v (Runs.fld fld39_1 rfl) rfl ?_
              refine WL.gon rfl rfl rfl ?_
              refine WL.v (Runs.fld fld37_0 rfl) rfl ?_
              refine WL.gon rfl rfl rfl ?_
              refine WL.v (Runs.load1 Try.underlying3 rfl rfl (hL.ocell (i := 0) rfl rfl)) rfl ?_
              refine WL.gon rfl rfl rfl ?_
              refine WL.v (Runs.boolT (c := false) (Runs.eql rfl rfl) (by rw [e5]; rfl)) rfl ?_
              refine WL.gon rfl rfl rfl ?_
              refine WL.v (Runs.pick rfl rfl rfl) rfl ?_
              refine WL.gon rfl rfl rfl ?_
              refine WL.v (Runs.boolT (c := true) (Runs.eqlb Try.underlying4 rfl rfl) rfl) rfl ?_
              refine WL.v (Runs.pick rfl rfl rfl) rfl ?_
              refine WL.v (Runs.move rfl) rfl ?_
              refine WL.gon rfl rfl rfl ?_
              refine WL.v (Runs.fld fld39_4 rfl) rfl ?_
              refine WL.gon rfl rfl rfl ?_
              refine WL.v (Runs.boolT (c := true) (Runs.load1 Try.underlying4 rfl rfl (hL.ocell (i := 0) rfl rfl)) e2) rfl ?_
              refine WL.gon rfl rfl rfl ?_
              refine WL.v (Runs.not rfl) rfl ?_
              refine WL.gon rfl rfl rfl ?_
              refine WL.v (Runs.move rfl) rfl ?_
              refine WL.gon rfl rfl rfl ?_
              refine WL.v (Runs.fld fld33_2 rfl) rfl ?_
              refine WL.gon rfl rfl rfl ?_
              refine WL.v (Runs.fld fld27_0 rfl) rfl ?_
              refine WL.gon rfl rfl rfl ?_
              refine WL.v (Runs.load1 Try.underlying3 rfl rfl (hL.ocell (i := 1) rfl rfl)) rfl ?_
              refine WL.gon rfl rfl rfl ?_
              refine WL.v (Runs.boolT (c := true) (Runs.eql rfl rfl) (decide_eq_true e7)) rfl ?_
              refine WL.gon rfl rfl rfl ?_
              refine WL.v (Runs.pick rfl rfl rfl) rfl ?_
              refine WL.v (Runs.pick rfl rfl rfl) rfl ?_
              refine WL.v (Runs.move rfl) rfl ?_
              refine WL.gon rfl rfl rfl ?_
              refine WL.v (Runs.fld fld39_5 rfl) rfl ?_
              refine WL.gon rfl rfl rfl ?_
              refine WL.v (Runs.boolT (c := false) (Runs.load1 Try.underlying4 rfl rfl (hL.ocell (i := 0) rfl rfl)) e3) rfl ?_
              refine WL.gon rfl rfl rfl ?_
              refine WL.v (Runs.not rfl) rfl ?_
              refine WL.gon rfl rfl rfl ?_
              refine WL.v (Runs.move rfl) rfl ?_
              refine WL.goff rfl rfl rfl rfl ?_
              refine WL.goff rfl rfl rfl rfl ?_
              refine WL.goff rfl rfl rfl rfl ?_
              refine WL.goff rfl rfl rfl rfl ?_
              refine WL.gon rfl rfl rfl ?_
              refine WL.v (Runs.pick rfl rfl rfl) rfl ?_
              refine WL.v (Runs.pick rfl rfl rfl) rfl ?_
              refine WL.v (Runs.move rfl) rfl ?_
              refine WL.gon rfl rfl rfl ?_
              refine WL.v (Runs.fld fld39_6 rfl) rfl ?_
              refine WL.gon rfl rfl rfl ?_
              refine WL.v (Runs.boolT (c := false) (Runs.load1 Try.underlying4 rfl rfl (hL.ocell (i := 0) rfl rfl)) e4) rfl ?_
              refine WL.gon rfl rfl rfl ?_
              refine WL.v (Runs.not rfl) rfl ?_
              refine WL.gon rfl rfl rfl ?_
              refine WL.v (Runs.move rfl) rfl ?_
              refine WL.goff rfl rfl rfl rfl ?_
              refine WL.goff rfl rfl rfl rfl ?_
              refine WL.goff rfl rfl rfl rfl ?_
              refine WL.goff rfl rfl rfl rfl ?_
              refine WL.gon rfl rfl rfl ?_
              refine WL.v (Runs.pick rfl rfl rfl) rfl ?_
              refine WL.v (Runs.pick rfl rfl rfl) rfl ?_
              refine WL.v (Runs.move rfl) rfl ?_
              refine WL.gon rfl rfl rfl ?_
              refine WL.call can10 rfl rfl (live_c _ hL) ?_
              rintro _ w29 ⟨G178, hG178, rfl, h29⟩
              refine ⟨_, rfl, ?_⟩
              replace hleF := Le.trans hleF hG178
              replace hR := hR.mono hG178
              replace hf := hf.mono hG178
              replace hrd20 := hrd20.mono hG178
              refine WL.v (Runs.pick rfl rfl rfl) rfl ?_
              refine WL.v (Runs.assign rfl) rfl ?_
              refine WL.nil (WN.thn (WC.ret ?_))
              exact ret1 rfl rfl ⟨rfl, (((h29.drop 0).drop 0)).weak hleF⟩
            · obtain ⟨f1, f2⟩ := hc.hs e1
              refine WC.reg ?_
              refine WL.v (Runs.fld fld39_0 rfl) rfl ?_
              refine WL.v (Runs.boolT (c := true) (Runs.load1 Try.underlying4 rfl rfl (hL.ocell (i := 0) rfl rfl)) e1) rfl ?_
              refine WL.v (Runs.move rfl) rfl ?_
              refine WL.gon rfl rfl rfl ?_
              refine WL.v (Runs.fld fld39_1 rfl) rfl ?_
              refine WL.gon rfl rfl rfl ?_
              refine WL.v (Runs.fld fld37_1 rfl) rfl ?_
              refine WL.gon rfl rfl rfl ?_
              refine WL.v (Runs.load1 Try.underlying3 rfl rfl (hL.ocell (i := 0) rfl rfl)) rfl ?_
              refine WL.gon rfl rfl rfl ?_
              refine WL.v (Runs.fld fld33_2 rfl) rfl ?_
              refine WL.gon rfl rfl rfl ?_
              refine WL.v (Runs.fld fld27_3 rfl) rfl ?_
              refine WL.gon rfl rfl rfl ?_
              refine WL.v (Runs.load1 Try.underlying3 rfl rfl (hL.ocell (i := 1) rfl rfl)) rfl ?_
              refine WL.gon rfl rfl rfl ?_
              refine WL.v (Runs.boolT (c := false) (Runs.neq rfl rfl) (by rw [f1]; simp)) rfl ?_
              refine WL.gon rfl rfl rfl ?_
              refine WL.v (Runs.move rfl) rfl ?_
              refine WL.gon rfl rfl rfl ?_
              refine WL.v (Runs.fld fld39_1 rfl) rfl ?_
              refine WL.gon rfl rfl rfl ?_
              refine WL.v (Runs.fld fld37_2 rfl) rfl ?_
              refine WL.gon rfl rfl rfl ?_
              refine WL.v (Runs.load1 Try.underlying3 rfl rfl (hL.ocell (i := 0) rfl rfl)) rfl ?_
              refine WL.gon rfl rfl rfl ?_
              refine WL.v (Runs.fld fld33_2 rfl) rfl ?_
              refine WL.gon rfl rfl rfl ?_
              refine WL.v (Runs.fld fld27_4 rfl) rfl ?_
              refine WL.gon rfl rfl rfl ?_
              refine WL.v (Runs.load1 Try.underlying3 rfl rfl (hL.ocell (i := 1) rfl rfl)) rfl ?_
              refine WL.gon rfl rfl rfl ?_
              refine WL.v (Runs.boolT (c := false) (Runs.neq rfl rfl) (by rw [f2]; simp)) rfl ?_
              refine WL.gon rfl rfl rfl ?_
              refine WL.v (Runs.pick rfl rfl rfl) rfl ?_
              refine WL.v (Runs.pick rfl rfl rfl) rfl ?_
              refine WL.nil (WN.thn ?_)
              refine WC.condF rfl (rfl) ?_
              refine WC.skip (WN.thn (WC.seq (WC.reg ?_)))
              refine WL.v (Runs.fld fld39_4 rfl) rfl ?_
              refine WL.v (Runs.boolT (c := false) (Runs.load1 Try.underlying4 rfl rfl (hL.ocell (i := 0) rfl rfl)) e2) rfl ?_
              refine WL.v (Runs.fld fld39_0 rfl) rfl ?_
              refine WL.v (Runs.boolT (c := true) (Runs.load1 Try.underlying4 rfl rfl (hL.ocell (i := 0) rfl rfl)) e1) rfl ?_
              refine WL.v (Runs.move rfl) rfl ?_
              refine WL.gon rfl rfl rfl ?_
              refine WL.v (Runs.fld fld39_1 rfl) rfl ?_
              refine WL.gon rfl rfl rfl ?_
              refine WL.v (Runs.fld fld37_0 rfl) rfl ?_
              refine WL.gon rfl rfl rfl ?_
              refine WL.v (Runs.load1 Try.underlying3 rfl rfl (hL.ocell (i := 0) rfl rfl)) rfl ?_
              refine WL.gon rfl rfl rfl ?_
              refine WL.v (Runs.boolT (c := false) (Runs.eql rfl rfl) (by rw [e5]; rfl)) rfl ?_
              refine WL.v (Runs.pick rfl rfl rfl) rfl ?_
              refine WL.v (Runs.boolT (c := true) (Runs.eqlb Try.underlying4 rfl rfl) rfl) rfl ?_
              refine WL.v (Runs.move rfl) rfl ?_
              refine WL.gon rfl rfl rfl ?_
              refine WL.v (Runs.fld fld39_5 rfl) rfl ?_
              refine WL.gon rfl rfl rfl ?_
              refine WL.v (Runs.boolT (c := true) (Runs.load1 Try.underlying4 rfl rfl (hL.ocell (i := 0) rfl rfl)) e3) rfl ?_
              refine WL.gon rfl rfl rfl ?_
              refine WL.v (Runs.fld fld39_0 rfl) rfl ?_
              refine WL.gon rfl rfl rfl ?_
              refine WL.v (Runs.boolT (c := true) (Runs.load1 Try.underlying4 rfl rfl (hL.ocell (i := 0) rfl rfl)) e1) rfl ?_
              refine WL.gon rfl rfl rfl ?_
              refine WL.v (Runs.move rfl) rfl ?_
              refine WL.gon rfl rfl rfl ?_
              refine WL.v (Runs.fld fld39_1 rfl) rfl ?_
              refine WL.gon rfl rfl rfl ?_
              refine WL.v (Runs.fld fld37_0 rfl) rfl ?_
              refine WL.gon rfl rfl rfl ?_
              refine WL.v (Runs.load1 Try.underlying3 rfl rfl (hL.ocell (i := 0) rfl rfl)) rfl ?_
              refine WL.gon rfl rfl rfl ?_
              refine WL.v (Runs.boolT (c := true) (Runs.eql rfl rfl) (decide_eq_true e5)) rfl ?_
              refine WL.gon rfl rfl rfl ?_
              refine WL.v (Runs.pick rfl rfl rfl) rfl ?_
              refine WL.gon rfl rfl rfl ?_
              refine WL.v (Runs.boolT (c := true) (Runs.eqlb Try.underlying4 rfl rfl) rfl) rfl ?_
              refine WL.v (Runs.pick rfl rfl rfl) rfl ?_
              refine WL.v (Runs.move rfl) rfl ?_
              refine WL.gon rfl rfl rfl ?_
              refine WL.v (Runs.fld fld39_4 rfl) rfl ?_
              refine WL.gon rfl rfl rfl ?_
              refine WL.v (Runs.boolT (c := false) (Runs.load1 Try.underlying4 rfl rfl (hL.ocell (i := 0) rfl rfl)) e2) rfl ?_
              refine WL.gon rfl rfl rfl ?_
              refine WL.v (Runs.not rfl) rfl ?_
              refine WL.gon rfl rfl rfl ?_
              refine WL.v (Runs.move rfl) rfl ?_
              refine WL.goff rfl rfl rfl rfl ?_
              refine WL.goff rfl rfl rfl rfl ?_
              refine WL.goff rfl rfl rfl rfl ?_
              refine WL.goff rfl rfl rfl rfl ?_
              refine WL.gon rfl rfl rfl ?_
              refine WL.v (Runs.pick rfl rfl rfl) rfl ?_
              refine WL.v (Runs.pick rfl rfl rfl) rfl ?_
              refine WL.v (Runs.move rfl) rfl ?_
              refine WL.gon rfl rfl rfl ?_
              refine WL.v (Runs.fld fld39_5 rfl) rfl ?_
              refine WL.gon rfl rfl rfl ?_
              refine WL.v (Runs.boolT (c := true) (Runs.load1 Try.underlying4 rfl rfl (hL.ocell (i := 0) rfl rfl)) e3) rfl ?_
              refine WL.gon rfl rfl rfl ?_
              refine WL.v (Runs.not rfl) rfl ?_
              refine WL.gon rfl rfl rfl ?_
              refine WL.v (Runs.move rfl) rfl ?_
              refine WL.gon rfl rfl rfl ?_
              refine WL.v (Runs.fld fld33_2 rfl) rfl ?_
              refine WL.gon rfl rfl rfl ?_
              refine WL.v (Runs.fld fld27_0 rfl) rfl ?_
              refine WL.gon rfl rfl rfl ?_
              refine WL.v (Runs.load1 Try.underlying3 rfl rfl (hL.ocell (i := 1) rfl rfl)) rfl ?_
              refine WL.gon rfl rfl rfl ?_
              refine WL.v (Runs.boolT (c := true) (Runs.eql rfl rfl) (decide_eq_true e7)) rfl ?_
              refine WL.gon rfl rfl rfl ?_
              refine WL.v (Runs.pick rfl rfl rfl) rfl ?_
              refine WL.v (Runs.pick rfl rfl rfl) rfl ?_
              refine WL.v (Runs.move rfl) rfl ?_
              refine WL.gon rfl rfl rfl ?_
              refine WL.v (Runs.fld fld39_6 rfl) rfl ?_
              refine WL.gon rfl rfl rfl ?_
              refine WL.v (Runs.boolT (c := false) (Runs.load1 Try.underlying4 rfl rfl (hL.ocell (i := 0) rfl rfl)) e4) rfl ?_
              refine WL.gon rfl rfl rfl ?_
              refine WL.v (Runs.not rfl) rfl ?_
              refine WL.gon rfl rfl rfl ?_
              refine WL.v (Runs.move rfl) rfl ?_
              refine WL.goff rfl rfl rfl rfl ?_
              refine WL.goff rfl rfl rfl rfl ?_
              refine WL.goff rfl rfl rfl rfl ?_
              refine WL.goff rfl rfl rfl rfl ?_
              refine WL.gon rfl rfl rfl ?_
              refine WL.v (Runs.pick rfl rfl rfl) rfl ?_
              refine WL.v (Runs.pick rfl rfl rfl) rfl ?_
              refine WL.v (Runs.move rfl) rfl ?_
              refine WL.gon rfl rfl rfl ?_
              refine WL.call can10 rfl rfl (live_c _ hL) ?_
              rintro _ w30 ⟨G178, hG178, rfl, h30⟩
              refine ⟨_, rfl, ?_⟩
              replace hleF := Le.trans hleF hG178
              replace hR := hR.mono hG178
              replace hf := hf.mono hG178
              replace hrd20 := hrd20.mono hG178
              refine WL.v (Runs.pick rfl rfl rfl) rfl ?_
              refine WL.v (Runs.assign rfl) rfl ?_
              refine WL.nil (WN.thn (WC.ret ?_))
              exact ret1 rfl rfl ⟨rfl, (((h30.drop 0).drop 0)).weak hleF⟩
            · skip
              refine WC.reg ?_
              refine WL.v (Runs.fld fld39_0 rfl) rfl ?_
              refine WL.v (Runs.boolT (c := false) (Runs.load1 Try.underlying4 rfl rfl (hL.ocell (i := 0) rfl rfl)) e1) rfl ?_
              refine WL.v (Runs.move rfl) rfl ?_
              refine WL.goff rfl rfl rfl rfl ?_
              refine WL.goff rfl rfl rfl rfl ?_
              refine WL.goff rfl rfl rfl rfl ?_
              refine WL.goff rfl rfl rfl rfl ?_
              refine WL.goff rfl rfl rfl rfl ?_
              refine WL.goff rfl rfl rfl rfl ?_
              refine WL.goff rfl rfl rfl rfl ?_
              refine WL.goff rfl rfl rfl rfl ?_
              refine WL.goffU rfl rfl rfl ?_
              refine WL.goffU rfl rfl rfl ?_
              refine WL.goffU rfl rfl rfl ?_
              refine WL.goffU rfl rfl rfl ?_
              refine WL.goffU rfl rfl rfl ?_
              refine WL.goffU rfl rfl rfl ?_
              refine WL.goffU rfl rfl rfl ?_
              refine WL.goff rfl rfl rfl rfl ?_
              refine WL.v (Runs.pick rfl rfl rfl) rfl ?_
              refine WL.nil (WN.thn ?_)
              refine WC.condF rfl (rfl) ?_
              refine WC.skip (WN.thn (WC.seq (WC.reg ?_)))
              refine WL.v (Runs.fld fld39_4 rfl) rfl ?_
              refine WL.v (Runs.boolT (c := false) (Runs.load1 Try.underlying4 rfl rfl (hL.ocell (i := 0) rfl rfl)) e2) rfl ?_
              refine WL.v (Runs.fld fld39_0 rfl) rfl ?_
              refine WL.v (Runs.boolT (c := false) (Runs.load1 Try.underlying4 rfl rfl (hL.ocell (i := 0) rfl rfl)) e1) rfl ?_
              refine WL.v (Runs.move rfl) rfl ?_
              refine WL.goff rfl rfl rfl rfl ?_
              refine WL.goff rfl rfl rfl rfl ?_
              refine WL.goff rfl rfl rfl rfl ?_
              refine WL.goff rfl rfl rfl rfl ?_
              refine WL.v (Runs.pick rfl rfl rfl) rfl ?_
              refine WL.v (Runs.boolT (c := true) (Runs.eqlb Try.underlying4 rfl rfl) rfl) rfl ?_
              refine WL.v (Runs.move rfl) rfl ?_
              refine WL.gon rfl rfl rfl ?_
              refine WL.v (Runs.fld fld39_5 rfl) rfl ?_
              refine WL.gon rfl rfl rfl ?_
              refine WL.v (Runs.boolT (c := false) (Runs.load1 Try.underlying4 rfl rfl (hL.ocell (i := 0) rfl rfl)) e3) rfl ?_
              refine WL.gon rfl rfl rfl ?_
              refine WL.v (Runs.fld fld39_0 rfl) rfl ?_
              refine WL.gon rfl rfl rfl ?_
              refine WL.v (Runs.boolT (c := false) (Runs.load1 Try.underlying4 rfl rfl (hL.ocell (i := 0) rfl rfl)) e1) rfl ?_
              refine WL.gon rfl rfl rfl ?_
              refine WL.v (Runs.move rfl) rfl ?_
              refine WL.goff rfl rfl rfl rfl ?_
              refine WL.goff rfl rfl rfl rfl ?_
              refine WL.goff rfl rfl rfl rfl ?_
              refine WL.goff rfl rfl rfl rfl ?_
              refine WL.gon rfl rfl rfl ?_
              refine WL.v (Runs.pick rfl rfl rfl) rfl ?_
              refine WL.gon rfl rfl rfl ?_
              refine WL.v (Runs.boolT (c := true) (Runs.eqlb Try.underlying4 rfl rfl) rfl) rfl ?_
              refine WL.v (Runs.pick rfl rfl rfl) rfl ?_
              refine WL.v (Runs.move rfl) rfl ?_
              refine WL.gon rfl rfl rfl ?_
              refine WL.v (Runs.fld fld39_4 rfl) rfl ?_
              refine WL.gon rfl rfl rfl ?_
              refine WL.v (Runs.boolT (c := false) (Runs.load1 Try.underlying4 rfl rfl (hL.ocell (i := 0) rfl rfl)) e2) rfl ?_
              refine WL.gon rfl rfl rfl ?_
              refine WL.v (Runs.not rfl) rfl ?_
              refine WL.gon rfl rfl rfl ?_
              refine WL.v (Runs.move rfl) rfl ?_
              refine WL.goff rfl rfl rfl rfl ?_
              refine WL.goff rfl rfl rfl rfl ?_
              refine WL.goff rfl rfl rfl rfl ?_
              refine WL.goff rfl rfl rfl rfl ?_
              refine WL.gon rfl rfl rfl ?_
              refine WL.v (Runs.pick rfl rfl rfl) rfl ?_
              refine WL.v (Runs.pick rfl rfl rfl) rfl ?_
              refine WL.v (Runs.move rfl) rfl ?_
              refine WL.gon rfl rfl rfl ?_
              refine WL.v (Runs.fld fld39_5 rfl) rfl ?_
              refine WL.gon rfl rfl rfl ?_
              refine WL.v (Runs.boolT (c := false) (Runs.load1 Try.underlying4 rfl rfl (hL.ocell (i := 0) rfl rfl)) e3) rfl ?_
              refine WL.gon rfl rfl rfl ?_
              refine WL.v (Runs.not rfl) rfl ?_
              refine WL.gon rfl rfl rfl ?_
              refine WL.v (Runs.move rfl) rfl ?_
              refine WL.goff rfl rfl rfl rfl ?_
              refine WL.goff rfl rfl rfl rfl ?_
              refine WL.goff rfl rfl rfl rfl ?_
              refine WL.goff rfl rfl rfl rfl ?_
              refine WL.gon rfl rfl rfl ?_
              refine WL.v (Runs.pick rfl rfl rfl) rfl ?_
              refine WL.v (Runs.pick rfl rfl rfl) rfl ?_
              refine WL.v (Runs.move rfl) rfl ?_
              refine WL.gon rfl rfl rfl ?_
              refine WL.v (Runs.fld fld39_6 rfl) rfl ?_
              refine WL.gon rfl rfl rfl ?_
              refine WL.v (Runs.boolT (c := true) (Runs.load1 Try.underlying4 rfl rfl (hL.ocell (i := 0) rfl rfl)) e4) rfl ?_
              refine WL.gon rfl rfl rfl ?_
              refine WL.v (Runs.not rfl) rfl ?_
              refine WL.gon rfl rfl rfl ?_
              refine WL.v (Runs.move rfl) rfl ?_
              refine WL.gon rfl rfl rfl ?_
              refine WL.v (Runs.fld fld33_2 rfl) rfl ?_
              refine WL.gon rfl rfl rfl ?_
              refine WL.v (Runs.fld fld27_0 rfl) rfl ?_
              refine WL.gon rfl rfl rfl ?_
              refine WL.v (Runs.load1 Try.underlying3 rfl rfl (hL.ocell (i := 1) rfl rfl)) rfl ?_
              refine WL.gon rfl rfl rfl ?_
              refine WL.v (Runs.boolT (c := true) (Runs.eql rfl rfl) (decide_eq_true e7)) rfl ?_
              refine WL.gon rfl rfl rfl ?_
              refine WL.v (Runs.pick rfl rfl rfl) rfl ?_
              refine WL.v (Runs.pick rfl rfl rfl) rfl ?_
              refine WL.v (Runs.move rfl) rfl ?_
              refine WL.gon rfl rfl rfl ?_
              refine WL.call can10 rfl rfl (live_c _ hL) ?_
              rintro _ w31 ⟨G178, hG178, rfl, h31⟩
              refine ⟨_, rfl, ?_⟩
              replace hleF := Le.trans hleF hG178
              replace hR := hR.mono hG178
              replace hf := hf.mono hG178
              replace hrd20 := hrd20.mono hG178
              refine WL.v (Runs.pick rfl rfl rfl) rfl ?_
              refine WL.v (Runs.assign rfl) rfl ?_
              refine WL.nil (WN.thn (WC.ret ?_))
              exact ret1 rfl rfl ⟨rfl, (((h31.drop 0).drop 0)).weak hleF⟩
            · obtain ⟨f1, f2⟩ := hc.hs e1
              refine WC.reg ?_
              refine WL.v (Runs.fld fld39_0 rfl) rfl ?_
              refine WL.v (Runs.boolT (c := true) (Runs.load1 Try.underlying4 rfl rfl (hL.ocell (i := 0) rfl rfl)) e1) rfl ?_
              refine WL.v (Runs.move rfl) rfl ?_
              refine WL.gon rfl rfl rfl ?_
              refine WL.v (Runs.fld fld39_1 rfl) rfl ?_
              refine WL.gon rfl rfl rfl ?_
              refine WL.v (Runs.fld fld37_1 rfl) rfl ?_
              refine WL.gon rfl rfl rfl ?_
              refine WL.v (Runs.load1 Try.underlying3 rfl rfl (hL.ocell (i := 0) rfl rfl)) rfl ?_
              refine WL.gon rfl rfl rfl ?_
              refine WL.v (Runs.fld fld33_2 rfl) rfl ?_
              refine WL.gon rfl rfl rfl ?_
              refine WL.v (Runs.fld fld27_3 rfl) rfl ?_
              refine WL.gon rfl rfl rfl ?_
              refine WL.v (Runs.load1 Try.underlying3 rfl rfl (hL.ocell (i := 1) rfl rfl)) rfl ?_
              refine WL.gon rfl rfl rfl ?_
              refine WL.v (Runs.boolT (c := false) (Runs.neq rfl rfl) (by rw [f1]; simp)) rfl ?_
              refine WL.gon rfl rfl rfl ?_
              refine WL.v (Runs.move rfl) rfl ?_
              refine WL.gon rfl rfl rfl ?_
              refine WL.v (Runs.fld fld39_1 rfl) rfl ?_
              refine WL.gon rfl rfl rfl ?_
              refine WL.v (Runs.fld fld37_2 rfl) rfl ?_
              refine WL.gon rfl rfl rfl ?_
              refine WL.v (Runs.load1 Try.underlying3 rfl rfl (hL.ocell (i := 0) rfl rfl)) rfl ?_
              refine WL.gon rfl rfl rfl ?_
              refine WL.v (Runs.fld fld33_2 rfl) rfl ?_
              refine WL.gon rfl rfl rfl ?_
              refine WL.v (Runs.fld fld27_4 rfl) rfl ?_
              refine WL.gon rfl rfl rfl ?_
              refine WL.v (Runs.load1 Try.underlying3 rfl rfl (hL.ocell (i := 1) rfl rfl)) rfl ?_
              refine WL.gon rfl rfl rfl ?_
              refine WL.v (Runs.boolT (c := false) (Runs.neq rfl rfl) (by rw [f2]; simp)) rfl ?_
              refine WL.gon rfl rfl rfl ?_
              refine WL.v (Runs.pick rfl rfl rfl) rfl ?_
              refine WL.v (Runs.pick rfl rfl rfl) rfl ?_
              refine WL.nil (WN.thn ?_)
              refine WC.condF rfl (rfl) ?_
              refine WC.skip (WN.thn (WC.seq (WC.reg ?_)))
              refine WL.v (Runs.fld fld39_4 rfl) rfl ?_
              refine WL.v (Runs.boolT (c := false) (Runs.load1 Try.underlying4 rfl rfl (hL.ocell (i := 0) rfl rfl)) e2) rfl ?_
              refine WL.v (Runs.fld fld39_0 rfl) rfl ?_
              refine WL.v (Runs.boolT (c := true) (Runs.load1 Try.underlying4 rfl rfl (hL.ocell (i := 0) rfl rfl)) e1) rfl ?_
              refine WL.v (Runs.move rfl) rfl ?_
              refine WL.gon rfl rfl rfl ?_
              refine WL.v (Runs.fld fld39_1 rfl) rfl ?_
              refine WL.gon rfl rfl rfl ?_
              refine WL.v (Runs.fld fld37_0 rfl) rfl ?_
              refine WL.gon rfl rfl rfl ?_
              refine WL.v (Runs.load1 Try.underlying3 rfl rfl (hL.ocell (i := 0) rfl rfl)) rfl ?_
              refine WL.gon rfl rfl rfl ?_
              refine WL.v (Runs.boolT (c := false) (Runs.eql rfl rfl) (decide_eq_false e5)) rfl ?_
              refine WL.v (Runs.pick rfl rfl rfl) rfl ?_
              refine WL.v (Runs.boolT (c := true) (Runs.eqlb Try.underlying4 rfl rfl) rfl) rfl ?_
              refine WL.v (Runs.move rfl) rfl ?_
              refine WL.gon rfl rfl rfl ?_
              refine WL.v (Runs.fld fld39_5 rfl) rfl ?_
              refine WL.gon rfl rfl rfl ?_
              refine WL.v (Runs.boolT (c := false) (Runs.load1 Try.underlying4 rfl rfl (hL.ocell (i := 0) rfl rfl)) e3) rfl ?_
              refine WL.gon rfl rfl rfl ?_
              refine WL.v (Runs.fld fld39_0 rfl) rfl ?_
              refine WL.gon rfl rfl rfl ?_
              refine WL.v (Runs.boolT (c := true) (Runs.load1 Try.underlying4 rfl rfl (hL.ocell (i := 0) rfl rfl)) e1) rfl ?_
              refine WL.gon rfl rfl rfl ?_
              refine WL.v (Runs.move rfl) rfl ?_
              refine WL.gon rfl rfl rfl ?_
              refine WL.v (Runs.fld fld39_1 rfl) rfl ?_
              refine WL.gon rfl rfl rfl ?_
              refine WL.v (Runs.fld fld37_0 rfl) rfl ?_
              refine WL.gon rfl rfl rfl ?_
              refine WL.v (Runs.load1 Try.underlying3 rfl rfl (hL.ocell (i := 0) rfl rfl)) rfl ?_
              refine WL.gon rfl rfl rfl ?_
              refine WL.v (Runs.boolT (c := false) (Runs.eql rfl rfl) (decide_eq_false e6)) rfl ?_
              refine WL.gon rfl rfl rfl ?_
              refine WL.v (Runs.pick rfl rfl rfl) rfl ?_
              refine WL.gon rfl rfl rfl ?_
              refine WL.v (Runs.boolT (c := true) (Runs.eqlb Try.underlying4 rfl rfl) rfl) rfl ?_
              refine WL.v (Runs.pick rfl rfl rfl) rfl ?_
              refine WL.v (Runs.move rfl) rfl ?_
              refine WL.gon rfl rfl rfl ?_
              refine WL.v (Runs.fld fld39_4 rfl) rfl ?_
              refine WL.gon rfl rfl rfl ?_
              refine WL.v (Runs.boolT (c := false) (Runs.load1 Try.underlying4 rfl rfl (hL.ocell (i := 0) rfl rfl)) e2) rfl ?_
              refine WL.gon rfl rfl rfl ?_
              refine WL.v (Runs.not rfl) rfl ?_
              refine WL.gon rfl rfl rfl ?_
              refine WL.v (Runs.move rfl) rfl ?_
              refine WL.goff rfl rfl rfl rfl ?_
              refine WL.goff rfl rfl rfl rfl ?_
              refine WL.goff rfl rfl rfl rfl ?_
              refine WL.goff rfl rfl rfl rfl ?_
              refine WL.gon rfl rfl rfl ?_
              refine WL.v (Runs.pick rfl rfl rfl) rfl ?_
              refine WL.v (Runs.pick rfl rfl rfl) rfl ?_
              refine WL.v (Runs.move rfl) rfl ?_
              refine WL.gon rfl rfl rfl ?_
              refine WL.v (Runs.fld fld39_5 rfl) rfl ?_
              refine WL.gon rfl rfl rfl ?_
              refine WL.v (Runs.boolT (c := false) (Runs.load1 Try.underlying4 rfl rfl (hL.ocell (i := 0) rfl rfl)) e3) rfl ?_
              refine WL.gon rfl rfl rfl ?_
              refine WL.v (Runs.not rfl) rfl ?_
              refine WL.gon rfl rfl rfl ?_
              refine WL.v (Runs.move rfl) rfl ?_
              refine WL.goff rfl rfl rfl rfl ?_
              refine WL.goff rfl rfl rfl rfl ?_
              refine WL.goff rfl rfl rfl rfl ?_
              refine WL.goff rfl rfl rfl rfl ?_
              refine WL.gon rfl rfl rfl ?_
              refine WL.v (Runs.pick rfl rfl rfl) rfl ?_
              refine WL.v (Runs.pick rfl rfl rfl) rfl ?_
              refine WL.v (Runs.move rfl) rfl ?_
              refine WL.gon rfl rfl rfl ?_
              refine WL.v (Runs.fld fld39_6 rfl) rfl ?_
              refine WL.gon rfl rfl rfl ?_
              refine WL.v (Runs.boolT (c := false) (Runs.load1 Try.underlying4 rfl rfl (hL.ocell (i := 0) rfl rfl)) e4) rfl ?_
              refine WL.gon rfl rfl rfl ?_
              refine WL.v (Runs.not rfl) rfl ?_
              refine WL.gon rfl rfl rfl ?_
              refine WL.v (Runs.move rfl) rfl ?_
              refine WL.goff rfl rfl rfl rfl ?_
              refine WL.goff rfl rfl rfl rfl ?_
              refine WL.goff rfl rfl rfl rfl ?_
              refine WL.goff rfl rfl rfl rfl ?_
              refine WL.gon rfl rfl rfl ?_
              refine WL.v (Runs.pick rfl rfl rfl) rfl ?_
              refine WL.v (Runs.pick rfl rfl rfl) rfl ?_
              refine WL.v (Runs.move rfl) rfl ?_
              refine WL.gon rfl rfl rfl ?_
              refine WL.call can10 rfl rfl (live_c _ hL) ?_
              rintro _ w32 ⟨G178, hG178, rfl, h32⟩
              refine ⟨_, rfl, ?_⟩
              replace hleF := Le.trans hleF hG178
              replace hR := hR.mono hG178
              replace hf := hf.mono hG178
              replace hrd20 := hrd20.mono hG178
              refine WL.v (Runs.pick rfl rfl rfl) rfl ?_
              refine WL.v (Runs.assign rfl) rfl ?_
              refine WL.nil (WN.thn (WC.ret ?_))
              exact ret1 rfl rfl ⟨rfl, (((h32.drop 0).drop 0)).weak hleF⟩
            · skip
              refine WC.reg ?_
              refine WL.v (Runs.fld fld39_0 rfl) rfl ?_
              refine WL.v (Runs.boolT (c := false) (Runs.load1 Try.underlying4 rfl rfl (hL.ocell (i := 0) rfl rfl)) e1) rfl ?_
              refine WL.v (Runs.move rfl) rfl ?_
              refine WL.goff rfl rfl rfl rfl ?_
              refine WL.goff rfl rfl rfl rfl ?_
              refine WL.goff rfl rfl rfl rfl ?_
              refine WL.goff rfl rfl rfl rfl ?_
              refine WL.goff rfl rfl rfl rfl ?_
              refine WL.goff rfl rfl rfl rfl ?_
              refine WL.goff rfl rfl rfl rfl ?_
              refine WL.goff rfl rfl rfl rfl ?_
              refine WL.goffU rfl rfl rfl ?_
              refine WL.goffU rfl rfl rfl ?_
              refine WL.goffU rfl rfl rfl ?_
              refine WL.goffU rfl rfl rfl ?_
              refine WL.goffU rfl rfl rfl ?_
              refine WL.goffU rfl rfl rfl ?_
              refine WL.goffU rfl rfl rfl ?_
              refine WL.goff rfl rfl rfl rfl ?_
              refine WL.v (Runs.pick rfl rfl rfl) rfl ?_
              refine WL.nil (WN.thn ?_)
              refine WC.condF rfl (rfl) ?_
              refine WC.skip (WN.thn (WC.seq (WC.reg ?_)))
              refine WL.v (Runs.fld fld39_4 rfl) rfl ?_
              refine WL.v (Runs.boolT (c := false) (Runs.load1 Try.underlying4 rfl rfl (hL.ocell (i := 0) rfl rfl)) e2) rfl ?_
              refine WL.v (Runs.fld fld39_0 rfl) rfl ?_
              refine WL.v (Runs.boolT (c := false) (Runs.load1 Try.underlying4 rfl rfl (hL.ocell (i := 0) rfl rfl)) e1) rfl ?_
              refine WL.v (Runs.move rfl) rfl ?_
              refine WL.goff rfl rfl rfl rfl ?_
              refine WL.goff rfl rfl rfl rfl ?_
              refine WL.goff rfl rfl rfl rfl ?_
              refine WL.goff rfl rfl rfl rfl ?_
              refine WL.v (Runs.pick rfl rfl rfl) rfl ?_
              refine WL.v (Runs.boolT (c := true) (Runs.eqlb Try.underlying4 rfl rfl) rfl) rfl ?_
              refine WL.v (Runs.move rfl) rfl ?_
              refine WL.gon rfl rfl rfl ?_
              refine WL.v (Runs.fld fld39_5 rfl) rfl ?_
              refine WL.gon rfl rfl rfl ?_
              refine WL.v (Runs.boolT (c := false) (Runs.load1 Try.underlying4 rfl rfl (hL.ocell (i := 0) rfl rfl)) e3) rfl ?_
              refine WL.gon rfl rfl rfl ?_
              refine WL.v (Runs.fld fld39_0 rfl) rfl ?_
              refine WL.gon rfl rfl rfl ?_
              refine WL.v (Runs.boolT (c := false) (Runs.load1 Try.underlying4 rfl rfl (hL.ocell (i := 0) rfl rfl)) e1) rfl ?_
              refine WL.gon rfl rfl rfl ?_
              refine WL.v (Runs.move rfl) rfl ?_
              refine WL.goff rfl rfl rfl rfl ?_
              refine WL.goff rfl rfl rfl rfl ?_
              refine WL.goff rfl rfl rfl rfl ?_
              refine WL.goff rfl rfl rfl rfl ?_
              refine WL.gon rfl rfl rfl ?_
              refine WL.v (Runs.pick rfl rfl rfl) rfl ?_
              refine WL.gon rfl rfl rfl ?_
              refine WL.v (Runs.boolT (c := true) (Runs.eqlb Try.underlying4 rfl rfl) rfl) rfl ?_
              refine WL.v (Runs.pick rfl rfl rfl) rfl ?_
              refine WL.v (Runs.move rfl) rfl ?_
              refine WL.gon rfl rfl rfl ?_
              refine WL.v (Runs.fld fld39_4 rfl) rfl ?_
              refine WL.gon rfl rfl rfl ?_
              refine WL.v (Runs.boolT (c := false) (Runs.load1 Try.underlying4 rfl rfl (hL.ocell (i := 0) rfl rfl)) e2) rfl ?_
              refine WL.gon rfl rfl rfl ?_
              refine WL.v (Runs.not rfl) rfl ?_
              refine WL.gon rfl rfl rfl ?_
              refine WL.v (Runs.move rfl) rfl ?_
              refine WL.goff rfl rfl rfl rfl ?_
              refine WL.goff rfl rfl rfl rfl ?_
              refine WL.goff rfl rfl rfl rfl ?_
              refine WL.goff rfl rfl rfl rfl ?_
              refine WL.gon rfl rfl rfl ?_
              refine WL.v (Runs.pick rfl rfl rfl) rfl ?_
              refine WL.v (Runs.pick rfl rfl rfl) rfl ?_
              refine WL.v (Runs.move rfl) rfl ?_
              refine WL.gon rfl rfl rfl ?_
              refine WL.v (Runs.fld fld39_5 rfl) rfl ?_
              refine WL.gon rfl rfl rfl ?_
              refine WL.v (Runs.boolT (c := false) (Runs.load1 Try.underlying4 rfl rfl (hL.ocell (i := 0) rfl rfl)) e3) rfl ?_
              refine WL.gon rfl rfl rfl ?_
              refine WL.v (Runs.not rfl) rfl ?_
              refine WL.gon rfl rfl rfl ?_
              refine WL.v (Runs.move rfl) rfl ?_
              refine WL.goff rfl rfl rfl rfl ?_
              refine WL.goff rfl rfl rfl rfl ?_
              refine WL.goff rfl rfl rfl rfl ?_
              refine WL.goff rfl rfl rfl rfl ?_
              refine WL.gon rfl rfl rfl ?_
              refine WL.v (Runs.pick rfl rfl rfl) rfl ?_
              refine WL.v (Runs.pick rfl rfl rfl) rfl ?_
              refine WL.v (Runs.move rfl) rfl ?_
              refine WL.gon rfl rfl rfl ?_
              refine WL.v (Runs.fld fld39_6 rfl) rfl ?_
              refine WL.gon rfl rfl rfl ?_
              refine WL.v (Runs.boolT (c := false) (Runs.load1 Try.underlying4 rfl rfl (hL.ocell (i := 0) rfl rfl)) e4) rfl ?_
              refine WL.gon rfl rfl rfl ?_
              refine WL.v (Runs.not rfl) rfl ?_
              refine WL.gon rfl rfl rfl ?_
              refine WL.v (Runs.move rfl) rfl ?_
              refine WL.goff rfl rfl rfl rfl ?_
              refine WL.goff rfl rfl rfl rfl ?_
              refine WL.goff rfl rfl rfl rfl ?_
              refine WL.goff rfl rfl rfl rfl ?_
              refine WL.gon rfl rfl rfl ?_
              refine WL.v (Runs.pick rfl rfl rfl) rfl ?_
              refine WL.v (Runs.pick rfl rfl rfl) rfl ?_
              refine WL.v (Runs.move rfl) rfl ?_
              refine WL.gon rfl rfl rfl ?_
              refine WL.call can10 rfl rfl (live_c _ hL) ?_
              rintro _ w33 ⟨G178, hG178, rfl, h33⟩
              refine ⟨_, rfl, ?_⟩
              replace hleF := Le.trans hleF hG178
              replace hR := hR.mono hG178
              replace hf := hf.mono hG178
              replace hrd20 := hrd20.mono hG178
              refine WL.v (Runs.pick rfl rfl rfl) rfl ?_
              refine WL.v (Runs.assign rfl) rfl ?_
              refine WL.nil (WN.thn (WC.ret ?_))
              exact ret1 rfl rfl ⟨rfl, (((h33.drop 0).drop 0)).weak hleF⟩
  · skip
    refine WC.reg ?_
    refine WL.v (Runs.loadAll h1 0 rfl Try.underlying33 rfl inf33 rfl rfl) rfl ?_
    refine WL.call can9 rfl rfl (small_c _ h1 hR.s hls) ?_
    rintro _ w34 ⟨rfl, h34⟩
    refine ⟨_, rfl, ?_⟩
    refine WL.v (Runs.boolT (c := true) (Runs.not rfl) (by rw [no_small hs]; rfl)) rfl ?_
    refine WL.nil (WN.thn ?_)
    refine WC.condT rfl (rfl) ?_
    refine WC.seq (WC.reg ?_)
    refine WL.call can10 rfl rfl (live_c _ h34) ?_
    rintro _ w35 ⟨G8, hG8, rfl, h35⟩
    refine ⟨_, rfl, ?_⟩
    replace hleF := Le.trans hleF hG8
    replace hR := hR.mono hG8
    replace hf := hf.mono hG8
    refine WL.v (Runs.assign rfl) rfl ?_
    refine WL.nil (WN.thn (WC.ret ?_))
    exact ret1 rfl rfl ⟨rfl, ((h35.drop 0)).weak hleF⟩
end Rc
end Go.Proofs.Ytanlminnobonnaa
