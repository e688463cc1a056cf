/- Walks of the reference of chapter 15: Apply, Fold. -/
import Derived.Test.YthejglgnoingfaaProg
import Derived.KernelRfl
import Derived.Test.YthejglgnoingfaaMBaseAH
import Derived.Test.YthejglgnoingfaaMR12
namespace Go.Proofs.Ythejglgnoingfaa
open Go Go.RowKit B
set_option linter.unusedVariables false
set_option linter.unusedSimpArgs false
namespace Rc

theorem inf22 : Inf Try.prog 22 (.slice none 0 0) 1 24 := by unfold Inf; kernel_rfl
theorem fld57_4 : fldB Try.prog 57 4 4 = true := by kernel_rfl
theorem can19 : B.Can Try.prog 19 := ⟨_, Try.func19, by kernel_rfl, rfl⟩   -- roundhouse/roundhouseref15.Apply
theorem can21 : B.Can Try.prog 21 := ⟨_, Try.func21, by kernel_rfl, rfl⟩   -- roundhouse/roundhouseref15.Find
theorem can40 : B.Can Try.prog 40 := ⟨_, Try.func40, by kernel_rfl, rfl⟩   -- roundhouse/roundhouseref15.May
theorem can48 : B.Can Try.prog 48 := ⟨_, Try.func48, by kernel_rfl, rfl⟩   -- roundhouse/roundhouseref15.jobs
theorem can51 : B.Can Try.prog 51 := ⟨_, Try.func51, by kernel_rfl, rfl⟩   -- roundhouse/roundhouseref15.share
theorem do_b {z : Z} {r : R} (h : r.kd = 1 ∨ r.kd = 2) : doM z r = beginsM z r (2 * (r.kd - 1)) := by
  unfold doM
  rcases h with h | h <;> simp [h]
theorem do_t {z : Z} {r : R} (h : 3 ≤ r.kd ∧ r.kd ≤ 5) : doM z r = turnsM z r (if r.kd = 5 then 1 else 0) (r.kd - 2) := by
  unfold doM
  have h3 : r.kd = 3 ∨ r.kd = 4 ∨ r.kd = 5 := by omega
  rcases h3 with h | h | h <;> simp [h]
theorem turns_0q {z : Z} {r : R} {i : Nat} {x : S} (hix : sIx z r.jb r.ep r.st = (i : Int)) (hx : x = z.ss.getD i S0) (h1 : x.ph = (if r.kd = 5 then 1 else 0)) : turnsM z r (if r.kd = 5 then 1 else 0) (r.kd - 2) = ({ z with ss := z.ss.set i { x with ph := r.kd - 2, cd := if r.kd = 5 then r.ar else x.cd } }, 0) := by
  rw [turns_0 hix hx h1]
  have : (r.kd - 2 = 3) = (r.kd = 5) := by
    apply propext; omega
  simp only [this]
theorem row_sl {E : TypeId} {r : Res} {v : Value} {xs : List Int} (h : Row E Vi r v xs) : ∃ A cap, v = .slice A xs.length cap := by
  obtain ⟨A, cap, h, _⟩ := h.val
  exact ⟨A, cap, h⟩
set_option maxRecDepth 100000 in
set_option maxHeartbeats 16000000 in
theorem qapply_c {W : World} {F : Snap} {cs : List Res} (w : World) {AJ AS : Option Addr} {cj cS : Nat} {z : Z} {Al : Option Addr} {cl : Nat} {r : R} (hl : RdS (Kd.one Vi) F Al r.ls) (hn : r.ls.length ≤ 100000) (hz : few z) (hR : ZR F AJ AS z) (h : St W F cs w) : Calls Try.prog 19 #[.agg #[.slice AJ z.js.length cj, .slice AS z.ss.length cS, .bool z.dr], .agg #[Vi r.kd, Vi r.jb, Vi r.ep, Vi r.st, Vi r.ar, .slice Al r.ls.length cl]] w fun e w' => ∃ G AJ AS cj cS, Le F G ∧ e = .returned (.tuple #[.agg #[.slice AJ ((applyM z r).1).js.length cj, .slice AS ((applyM z r).1).ss.length cS, .bool ((applyM z r).1).dr], Vi (applyM z r).2]) ∧ ZR G AJ AS (applyM z r).1 ∧ St W G cs w'  := by
  refine enter (P := Try.prog) (args := [.agg #[.slice AJ z.js.length cj, .slice AS z.ss.length cS, .bool z.dr], .agg #[Vi r.kd, Vi r.jb, Vi r.ep, Vi r.st, Vi r.ar, .slice Al r.ls.length cl]]) Try.func19 rfl rfl rfl ?_
  have hleF := Le.refl F
  have hzj := hz.j
  have hzs := hz.s
  refine WC.seq (WC.reg ?_)
  refine WL.box rfl h rfl ?_
  intro b2 w1 h1
  refine WL.box rfl h1 rfl ?_
  intro b3 w2 h2
  refine WL.alloc' rfl h2 inf35 ?_
  intro b4 w3 h3
  refine WL.v (Runs.assign rfl) rfl ?_
  refine WL.nil (WN.thn (WC.seq (WC.seq (WC.reg ?_))))
  refine WL.v (Runs.loadAll h3 1 rfl Try.underlying24 rfl inf24 rfl rfl) rfl ?_
  refine WL.call can40 rfl rfl (qmay_c _ h3 hl hn) ?_
  rintro _ w4 ⟨rfl, h4⟩
  refine ⟨_, rfl, ?_⟩
  refine WL.v (Runs.not rfl) rfl ?_
  refine WL.nil (WN.thn ?_)
  refine WC.cond rfl (fun c5 => ?_) (fun c5 => ?_)
  · try simp only [dt, df, nt, nf, ba, il, ie] at c5
    first
    | (exfalso; omega)
    | skip
      refine WC.seq (WC.reg ?_)
      refine WL.v (Runs.loadAll h4 2 rfl Try.underlying35 rfl inf35 rfl rfl) rfl ?_
      refine WL.storeAll h4 0 rfl rfl rfl inf35 rfl rfl rfl (Free.zero _) ?_
      intro  w6 h6
      try simp only [lz, ls, ez, es'] at h6
      refine WL.v (Runs.assign rfl) rfl ?_
      refine WL.nil (WN.thn (WC.ret ?_))
      refine retB rfl (ResOk.blk h6 0 rfl Try.underlying35 rfl inf35 rfl rfl) (show lk _ _ = _ from rfl) ⟨F, AJ, AS, cj, cS, Le.refl F, by rw [apply_no (by simpa using c5)] <;> rfl, by rw [apply_no (by simpa using c5)]; exact hR, (((h6.drop 0).drop 0).drop 0)⟩
  · try simp only [dt, df, nt, nf, ba, il, ie] at c5
    first
    | (exfalso; omega)
    | skip
      refine WC.skip (WN.thn (WC.seq (WC.seq ?_)))
      have hok : okR r := by simpa using c5
      have hk7 := hok.2.1
      rcases two (¬ r.kd = 0) (¬ 6 ≤ r.kd) with q0 | ⟨q0, q1⟩ | ⟨q0, q1⟩
      · skip
        refine WC.reg ?_
        refine WL.v (Runs.fld fld24_0 rfl) rfl ?_
        refine WL.v (Runs.load1 Try.underlying3 rfl rfl (h4.ocell (i := 1) rfl rfl)) rfl ?_
        refine WL.v (Runs.boolT (c := true) (Runs.eql rfl rfl) (decide_eq_true (Classical.not_not.1 q0))) rfl ?_
        refine WL.v (Runs.move rfl) rfl ?_
        refine WL.goff rfl rfl rfl rfl ?_
        refine WL.goff rfl rfl rfl rfl ?_
        refine WL.goff rfl rfl rfl rfl ?_
        refine WL.v (Runs.pick rfl rfl rfl) rfl ?_
        refine WL.nil (WN.thn ?_)
        refine WC.condT rfl (rfl) ?_
        refine WC.seq (WC.reg ?_)
        refine WL.v (Runs.loadAll h4 2 rfl Try.underlying35 rfl inf35 rfl rfl) rfl ?_
        refine WL.v (Runs.loadAll h4 1 rfl Try.underlying24 rfl inf24 rfl rfl) rfl ?_
        refine WL.call can48 rfl rfl (qjobs_c _ hl hn hz hR h4 hok (by omega)) ?_
        rintro _ w7 ⟨G26, AJ26, AS26, cj26, cS26, hG26, rfl, hZ26, h7⟩
        refine ⟨_, rfl, ?_⟩
        replace hleF := Le.trans hleF hG26
        replace hR := hR.mono hG26
        replace hl := hl.mono hG26
        refine WL.v (Runs.extract rfl rfl) rfl ?_
        refine WL.v (Runs.extract rfl rfl) rfl ?_
        refine WL.storeAll h7 0 rfl rfl rfl inf35 rfl rfl rfl (Free.zero _) ?_
        intro  w8 h8
        try simp only [lz, ls, ez, es'] at h8
        refine WL.v (Runs.assign rfl) rfl ?_
        refine WL.nil (WN.thn (WC.ret ?_))
        refine retB rfl (ResOk.blk h8 0 rfl Try.underlying35 rfl inf35 rfl rfl) (show lk _ _ = _ from rfl) ⟨_, AJ26, AS26, cj26, cS26, hleF, by rw [apply_ok hok] <;> rfl, by rw [apply_ok hok]; exact hZ26, (((h8.drop 0).drop 0).drop 0)⟩
      · skip
        refine WC.reg ?_
        refine WL.v (Runs.fld fld24_0 rfl) rfl ?_
        refine WL.v (Runs.load1 Try.underlying3 rfl rfl (h4.ocell (i := 1) rfl rfl)) rfl ?_
        refine WL.v (Runs.boolT (c := false) (Runs.eql rfl rfl) (decide_eq_false q0)) rfl ?_
        refine WL.v (Runs.move rfl) rfl ?_
        refine WL.gon rfl rfl rfl ?_
        refine WL.v (Runs.fld fld24_0 rfl) rfl ?_
        refine WL.gon rfl rfl rfl ?_
        refine WL.v (Runs.load1 Try.underlying3 rfl rfl (h4.ocell (i := 1) rfl rfl)) rfl ?_
        refine WL.gon rfl rfl rfl ?_
        refine WL.v (Runs.boolT (c := true) (Runs.geq rfl rfl) (decide_eq_true (Classical.not_not.1 q1))) rfl ?_
        refine WL.v (Runs.pick rfl rfl rfl) rfl ?_
        refine WL.nil (WN.thn ?_)
        refine WC.condT rfl (rfl) ?_
        refine WC.seq (WC.reg ?_)
        refine WL.v (Runs.loadAll h4 2 rfl Try.underlying35 rfl inf35 rfl rfl) rfl ?_
        refine WL.v (Runs.loadAll h4 1 rfl Try.underlying24 rfl inf24 rfl rfl) rfl ?_
        refine WL.call can48 rfl rfl (qjobs_c _ hl hn hz hR h4 hok (by omega)) ?_
        rintro _ w9 ⟨G26, AJ26, AS26, cj26, cS26, hG26, rfl, hZ26, h9⟩
        refine ⟨_, rfl, ?_⟩
        replace hleF := Le.trans hleF hG26
        replace hR := hR.mono hG26
        replace hl := hl.mono hG26
        refine WL.v (Runs.extract rfl rfl) rfl ?_
        refine WL.v (Runs.extract rfl rfl) rfl ?_
        refine WL.storeAll h9 0 rfl rfl rfl inf35 rfl rfl rfl (Free.zero _) ?_
        intro  w10 h10
        try simp only [lz, ls, ez, es'] at h10
        refine WL.v (Runs.assign rfl) rfl ?_
        refine WL.nil (WN.thn (WC.ret ?_))
        refine retB rfl (ResOk.blk h10 0 rfl Try.underlying35 rfl inf35 rfl rfl) (show lk _ _ = _ from rfl) ⟨_, AJ26, AS26, cj26, cS26, hleF, by rw [apply_ok hok] <;> rfl, by rw [apply_ok hok]; exact hZ26, (((h10.drop 0).drop 0).drop 0)⟩
      · skip
        refine WC.reg ?_
        refine WL.v (Runs.fld fld24_0 rfl) rfl ?_
        refine WL.v (Runs.load1 Try.underlying3 rfl rfl (h4.ocell (i := 1) rfl rfl)) rfl ?_
        refine WL.v (Runs.boolT (c := false) (Runs.eql rfl rfl) (decide_eq_false q0)) rfl ?_
        refine WL.v (Runs.move rfl) rfl ?_
        refine WL.gon rfl rfl rfl ?_
        refine WL.v (Runs.fld fld24_0 rfl) rfl ?_
        refine WL.gon rfl rfl rfl ?_
        refine WL.v (Runs.load1 Try.underlying3 rfl rfl (h4.ocell (i := 1) rfl rfl)) rfl ?_
        refine WL.gon rfl rfl rfl ?_
        refine WL.v (Runs.boolT (c := false) (Runs.geq rfl rfl) (decide_eq_false q1)) rfl ?_
        refine WL.v (Runs.pick rfl rfl rfl) rfl ?_
        refine WL.nil (WN.thn ?_)
        refine WC.condF rfl (rfl) ?_
        refine WC.skip (WN.thn (WC.seq (WC.reg ?_)))
        refine WL.v (Runs.loadAll h4 2 rfl Try.underlying35 rfl inf35 rfl rfl) rfl ?_
        refine WL.call can49 rfl rfl (qcopy_c _ hz h4 hR) ?_
        rintro _ w11 ⟨rj, rs, AJ1, AS1, cj1, cS1, rfl, hO, h11⟩
        refine ⟨_, rfl, ?_⟩
        refine WL.alloc' rfl h11 inf35 ?_
        intro b6 w12 h12
        refine WL.storeAll h12 0 rfl rfl rfl inf35 rfl rfl rfl (Free.zero _) ?_
        intro  w13 h13
        try simp only [lz, ls, ez, es'] at h13
        refine WL.nil (WN.thn (WC.seq (WC.reg ?_)))
        refine WL.v (Runs.loadAll h13 5 rfl Try.underlying35 rfl inf35 rfl rfl) rfl ?_
        refine WL.v (Runs.fld fld24_1 rfl) rfl ?_
        refine WL.v (Runs.load1 Try.underlying3 rfl rfl (h13.ocell (i := 4) rfl rfl)) rfl ?_
        refine WL.v (Runs.fld fld24_2 rfl) rfl ?_
        refine WL.v (Runs.load1 Try.underlying3 rfl rfl (h13.ocell (i := 4) rfl rfl)) rfl ?_
        refine WL.v (Runs.fld fld24_3 rfl) rfl ?_
        refine WL.v (Runs.load1 Try.underlying3 rfl rfl (h13.ocell (i := 4) rfl rfl)) rfl ?_
        refine WL.call can50 rfl rfl (qstep_c _ r.jb r.ep r.st h13 hR.s (by omega)) ?_
        rintro _ w14 ⟨rfl, h14⟩
        refine ⟨_, rfl, ?_⟩
        refine WL.v (Runs.assign rfl) rfl ?_
        refine WL.nil (WN.thn (WC.seq (WC.seq ?_)))
        rcases two (¬ r.kd = 1) (¬ r.kd = 2) with g0 | ⟨g0, g1⟩ | ⟨g0, g1⟩
        · skip
          refine WC.reg ?_
          refine WL.v (Runs.fld fld24_0 rfl) rfl ?_
          refine WL.v (Runs.load1 Try.underlying3 rfl rfl (h14.ocell (i := 4) rfl rfl)) rfl ?_
          refine WL.v (Runs.boolT (c := true) (Runs.eql rfl rfl) (decide_eq_true (Classical.not_not.1 g0))) rfl ?_
          refine WL.v (Runs.move rfl) rfl ?_
          refine WL.goff rfl rfl rfl rfl ?_
          refine WL.goff rfl rfl rfl rfl ?_
          refine WL.goff rfl rfl rfl rfl ?_
          refine WL.v (Runs.pick rfl rfl rfl) rfl ?_
          refine WL.nil (WN.thn ?_)
          refine WC.condT rfl (rfl) ?_
          refine WC.seq (WC.reg ?_)
          refine WL.v (Runs.loadAll h14 5 rfl Try.underlying35 rfl inf35 rfl rfl) rfl ?_
          refine WL.v (Runs.fld fld24_1 rfl) rfl ?_
          refine WL.v (Runs.load1 Try.underlying3 rfl rfl (h14.ocell (i := 4) rfl rfl)) rfl ?_
          refine WL.v (Runs.fld fld24_2 rfl) rfl ?_
          refine WL.v (Runs.load1 Try.underlying3 rfl rfl (h14.ocell (i := 4) rfl rfl)) rfl ?_
          refine WL.call can21 rfl rfl (qfind_c _ r.jb r.ep h14 hR.j (by omega)) ?_
          rintro _ w15 ⟨rfl, h15⟩
          refine ⟨_, rfl, ?_⟩
          refine WL.v (Runs.move rfl) rfl ?_
          refine WL.v (Runs.extract rfl rfl) rfl ?_
          refine WL.v (Runs.extract rfl rfl) rfl ?_
          refine WL.alloc' rfl h15 inf50 ?_
          intro b8 w16 h16
          refine WL.storeAll h16 0 rfl rfl rfl inf50 rfl rfl rfl (Free.zero _) ?_
          intro  w17 h17
          try simp only [lz, ls, ez, es'] at h17
          refine WL.v (Runs.assign rfl) rfl ?_
          refine WL.nil (WN.thn (WC.seq (WC.seq ?_)))
          rcases three ((findM z r.jb r.ep).2 = true) ((findM z r.jb r.ep).1.ph = 0) (¬ 0 ≤ sIx z r.jb r.ep r.st) with q0 | ⟨q0, q1⟩ | ⟨q0, q1, q2⟩ | ⟨q0, q1, q2⟩
          · skip
            refine WC.reg ?_
            refine WL.v (Runs.boolT (c := false) (Runs.move rfl) (Bool.eq_false_iff.2 q0)) rfl ?_
            refine WL.v (Runs.not rfl) rfl ?_
            refine WL.v (Runs.move rfl) rfl ?_
            refine WL.goff rfl rfl rfl rfl ?_
            refine WL.goff rfl rfl rfl rfl ?_
            refine WL.goff rfl rfl rfl rfl ?_
            refine WL.v (Runs.pick rfl rfl rfl) rfl ?_
            refine WL.v (Runs.move rfl) rfl ?_
            refine WL.goff rfl rfl rfl rfl ?_
            refine WL.goff rfl rfl rfl rfl ?_
            refine WL.v (Runs.pick rfl rfl rfl) rfl ?_
            refine WL.v (Runs.move rfl) rfl ?_
            refine WL.goff rfl rfl rfl rfl ?_
            refine WL.goff rfl rfl rfl rfl ?_
            refine WL.goff rfl rfl rfl rfl ?_
            refine WL.goff rfl rfl rfl rfl ?_
            refine WL.v (Runs.pick rfl rfl rfl) rfl ?_
            refine WL.nil (WN.thn ?_)
            refine WC.condT rfl (rfl) ?_
            refine WC.seq (WC.reg ?_)
            refine WL.v (Runs.loadAll h17 6 rfl Try.underlying35 rfl inf35 rfl rfl) rfl ?_
            refine WL.storeAll h17 4 rfl rfl rfl inf35 rfl rfl rfl (Free.zero _) ?_
            intro  w18 h18
            try simp only [lz, ls, ez, es'] at h18
            refine WL.v (Runs.assign rfl) rfl ?_
            refine WL.nil (WN.thn (WC.ret ?_))
            refine retB rfl (ResOk.blk h18 4 rfl Try.underlying35 rfl inf35 rfl rfl) (show lk _ _ = _ from rfl) ⟨_, AJ, AS, cj, cS, hleF, by rw [apply_ok hok, do_b (by omega), begins_14 (.inl (Bool.eq_false_iff.2 q0))] <;> rfl, by rw [apply_ok hok, do_b (by omega), begins_14 (.inl (Bool.eq_false_iff.2 q0))]; exact hR, (((((((h18.drop 0).drop 0).drop 0).drop 0).drop 0).drop 0).drop 0)⟩
          · skip
            refine WC.reg ?_
            refine WL.v (Runs.boolT (c := true) (Runs.move rfl) q0) rfl ?_
            refine WL.v (Runs.not rfl) rfl ?_
            refine WL.v (Runs.move rfl) rfl ?_
            refine WL.gon rfl rfl rfl ?_
            refine WL.v (Runs.fld fld50_2 rfl) rfl ?_
            refine WL.gon rfl rfl rfl ?_
            refine WL.v (Runs.load1 Try.underlying3 rfl rfl (h17.ocell (i := 0) rfl rfl)) rfl ?_
            refine WL.gon rfl rfl rfl ?_
            refine WL.v (Runs.boolT (c := true) (Runs.neq rfl rfl) (by rw [decide_eq_false q1]; rfl)) rfl ?_
            refine WL.v (Runs.pick rfl rfl rfl) rfl ?_
            refine WL.v (Runs.move rfl) rfl ?_
            refine WL.goff rfl rfl rfl rfl ?_
            refine WL.goff rfl rfl rfl rfl ?_
            refine WL.v (Runs.pick rfl rfl rfl) rfl ?_
            refine WL.v (Runs.move rfl) rfl ?_
            refine WL.goff rfl rfl rfl rfl ?_
            refine WL.goff rfl rfl rfl rfl ?_
            refine WL.goff rfl rfl rfl rfl ?_
            refine WL.goff rfl rfl rfl rfl ?_
            refine WL.v (Runs.pick rfl rfl rfl) rfl ?_
            refine WL.nil (WN.thn ?_)
            refine WC.condT rfl (rfl) ?_
            refine WC.seq (WC.reg ?_)
            refine WL.v (Runs.loadAll h17 6 rfl Try.underlying35 rfl inf35 rfl rfl) rfl ?_
            refine WL.storeAll h17 4 rfl rfl rfl inf35 rfl rfl rfl (Free.zero _) ?_
            intro  w19 h19
            try simp only [lz, ls, ez, es'] at h19
            refine WL.v (Runs.assign rfl) rfl ?_
            refine WL.nil (WN.thn (WC.ret ?_))
            refine retB rfl (ResOk.blk h19 4 rfl Try.underlying35 rfl inf35 rfl rfl) (show lk _ _ = _ from rfl) ⟨_, AJ, AS, cj, cS, hleF, by rw [apply_ok hok, do_b (by omega), begins_14 (.inr (.inl q1))] <;> rfl, by rw [apply_ok hok, do_b (by omega), begins_14 (.inr (.inl q1))]; exact hR, (((((((h19.drop 0).drop 0).drop 0).drop 0).drop 0).drop 0).drop 0)⟩
          · skip
            refine WC.reg ?_
            refine WL.v (Runs.boolT (c := true) (Runs.move rfl) q0) rfl ?_
            refine WL.v (Runs.not rfl) rfl ?_
            refine WL.v (Runs.move rfl) rfl ?_
            refine WL.gon rfl rfl rfl ?_
            refine WL.v (Runs.fld fld50_2 rfl) rfl ?_
            refine WL.gon rfl rfl rfl ?_
            refine WL.v (Runs.load1 Try.underlying3 rfl rfl (h17.ocell (i := 0) rfl rfl)) rfl ?_
            refine WL.gon rfl rfl rfl ?_
            refine WL.v (Runs.boolT (c := false) (Runs.neq rfl rfl) (by rw [decide_eq_true q1]; rfl)) rfl ?_
            refine WL.v (Runs.pick rfl rfl rfl) rfl ?_
            refine WL.v (Runs.move rfl) rfl ?_
            refine WL.gon rfl rfl rfl ?_
            refine WL.v (Runs.move rfl) rfl ?_
            refine WL.gon rfl rfl rfl ?_
            refine WL.v (Runs.boolT (c := true) (Runs.geq rfl rfl) (decide_eq_true (Classical.not_not.1 q2))) rfl ?_
            refine WL.v (Runs.pick rfl rfl rfl) rfl ?_
            refine WL.v (Runs.move rfl) rfl ?_
            refine WL.goff rfl rfl rfl rfl ?_
            refine WL.goff rfl rfl rfl rfl ?_
            refine WL.goff rfl rfl rfl rfl ?_
            refine WL.goff rfl rfl rfl rfl ?_
            refine WL.v (Runs.pick rfl rfl rfl) rfl ?_
            refine WL.nil (WN.thn ?_)
            refine WC.condT rfl (rfl) ?_
            refine WC.seq (WC.reg ?_)
            refine WL.v (Runs.loadAll h17 6 rfl Try.underlying35 rfl inf35 rfl rfl) rfl ?_
            refine WL.storeAll h17 4 rfl rfl rfl inf35 rfl rfl rfl (Free.zero _) ?_
            intro  w20 h20
            try simp only [lz, ls, ez, es'] at h20
            refine WL.v (Runs.assign rfl) rfl ?_
            refine WL.nil (WN.thn (WC.ret ?_))
            refine retB rfl (ResOk.blk h20 4 rfl Try.underlying35 rfl inf35 rfl rfl) (show lk _ _ = _ from rfl) ⟨_, AJ, AS, cj, cS, hleF, by rw [apply_ok hok, do_b (by omega), begins_14 (.inr (.inr (.inl (Classical.not_not.1 q2))))] <;> rfl, by rw [apply_ok hok, do_b (by omega), begins_14 (.inr (.inr (.inl (Classical.not_not.1 q2))))]; exact hR, (((((((h20.drop 0).drop 0).drop 0).drop 0).drop 0).drop 0).drop 0)⟩
          · skip
            refine WC.reg ?_
            refine WL.v (Runs.boolT (c := true) (Runs.move rfl) q0) rfl ?_
            refine WL.v (Runs.not rfl) rfl ?_
            refine WL.v (Runs.move rfl) rfl ?_
            refine WL.gon rfl rfl rfl ?_
            refine WL.v (Runs.fld fld50_2 rfl) rfl ?_
            refine WL.gon rfl rfl rfl ?_
            refine WL.v (Runs.load1 Try.underlying3 rfl rfl (h17.ocell (i := 0) rfl rfl)) rfl ?_
            refine WL.gon rfl rfl rfl ?_
            refine WL.v (Runs.boolT (c := false) (Runs.neq rfl rfl) (by rw [decide_eq_true q1]; rfl)) rfl ?_
            refine WL.v (Runs.pick rfl rfl rfl) rfl ?_
            refine WL.v (Runs.move rfl) rfl ?_
            refine WL.gon rfl rfl rfl ?_
            refine WL.v (Runs.move rfl) rfl ?_
            refine WL.gon rfl rfl rfl ?_
            refine WL.v (Runs.boolT (c := false) (Runs.geq rfl rfl) (decide_eq_false q2)) rfl ?_
            refine WL.v (Runs.pick rfl rfl rfl) rfl ?_
            refine WL.v (Runs.move rfl) rfl ?_
            refine WL.gon rfl rfl rfl ?_
            refine WL.v (Runs.loadAll h17 6 rfl Try.underlying35 rfl inf35 rfl rfl) rfl ?_
            refine WL.gon rfl rfl rfl ?_
            refine WL.v (Runs.fld fld24_5 rfl) rfl ?_
            refine WL.gon rfl rfl rfl ?_
            refine WL.v (Runs.load1 Try.underlying22 rfl rfl (h17.ocell (i := 5) rfl rfl)) rfl ?_
            refine WL.gon rfl rfl rfl ?_
            refine WL.call can51 rfl rfl (qshare_c _ hz h17 hR.s hl hn) ?_
            rintro _ w21 ⟨rfl, h21⟩
            refine ⟨_, rfl, ?_⟩
            refine WL.v (Runs.pick rfl rfl rfl) rfl ?_
            refine WL.nil (WN.thn ?_)
            refine WC.cond rfl (fun c22 => ?_) (fun c22 => ?_)
            · try simp only [dt, df, nt, nf, ba, il, ie] at c22
              first
              | (exfalso; omega)
              | skip
                refine WC.seq (WC.reg ?_)
                refine WL.v (Runs.loadAll h21 6 rfl Try.underlying35 rfl inf35 rfl rfl) rfl ?_
                refine WL.storeAll h21 4 rfl rfl rfl inf35 rfl rfl rfl (Free.zero _) ?_
                intro  w23 h23
                try simp only [lz, ls, ez, es'] at h23
                refine WL.v (Runs.assign rfl) rfl ?_
                refine WL.nil (WN.thn (WC.ret ?_))
                refine retB rfl (ResOk.blk h23 4 rfl Try.underlying35 rfl inf35 rfl rfl) (show lk _ _ = _ from rfl) ⟨_, AJ, AS, cj, cS, hleF, by rw [apply_ok hok, do_b (by omega), begins_14 (.inr (.inr (.inr c22)))] <;> rfl, by rw [apply_ok hok, do_b (by omega), begins_14 (.inr (.inr (.inr c22)))]; exact hR, (((((((h23.drop 0).drop 0).drop 0).drop 0).drop 0).drop 0).drop 0)⟩
            · try simp only [dt, df, nt, nf, ba, il, ie] at c22
              first
              | (exfalso; omega)
              | skip
                refine WC.skip (WN.thn (WC.seq (WC.reg ?_)))
                refine WL.v (Runs.fld fld24_1 rfl) rfl ?_
                refine WL.v (Runs.load1 Try.underlying3 rfl rfl (h21.ocell (i := 5) rfl rfl)) rfl ?_
                refine WL.v (Runs.fld fld24_2 rfl) rfl ?_
                refine WL.v (Runs.load1 Try.underlying3 rfl rfl (h21.ocell (i := 5) rfl rfl)) rfl ?_
                refine WL.v (Runs.fld fld24_3 rfl) rfl ?_
                refine WL.v (Runs.load1 Try.underlying3 rfl rfl (h21.ocell (i := 5) rfl rfl)) rfl ?_
                refine WL.v (Runs.fld fld24_0 rfl) rfl ?_
                refine WL.v (Runs.load1 Try.underlying3 rfl rfl (h21.ocell (i := 5) rfl rfl)) rfl ?_
                refine WL.v (Runs.subn rfl rfl (by omega)) rfl ?_
                refine WL.v (Runs.muln rfl rfl (by omega)) rfl ?_
                refine WL.v (Runs.build (vs := [(0, Vi r.jb), (1, Vi r.ep), (2, Vi r.st), (3, Vi (2 * (r.kd - 1)))]) (cells := #[Vi r.jb, Vi r.ep, Vi r.st, Vi (2 * (r.kd - 1)), Vi 0, .slice none 0 0]) rfl (by kernel_rfl)) rfl ?_
                refine WL.alloc' rfl h21 inf57 ?_
                intro b10 w24 h24
                refine WL.storeAll h24 0 rfl rfl rfl inf57 rfl rfl rfl (Free.zero _) ?_
                intro  w25 h25
                try simp only [lz, ls, ez, es'] at h25
                refine WL.nil (WN.thn (WC.seq ?_))
                have hNo := h25.nilRes
                
                refine WC.reg ?_
                refine WL.v (Runs.fld fld57_5 rfl) rfl ?_
                refine WL.v (Runs.load1 Try.underlying22 rfl rfl (hNo.ocell (i := 1) rfl rfl)) rfl ?_
                refine WL.v (Runs.fld fld24_5 rfl) rfl ?_
                refine WL.v (Runs.load1 Try.underlying22 rfl rfl (hNo.ocell (i := 7) rfl rfl)) rfl ?_
                refine WL.app (ys := r.ls) 0 hNo rfl rfl rfl rfl Try.underlying22 Try.underlying22 (.inr ⟨_, rfl⟩) inf3 rfl (Row.nil 3 Vi) (Src.rd hl hNo rfl (fun _ => rfl)) rfl rfl (by first | omega | (simp; done) | (simp; omega) | (simp only [List.length_nil]; omega)) (by first | omega | (simp; done) | (simp; omega) | (simp only [List.length_nil]; omega)) ?_
                intro r26 v26 w27 hr26 h27
                simp only [lz, ls] at h27
                obtain ⟨A26, cap26, rfl⟩ := row_sl hr26
                refine WL.v (Runs.fld fld57_5 rfl) rfl ?_
                refine WL.store' h27 1 rfl rfl rfl inf22 rfl rfl (Free.zero _) (Nat.le_of_ble_eq_true rfl) ?_
                intro  w28 h28
                try simp only [lz, ls, ez, es'] at h28
                refine WL.nil (WN.thn (WC.seq ?_))
                obtain ⟨G8, hG8, gf8, hS8⟩ := h28.freeze (i := 0) rfl
                have hrd8 := Row.read hr26 rfl gf8
                replace h28 := hS8
                simp only [ez, es'] at h28
                replace hleF := Le.trans hleF hG8
                replace hR := hR.mono hG8
                replace hl := hl.mono hG8
                replace hO := hO.mono hG8
                obtain ⟨es, hS, hes, hps⟩ := hO.S
                have hel : es.length = z.ss.length := by rw [← hes, List.length_map]
                
                refine WC.reg ?_
                refine WL.v (Runs.fld fld35_1 rfl) rfl ?_
                refine WL.v (Runs.load1 Try.underlying33 rfl rfl (h28.ocell (i := 2) rfl rfl)) rfl ?_
                refine WL.v (Runs.loadAll h28 0 rfl Try.underlying57 rfl inf57 rfl rfl) rfl ?_
                refine WL.buildSlice (vs := [SV A26 cap26 ⟨r.jb, r.ep, r.st, 2 * (r.kd - 1), 0, r.ls⟩]) h28 rfl Try.underlying33 (inf57.elem rfl rfl) rfl rfl rfl (by decide) ?_
                intro lit94 w29 h29
                try simp only [lz, ls, ez, es'] at h29
                refine WL.appM (f := sc) (ys := [{ s := ⟨r.jb, r.ep, r.st, 2 * (r.kd - 1), 0, r.ls⟩, A := A26, cap := cap26 }]) 5 h29 rfl rfl rfl rfl Try.underlying33 Try.underlying33 (.inr ⟨_, rfl⟩) (inf57.elem rfl rfl) hS (Src.litM h29 0 rfl rfl rfl) rfl (by first | omega | (simp; done) | (simp; omega) | (simp only [List.length_nil]; omega)) (by first | omega | (simp; done) | (simp; omega) | (simp only [List.length_nil]; omega)) ?_
                intro r30 v30 w31 hr30 h31
                simp only [lz, ls] at h31
                replace h31 := h31.drop 0
                simp only [ez, es'] at h31
                obtain ⟨A30, cap30, rfl, hcap30⟩ := hr30.val
                refine WL.v (Runs.fld fld35_1 rfl) rfl ?_
                refine WL.store' h31 2 rfl rfl rfl inf33 rfl rfl (Free.zero _) (Nat.le_of_ble_eq_true rfl) ?_
                intro  w32 h32
                try simp only [lz, ls, ez, es'] at h32
                refine WL.nil (WN.thn (WC.seq (WC.reg ?_)))
                refine WL.v (Runs.loadAll h32 2 rfl Try.underlying35 rfl inf35 rfl rfl) rfl ?_
                refine WL.storeAll h32 5 rfl rfl rfl inf35 rfl rfl rfl (Free.zero _) ?_
                intro  w33 h33
                try simp only [lz, ls, ez, es'] at h33
                refine WL.v (Runs.assign rfl) rfl ?_
                refine WL.nil (WN.thn (WC.ret ?_))
                have e9 : (es ++ [({ s := ⟨r.jb, r.ep, r.st, 2 * (r.kd - 1), 0, r.ls⟩, A := A26, cap := cap26 } : E)]).length = (z.ss ++ [(⟨r.jb, r.ep, r.st, 2 * (r.kd - 1), 0, r.ls⟩ : S)]).length := by rw [List.length_append, List.length_append, hel]; rfl
                obtain ⟨G9, hG9, hZ9, hS9⟩ := (hO.addS hes hps (e := { s := ⟨r.jb, r.ep, r.st, 2 * (r.kd - 1), 0, r.ls⟩, A := A26, cap := cap26 }) hrd8 hr30).still ((((((h33.drop 7).drop 6).drop 5).drop 2).drop 1).drop 0)
                refine retB rfl (ResOk.blk h33 5 rfl Try.underlying35 rfl inf35 rfl rfl) (show lk _ _ = _ from rfl) ⟨G9, _, _, _, _, Le.trans hleF hG9, by rw [apply_ok hok, do_b (by omega), begins_0 (by rw [q0]; decide) (fun hh => hh q1) q2 c22]; exact congrArg (fun n => Ending.returned (.tuple #[.agg #[.slice AJ1 z.js.length cj1, .slice A30 n cap30, .bool z.dr], Vi 0])) e9, by rw [apply_ok hok, do_b (by omega), begins_0 (by rw [q0]; decide) (fun hh => hh q1) q2 c22]; exact hZ9, hS9⟩
        · skip
          refine WC.reg ?_
          refine WL.v (Runs.fld fld24_0 rfl) rfl ?_
          refine WL.v (Runs.load1 Try.underlying3 rfl rfl (h14.ocell (i := 4) rfl rfl)) rfl ?_
          refine WL.v (Runs.boolT (c := false) (Runs.eql rfl rfl) (decide_eq_false g0)) rfl ?_
          refine WL.v (Runs.move rfl) rfl ?_
          refine WL.gon rfl rfl rfl ?_
          refine WL.v (Runs.fld fld24_0 rfl) rfl ?_
          refine WL.gon rfl rfl rfl ?_
          refine WL.v (Runs.load1 Try.underlying3 rfl rfl (h14.ocell (i := 4) rfl rfl)) rfl ?_
          refine WL.gon rfl rfl rfl ?_
          refine WL.v (Runs.boolT (c := true) (Runs.eql rfl rfl) (decide_eq_true (Classical.not_not.1 g1))) rfl ?_
          refine WL.v (Runs.pick rfl rfl rfl) rfl ?_
          refine WL.nil (WN.thn ?_)
          refine WC.condT rfl (rfl) ?_
          refine WC.seq (WC.reg ?_)
          refine WL.v (Runs.loadAll h14 5 rfl Try.underlying35 rfl inf35 rfl rfl) rfl ?_
          refine WL.v (Runs.fld fld24_1 rfl) rfl ?_
          refine WL.v (Runs.load1 Try.underlying3 rfl rfl (h14.ocell (i := 4) rfl rfl)) rfl ?_
          refine WL.v (Runs.fld fld24_2 rfl) rfl ?_
          refine WL.v (Runs.load1 Try.underlying3 rfl rfl (h14.ocell (i := 4) rfl rfl)) rfl ?_
          refine WL.call can21 rfl rfl (qfind_c _ r.jb r.ep h14 hR.j (by omega)) ?_
          rintro _ w34 ⟨rfl, h34⟩
          refine ⟨_, rfl, ?_⟩
          refine WL.v (Runs.move rfl) rfl ?_
          refine WL.v (Runs.extract rfl rfl) rfl ?_
          refine WL.v (Runs.extract rfl rfl) rfl ?_
          refine WL.alloc' rfl h34 inf50 ?_
          intro b8 w35 h35
          refine WL.storeAll h35 0 rfl rfl rfl inf50 rfl rfl rfl (Free.zero _) ?_
          intro  w36 h36
          try simp only [lz, ls, ez, es'] at h36
          refine WL.v (Runs.assign rfl) rfl ?_
          refine WL.nil (WN.thn (WC.seq (WC.seq ?_)))
          rcases three ((findM z r.jb r.ep).2 = true) ((findM z r.jb r.ep).1.ph = 0) (¬ 0 ≤ sIx z r.jb r.ep r.st) with q0 | ⟨q0, q1⟩ | ⟨q0, q1, q2⟩ | ⟨q0, q1, q2⟩
          · skip
            refine WC.reg ?_
            refine WL.v (Runs.boolT (c := false) (Runs.move rfl) (Bool.eq_false_iff.2 q0)) rfl ?_
            refine WL.v (Runs.not rfl) rfl ?_
            refine WL.v (Runs.move rfl) rfl ?_
            refine WL.goff rfl rfl rfl rfl ?_
            refine WL.goff rfl rfl rfl rfl ?_
            refine WL.goff rfl rfl rfl rfl ?_
            refine WL.v (Runs.pick rfl rfl rfl) rfl ?_
            refine WL.v (Runs.move rfl) rfl ?_
            refine WL.goff rfl rfl rfl rfl ?_
            refine WL.goff rfl rfl rfl rfl ?_
            refine WL.v (Runs.pick rfl rfl rfl) rfl ?_
            refine WL.v (Runs.move rfl) rfl ?_
            refine WL.goff rfl rfl rfl rfl ?_
            refine WL.goff rfl rfl rfl rfl ?_
            refine WL.goff rfl rfl rfl rfl ?_
            refine WL.goff rfl rfl rfl rfl ?_
            refine WL.v (Runs.pick rfl rfl rfl) rfl ?_
            refine WL.nil (WN.thn ?_)
            refine WC.condT rfl (rfl) ?_
            refine WC.seq (WC.reg ?_)
            refine WL.v (Runs.loadAll h36 6 rfl Try.underlying35 rfl inf35 rfl rfl) rfl ?_
            refine WL.storeAll h36 4 rfl rfl rfl inf35 rfl rfl rfl (Free.zero _) ?_
            intro  w37 h37
            try simp only [lz, ls, ez, es'] at h37
            refine WL.v (Runs.assign rfl) rfl ?_
            refine WL.nil (WN.thn (WC.ret ?_))
            refine retB rfl (ResOk.blk h37 4 rfl Try.underlying35 rfl inf35 rfl rfl) (show lk _ _ = _ from rfl) ⟨_, AJ, AS, cj, cS, hleF, by rw [apply_ok hok, do_b (by omega), begins_14 (.inl (Bool.eq_false_iff.2 q0))] <;> rfl, by rw [apply_ok hok, do_b (by omega), begins_14 (.inl (Bool.eq_false_iff.2 q0))]; exact hR, (((((((h37.drop 0).drop 0).drop 0).drop 0).drop 0).drop 0).drop 0)⟩
          · skip
            refine WC.reg ?_
            refine WL.v (Runs.boolT (c := true) (Runs.move rfl) q0) rfl ?_
            refine WL.v (Runs.not rfl) rfl ?_
            refine WL.v (Runs.move rfl) rfl ?_
            refine WL.gon rfl rfl rfl ?_
            refine WL.v (Runs.fld fld50_2 rfl) rfl ?_
            refine WL.gon rfl rfl rfl ?_
            refine WL.v (Runs.load1 Try.underlying3 rfl rfl (h36.ocell (i := 0) rfl rfl)) rfl ?_
            refine WL.gon rfl rfl rfl ?_
            refine WL.v (Runs.boolT (c := true) (Runs.neq rfl rfl) (by rw [decide_eq_false q1]; rfl)) rfl ?_
            refine WL.v (Runs.pick rfl rfl rfl) rfl ?_
            refine WL.v (Runs.move rfl) rfl ?_
            refine WL.goff rfl rfl rfl rfl ?_
            refine WL.goff rfl rfl rfl rfl ?_
            refine WL.v (Runs.pick rfl rfl rfl) rfl ?_
            refine WL.v (Runs.move rfl) rfl ?_
            refine WL.goff rfl rfl rfl rfl ?_
            refine WL.goff rfl rfl rfl rfl ?_
            refine WL.goff rfl rfl rfl rfl ?_
            refine WL.goff rfl rfl rfl rfl ?_
            refine WL.v (Runs.pick rfl rfl rfl) rfl ?_
            refine WL.nil (WN.thn ?_)
            refine WC.condT rfl (rfl) ?_
            refine WC.seq (WC.reg ?_)
            refine WL.v (Runs.loadAll h36 6 rfl Try.underlying35 rfl inf35 rfl rfl) rfl ?_
            refine WL.storeAll h36 4 rfl rfl rfl inf35 rfl rfl rfl (Free.zero _) ?_
            intro  w38 h38
            try simp only [lz, ls, ez, es'] at h38
            refine WL.v (Runs.assign rfl) rfl ?_
            refine WL.nil (WN.thn (WC.ret ?_))
            refine retB rfl (ResOk.blk h38 4 rfl Try.underlying35 rfl inf35 rfl rfl) (show lk _ _ = _ from rfl) ⟨_, AJ, AS, cj, cS, hleF, by rw [apply_ok hok, do_b (by omega), begins_14 (.inr (.inl q1))] <;> rfl, by rw [apply_ok hok, do_b (by omega), begins_14 (.inr (.inl q1))]; exact hR, (((((((h38.drop 0).drop 0).drop 0).drop 0).drop 0).drop 0).drop 0)⟩
          · skip
            refine WC.reg ?_
            refine WL.v (Runs.boolT (c := true) (Runs.move rfl) q0) rfl ?_
            refine WL.v (Runs.not rfl) rfl ?_
            refine WL.v (Runs.move rfl) rfl ?_
            refine WL.gon rfl rfl rfl ?_
            refine WL.v (Runs.fld fld50_2 rfl) rfl ?_
            refine WL.gon rfl rfl rfl ?_
            refine WL.v (Runs.load1 Try.underlying3 rfl rfl (h36.ocell (i := 0) rfl rfl)) rfl ?_
            refine WL.gon rfl rfl rfl ?_
            refine WL.v (Runs.boolT (c := false) (Runs.neq rfl rfl) (by rw [decide_eq_true q1]; rfl)) rfl ?_
            refine WL.v (Runs.pick rfl rfl rfl) rfl ?_
            refine WL.v (Runs.move rfl) rfl ?_
            refine WL.gon rfl rfl rfl ?_
            refine WL.v (Runs.move rfl) rfl ?_
            refine WL.gon rfl rfl rfl ?_
            refine WL.v (Runs.boolT (c := true) (Runs.geq rfl rfl) (decide_eq_true (Classical.not_not.1 q2))) rfl ?_
            refine WL.v (Runs.pick rfl rfl rfl) rfl ?_
            refine WL.v (Runs.move rfl) rfl ?_
            refine WL.goff rfl rfl rfl rfl ?_
            refine WL.goff rfl rfl rfl rfl ?_
            refine WL.goff rfl rfl rfl rfl ?_
            refine WL.goff rfl rfl rfl rfl ?_
            refine WL.v (Runs.pick rfl rfl rfl) rfl ?_
            refine WL.nil (WN.thn ?_)
            refine WC.condT rfl (rfl) ?_
            refine WC.seq (WC.reg ?_)
            refine WL.v (Runs.loadAll h36 6 rfl Try.underlying35 rfl inf35 rfl rfl) rfl ?_
            refine WL.storeAll h36 4 rfl rfl rfl inf35 rfl rfl rfl (Free.zero _) ?_
            intro  w39 h39
            try simp only [lz, ls, ez, es'] at h39
            refine WL.v (Runs.assign rfl) rfl ?_
            refine WL.nil (WN.thn (WC.ret ?_))
            refine retB rfl (ResOk.blk h39 4 rfl Try.underlying35 rfl inf35 rfl rfl) (show lk _ _ = _ from rfl) ⟨_, AJ, AS, cj, cS, hleF, by rw [apply_ok hok, do_b (by omega), begins_14 (.inr (.inr (.inl (Classical.not_not.1 q2))))] <;> rfl, by rw [apply_ok hok, do_b (by omega), begins_14 (.inr (.inr (.inl (Classical.not_not.1 q2))))]; exact hR, (((((((h39.drop 0).drop 0).drop 0).drop 0).drop 0).drop 0).drop 0)⟩
          · skip
            refine WC.reg ?_
            refine WL.v (Runs.boolT (c := true) (Runs.move rfl) q0) rfl ?_
            refine WL.v (Runs.not rfl) rfl ?_
            refine WL.v (Runs.move rfl) rfl ?_
            refine WL.gon rfl rfl rfl ?_
            refine WL.v (Runs.fld fld50_2 rfl) rfl ?_
            refine WL.gon rfl rfl rfl ?_
            refine WL.v (Runs.load1 Try.underlying3 rfl rfl (h36.ocell (i := 0) rfl rfl)) rfl ?_
            refine WL.gon rfl rfl rfl ?_
            refine WL.v (Runs.boolT (c := false) (Runs.neq rfl rfl) (by rw [decide_eq_true q1]; rfl)) rfl ?_
            refine WL.v (Runs.pick rfl rfl rfl) rfl ?_
            refine WL.v (Runs.move rfl) rfl ?_
            refine WL.gon rfl rfl rfl ?_
            refine WL.v (Runs.move rfl) rfl ?_
            refine WL.gon rfl rfl rfl ?_
            refine WL.v (Runs.boolT (c := false) (Runs.geq rfl rfl) (decide_eq_false q2)) rfl ?_
            refine WL.v (Runs.pick rfl rfl rfl) rfl ?_
            refine WL.v (Runs.move rfl) rfl ?_
            refine WL.gon rfl rfl rfl ?_
            refine WL.v (Runs.loadAll h36 6 rfl Try.underlying35 rfl inf35 rfl rfl) rfl ?_
            refine WL.gon rfl rfl rfl ?_
            refine WL.v (Runs.fld fld24_5 rfl) rfl ?_
            refine WL.gon rfl rfl rfl ?_
            refine WL.v (Runs.load1 Try.underlying22 rfl rfl (h36.ocell (i := 5) rfl rfl)) rfl ?_
            refine WL.gon rfl rfl rfl ?_
            refine WL.call can51 rfl rfl (qshare_c _ hz h36 hR.s hl hn) ?_
            rintro _ w40 ⟨rfl, h40⟩
            refine ⟨_, rfl, ?_⟩
            refine WL.v (Runs.pick rfl rfl rfl) rfl ?_
            refine WL.nil (WN.thn ?_)
            refine WC.cond rfl (fun c41 => ?_) (fun c41 => ?_)
            · try simp only [dt, df, nt, nf, ba, il, ie] at c41
              first
              | (exfalso; omega)
              | skip
                refine WC.seq (WC.reg ?_)
                refine WL.v (Runs.loadAll h40 6 rfl Try.underlying35 rfl inf35 rfl rfl) rfl ?_
                refine WL.storeAll h40 4 rfl rfl rfl inf35 rfl rfl rfl (Free.zero _) ?_
                intro  w42 h42
                try simp only [lz, ls, ez, es'] at h42
                refine WL.v (Runs.assign rfl) rfl ?_
                refine WL.nil (WN.thn (WC.ret ?_))
                refine retB rfl (ResOk.blk h42 4 rfl Try.underlying35 rfl inf35 rfl rfl) (show lk _ _ = _ from rfl) ⟨_, AJ, AS, cj, cS, hleF, by rw [apply_ok hok, do_b (by omega), begins_14 (.inr (.inr (.inr c41)))] <;> rfl, by rw [apply_ok hok, do_b (by omega), begins_14 (.inr (.inr (.inr c41)))]; exact hR, (((((((h42.drop 0).drop 0).drop 0).drop 0).drop 0).drop 0).drop 0)⟩
            · try simp only [dt, df, nt, nf, ba, il, ie] at c41
              first
              | (exfalso; omega)
              | skip
                refine WC.skip (WN.thn (WC.seq (WC.reg ?_)))
                refine WL.v (Runs.fld fld24_1 rfl) rfl ?_
                refine WL.v (Runs.load1 Try.underlying3 rfl rfl (h40.ocell (i := 5) rfl rfl)) rfl ?_
                refine WL.v (Runs.fld fld24_2 rfl) rfl ?_
                refine WL.v (Runs.load1 Try.underlying3 rfl rfl (h40.ocell (i := 5) rfl rfl)) rfl ?_
                refine WL.v (Runs.fld fld24_3 rfl) rfl ?_
                refine WL.v (Runs.load1 Try.underlying3 rfl rfl (h40.ocell (i := 5) rfl rfl)) rfl ?_
                refine WL.v (Runs.fld fld24_0 rfl) rfl ?_
                refine WL.v (Runs.load1 Try.underlying3 rfl rfl (h40.ocell (i := 5) rfl rfl)) rfl ?_
                refine WL.v (Runs.subn rfl rfl (by omega)) rfl ?_
                refine WL.v (Runs.muln rfl rfl (by omega)) rfl ?_
                refine WL.v (Runs.build (vs := [(0, Vi r.jb), (1, Vi r.ep), (2, Vi r.st), (3, Vi (2 * (r.kd - 1)))]) (cells := #[Vi r.jb, Vi r.ep, Vi r.st, Vi (2 * (r.kd - 1)), Vi 0, .slice none 0 0]) rfl (by kernel_rfl)) rfl ?_
                refine WL.alloc' rfl h40 inf57 ?_
                intro b10 w43 h43
                refine WL.storeAll h43 0 rfl rfl rfl inf57 rfl rfl rfl (Free.zero _) ?_
                intro  w44 h44
                try simp only [lz, ls, ez, es'] at h44
                refine WL.nil (WN.thn (WC.seq ?_))
                have hNo := h44.nilRes
                
                refine WC.reg ?_
                refine WL.v (Runs.fld fld57_5 rfl) rfl ?_
                refine WL.v (Runs.load1 Try.underlying22 rfl rfl (hNo.ocell (i := 1) rfl rfl)) rfl ?_
                refine WL.v (Runs.fld fld24_5 rfl) rfl ?_
                refine WL.v (Runs.load1 Try.underlying22 rfl rfl (hNo.ocell (i := 7) rfl rfl)) rfl ?_
                refine WL.app (ys := r.ls) 0 hNo rfl rfl rfl rfl Try.underlying22 Try.underlying22 (.inr ⟨_, rfl⟩) inf3 rfl (Row.nil 3 Vi) (Src.rd hl hNo rfl (fun _ => rfl)) rfl rfl (by first | omega | (simp; done) | (simp; omega) | (simp only [List.length_nil]; omega)) (by first | omega | (simp; done) | (simp; omega) | (simp only [List.length_nil]; omega)) ?_
                intro r45 v45 w46 hr45 h46
                simp only [lz, ls] at h46
                obtain ⟨A45, cap45, rfl⟩ := row_sl hr45
                refine WL.v (Runs.fld fld57_5 rfl) rfl ?_
                refine WL.store' h46 1 rfl rfl rfl inf22 rfl rfl (Free.zero _) (Nat.le_of_ble_eq_true rfl) ?_
                intro  w47 h47
                try simp only [lz, ls, ez, es'] at h47
                refine WL.nil (WN.thn (WC.seq ?_))
                obtain ⟨G8, hG8, gf8, hS8⟩ := h47.freeze (i := 0) rfl
                have hrd8 := Row.read hr45 rfl gf8
                replace h47 := hS8
                simp only [ez, es'] at h47
                replace hleF := Le.trans hleF hG8
                replace hR := hR.mono hG8
                replace hl := hl.mono hG8
                replace hO := hO.mono hG8
                obtain ⟨es, hS, hes, hps⟩ := hO.S
                have hel : es.length = z.ss.length := by rw [← hes, List.length_map]
                
                refine WC.reg ?_
                refine WL.v (Runs.fld fld35_1 rfl) rfl ?_
                refine WL.v (Runs.load1 Try.underlying33 rfl rfl (h47.ocell (i := 2) rfl rfl)) rfl ?_
                refine WL.v (Runs.loadAll h47 0 rfl Try.underlying57 rfl inf57 rfl rfl) rfl ?_
                refine WL.buildSlice (vs := [SV A45 cap45 ⟨r.jb, r.ep, r.st, 2 * (r.kd - 1), 0, r.ls⟩]) h47 rfl Try.underlying33 (inf57.elem rfl rfl) rfl rfl rfl (by decide) ?_
                intro lit94 w48 h48
                try simp only [lz, ls, ez, es'] at h48
                refine WL.appM (f := sc) (ys := [{ s := ⟨r.jb, r.ep, r.st, 2 * (r.kd - 1), 0, r.ls⟩, A := A45, cap := cap45 }]) 5 h48 rfl rfl rfl rfl Try.underlying33 Try.underlying33 (.inr ⟨_, rfl⟩) (inf57.elem rfl rfl) hS (Src.litM h48 0 rfl rfl rfl) rfl (by first | omega | (simp; done) | (simp; omega) | (simp only [List.length_nil]; omega)) (by first | omega | (simp; done) | (simp; omega) | (simp only [List.length_nil]; omega)) ?_
                intro r49 v49 w50 hr49 h50
                simp only [lz, ls] at h50
                replace h50 := h50.drop 0
                simp only [ez, es'] at h50
                obtain ⟨A49, cap49, rfl, hcap49⟩ := hr49.val
                refine WL.v (Runs.fld fld35_1 rfl) rfl ?_
                refine WL.store' h50 2 rfl rfl rfl inf33 rfl rfl (Free.zero _) (Nat.le_of_ble_eq_true rfl) ?_
                intro  w51 h51
                try simp only [lz, ls, ez, es'] at h51
                refine WL.nil (WN.thn (WC.seq (WC.reg ?_)))
                refine WL.v (Runs.loadAll h51 2 rfl Try.underlying35 rfl inf35 rfl rfl) rfl ?_
                refine WL.storeAll h51 5 rfl rfl rfl inf35 rfl rfl rfl (Free.zero _) ?_
                intro  w52 h52
                try simp only [lz, ls, ez, es'] at h52
                refine WL.v (Runs.assign rfl) rfl ?_
                refine WL.nil (WN.thn (WC.ret ?_))
                have e9 : (es ++ [({ s := ⟨r.jb, r.ep, r.st, 2 * (r.kd - 1), 0, r.ls⟩, A := A45, cap := cap45 } : E)]).length = (z.ss ++ [(⟨r.jb, r.ep, r.st, 2 * (r.kd - 1), 0, r.ls⟩ : S)]).length := by rw [List.length_append, List.length_append, hel]; rfl
                obtain ⟨G9, hG9, hZ9, hS9⟩ := (hO.addS hes hps (e := { s := ⟨r.jb, r.ep, r.st, 2 * (r.kd - 1), 0, r.ls⟩, A := A45, cap := cap45 }) hrd8 hr49).still ((((((h52.drop 7).drop 6).drop 5).drop 2).drop 1).drop 0)
                refine retB rfl (ResOk.blk h52 5 rfl Try.underlying35 rfl inf35 rfl rfl) (show lk _ _ = _ from rfl) ⟨G9, _, _, _, _, Le.trans hleF hG9, by rw [apply_ok hok, do_b (by omega), begins_0 (by rw [q0]; decide) (fun hh => hh q1) q2 c41]; exact congrArg (fun n => Ending.returned (.tuple #[.agg #[.slice AJ1 z.js.length cj1, .slice A49 n cap49, .bool z.dr], Vi 0])) e9, by rw [apply_ok hok, do_b (by omega), begins_0 (by rw [q0]; decide) (fun hh => hh q1) q2 c41]; exact hZ9, hS9⟩
        · skip
          refine WC.reg ?_
          refine WL.v (Runs.fld fld24_0 rfl) rfl ?_
          refine WL.v (Runs.load1 Try.underlying3 rfl rfl (h14.ocell (i := 4) rfl rfl)) rfl ?_
          refine WL.v (Runs.boolT (c := false) (Runs.eql rfl rfl) (decide_eq_false g0)) rfl ?_
          refine WL.v (Runs.move rfl) rfl ?_
          refine WL.gon rfl rfl rfl ?_
          refine WL.v (Runs.fld fld24_0 rfl) rfl ?_
          refine WL.gon rfl rfl rfl ?_
          refine WL.v (Runs.load1 Try.underlying3 rfl rfl (h14.ocell (i := 4) rfl rfl)) rfl ?_
          refine WL.gon rfl rfl rfl ?_
          refine WL.v (Runs.boolT (c := false) (Runs.eql rfl rfl) (decide_eq_false g1)) rfl ?_
          refine WL.v (Runs.pick rfl rfl rfl) rfl ?_
          refine WL.nil (WN.thn ?_)
          refine WC.condF rfl (rfl) ?_
          refine WC.skip (WN.thn (WC.seq (WC.seq ?_)))
          rcases ix_at (sAt r.jb r.ep r.st) z.ss S0 with ⟨hix, _⟩ | ⟨i, hi2, hix, _⟩
          · replace hix : sIx z r.jb r.ep r.st = -1 := hix
            refine WC.reg ?_
            refine WL.v (Runs.move rfl) rfl ?_
            refine WL.v (Runs.boolT (c := true) (Runs.lss rfl rfl) (by rw [decide_eq_true_eq]; omega)) rfl ?_
            refine WL.nil (WN.thn ?_)
            refine WC.condT rfl (rfl) ?_
            refine WC.seq (WC.reg ?_)
            refine WL.v (Runs.loadAll h14 5 rfl Try.underlying35 rfl inf35 rfl rfl) rfl ?_
            refine WL.storeAll h14 3 rfl rfl rfl inf35 rfl rfl rfl (Free.zero _) ?_
            intro  w53 h53
            try simp only [lz, ls, ez, es'] at h53
            refine WL.v (Runs.assign rfl) rfl ?_
            refine WL.nil (WN.thn (WC.ret ?_))
            refine retB rfl (ResOk.blk h53 3 rfl Try.underlying35 rfl inf35 rfl rfl) (show lk _ _ = _ from rfl) ⟨_, AJ, AS, cj, cS, hleF, by rw [apply_ok hok, do_t (by omega), turns_14 (.inl (by omega))] <;> rfl, by rw [apply_ok hok, do_t (by omega), turns_14 (.inl (by omega))]; exact hR, ((((((h53.drop 0).drop 0).drop 0).drop 0).drop 0).drop 0)⟩
          · replace hix : sIx z r.jb r.ep r.st = (i : Int) := hix
            refine WC.reg ?_
            refine WL.v (Runs.move rfl) rfl ?_
            refine WL.v (Runs.boolT (c := false) (Runs.lss rfl rfl) (by rw [decide_eq_false_iff_not]; omega)) rfl ?_
            refine WL.nil (WN.thn ?_)
            refine WC.condF rfl (rfl) ?_
            refine WC.skip (WN.thn (WC.seq (WC.reg ?_)))
            refine WL.v (Runs.assign rfl) rfl ?_
            refine WL.nil (WN.thn (WC.seq (WC.seq (WC.reg ?_))))
            refine WL.v (Runs.fld fld24_0 rfl) rfl ?_
            refine WL.v (Runs.load1 Try.underlying3 rfl rfl (h14.ocell (i := 4) rfl rfl)) rfl ?_
            refine WL.v (Runs.eql rfl rfl) rfl ?_
            refine WL.nil (WN.thn ?_)
            refine WC.cond rfl (fun c54 => ?_) (fun c54 => ?_)
            · try simp only [dt, df, nt, nf, ba, il, ie] at c54
              first
              | (exfalso; omega)
              | skip
                refine WC.reg ?_
                refine WL.v (Runs.assign rfl) rfl ?_
                refine WL.nil (WN.thn (WC.seq (WC.seq ?_)))
                obtain ⟨ad, c, rfl, hc, hcell⟩ := hR.s.atD S0 hi2
                obtain ⟨A1, cap1, rfl, hps1⟩ := hc
                obtain ⟨es, hS, hes, hps⟩ := hO.S
                obtain ⟨e, hei, hes2⟩ := map_at hes hi2
                obtain ⟨ad2, rfl, hcs⟩ := qrowCell (W := W) (F := F) hS hei
                refine WC.reg ?_
                refine WL.v (Runs.fld fld35_1 rfl) rfl ?_
                refine WL.v (Runs.load1 Try.underlying33 rfl rfl (h14.ocell (i := 5) rfl rfl)) rfl ?_
                refine WL.v (Runs.move rfl) rfl ?_
                refine WL.v (Runs.lidxK Try.underlying33 inf57 rfl rfl (n := i) hix hi2) rfl ?_
                refine WL.v (Runs.fld fld57_3 rfl) rfl ?_
                refine WL.v (Runs.fldKF (n := i) h14 hcell Try.underlying3 rfl rfl rfl) rfl ?_
                refine WL.v (Runs.move rfl) rfl ?_
                refine WL.v (Runs.neq rfl rfl) rfl ?_
                refine WL.nil (WN.thn ?_)
                refine WC.cond rfl (fun c55 => ?_) (fun c55 => ?_)
                · try simp only [dt, df, nt, nf, ba, il, ie] at c55
                  first
                  | (exfalso; omega)
                  | skip
                    refine WC.seq (WC.reg ?_)
                    refine WL.v (Runs.loadAll h14 5 rfl Try.underlying35 rfl inf35 rfl rfl) rfl ?_
                    refine WL.storeAll h14 3 rfl rfl rfl inf35 rfl rfl rfl (Free.zero _) ?_
                    intro  w56 h56
                    try simp only [lz, ls, ez, es'] at h56
                    refine WL.v (Runs.assign rfl) rfl ?_
                    refine WL.nil (WN.thn (WC.ret ?_))
                    refine retB rfl (ResOk.blk h56 3 rfl Try.underlying35 rfl inf35 rfl rfl) (show lk _ _ = _ from rfl) ⟨_, AJ, some ad, cj, cS, hleF, by rw [apply_ok hok, do_t (by omega), turns_14 (.inr (by rw [hix, Int.toNat_natCast, if_pos c54]; exact c55))] <;> rfl, by rw [apply_ok hok, do_t (by omega), turns_14 (.inr (by rw [hix, Int.toNat_natCast, if_pos c54]; exact c55))]; exact hR, ((((((h56.drop 0).drop 0).drop 0).drop 0).drop 0).drop 0)⟩
                · try simp only [dt, df, nt, nf, ba, il, ie] at c55
                  first
                  | (exfalso; omega)
                  | skip
                    refine WC.skip (WN.thn (WC.seq (WC.reg ?_)))
                    refine WL.v (Runs.fld fld35_1 rfl) rfl ?_
                    refine WL.v (Runs.load1 Try.underlying33 rfl rfl (h14.ocell (i := 0) rfl rfl)) rfl ?_
                    refine WL.v (Runs.move rfl) rfl ?_
                    refine WL.v (Runs.fld fld24_0 rfl) rfl ?_
                    refine WL.v (Runs.load1 Try.underlying3 rfl rfl (h14.ocell (i := 4) rfl rfl)) rfl ?_
                    refine WL.v (Runs.subn rfl rfl (by omega)) rfl ?_
                    refine WL.v (Runs.lidxK Try.underlying33 inf57 rfl rfl (n := i) hix hi2) rfl ?_
                    refine WL.v (Runs.fld fld57_3 rfl) rfl ?_
                    refine WL.storeM h14 2 (fun _ => rfl) (f := sc) (e := e) (e' := { e with s := { e.s with ph := r.kd - 2 } }) rfl hS rfl hei (k := 3) (by omega) rfl rfl rfl inf3 rfl ?_
                    intro r57 w58 hr57 h58
                    try simp only [lz, ls, ez, es'] at h58
                    refine WL.nil (WN.thn (WC.seq (WC.seq (WC.reg ?_))))
                    refine WL.v (Runs.fld fld24_0 rfl) rfl ?_
                    refine WL.v (Runs.load1 Try.underlying3 rfl rfl (h58.ocell (i := 4) rfl rfl)) rfl ?_
                    refine WL.v (Runs.eql rfl rfl) rfl ?_
                    refine WL.nil (WN.thn ?_)
                    refine WC.condT rfl (decide_eq_true c54) ?_
                    refine WC.reg ?_
                    refine WL.v (Runs.fld fld35_1 rfl) rfl ?_
                    refine WL.v (Runs.load1 Try.underlying33 rfl rfl (h58.ocell (i := 0) rfl rfl)) rfl ?_
                    refine WL.v (Runs.move rfl) rfl ?_
                    refine WL.v (Runs.fld fld24_4 rfl) rfl ?_
                    refine WL.v (Runs.load1 Try.underlying3 rfl rfl (h58.ocell (i := 4) rfl rfl)) rfl ?_
                    refine WL.v (Runs.lidxK Try.underlying33 inf57 rfl rfl (n := i) hix hi2) rfl ?_
                    refine WL.v (Runs.fld fld57_4 rfl) rfl ?_
                    refine WL.storeM h58 2 (fun _ => rfl) (f := sc) (e := { e with s := { e.s with ph := r.kd - 2 } }) (e' := { e with s := { e.s with ph := r.kd - 2, cd := r.ar } }) rfl hr57 rfl (List.getElem?_set_self (List.getElem?_eq_some_iff.1 hei).1) (k := 4) (by omega) rfl rfl rfl inf3 rfl ?_
                    intro r59 w60 hr59 h60
                    try simp only [lz, ls, ez, es'] at h60
                    refine WL.nil (WN.thn (WC.seq (WC.reg ?_)))
                    refine WL.v (Runs.loadAll h60 0 rfl Try.underlying35 rfl inf35 rfl rfl) rfl ?_
                    refine WL.storeAll h60 3 rfl rfl rfl inf35 rfl rfl rfl (Free.zero _) ?_
                    intro  w61 h61
                    try simp only [lz, ls, ez, es'] at h61
                    refine WL.v (Runs.assign rfl) rfl ?_
                    refine WL.nil (WN.thn (WC.ret ?_))
                    have hr9 := hr59
                    rw [List.set_set] at hr9
                    obtain ⟨G9, hG9, hZ9, hS9⟩ := (hO.setS hes hps hei (e' := { e with s := { e.s with ph := r.kd - 2, cd := r.ar } }) rfl rfl hr9).still ((((h61.drop 5).drop 4).drop 3).drop 0)
                    refine retB rfl (ResOk.blk h61 3 rfl Try.underlying35 rfl inf35 rfl rfl) (show lk _ _ = _ from rfl) ⟨G9, _, _, _, _, Le.trans hleF hG9, by rw [apply_ok hok, do_t (by omega), turns_0q hix hes2 (by rw [if_pos c54, hes2]; exact c55), if_pos c54]; simp only [List.length_set]; rfl, by rw [apply_ok hok, do_t (by omega), turns_0q hix hes2 (by rw [if_pos c54, hes2]; exact c55), if_pos c54]; exact hZ9, hS9⟩
            · try simp only [dt, df, nt, nf, ba, il, ie] at c54
              first
              | (exfalso; omega)
              | skip
                refine WC.skip (WN.thn (WC.seq (WC.seq ?_)))
                obtain ⟨ad, c, rfl, hc, hcell⟩ := hR.s.atD S0 hi2
                obtain ⟨A1, cap1, rfl, hps1⟩ := hc
                obtain ⟨es, hS, hes, hps⟩ := hO.S
                obtain ⟨e, hei, hes2⟩ := map_at hes hi2
                obtain ⟨ad2, rfl, hcs⟩ := qrowCell (W := W) (F := F) hS hei
                refine WC.reg ?_
                refine WL.v (Runs.fld fld35_1 rfl) rfl ?_
                refine WL.v (Runs.load1 Try.underlying33 rfl rfl (h14.ocell (i := 5) rfl rfl)) rfl ?_
                refine WL.v (Runs.move rfl) rfl ?_
                refine WL.v (Runs.lidxK Try.underlying33 inf57 rfl rfl (n := i) hix hi2) rfl ?_
                refine WL.v (Runs.fld fld57_3 rfl) rfl ?_
                refine WL.v (Runs.fldKF (n := i) h14 hcell Try.underlying3 rfl rfl rfl) rfl ?_
                refine WL.v (Runs.move rfl) rfl ?_
                refine WL.v (Runs.neq rfl rfl) rfl ?_
                refine WL.nil (WN.thn ?_)
                refine WC.cond rfl (fun c62 => ?_) (fun c62 => ?_)
                · try simp only [dt, df, nt, nf, ba, il, ie] at c62
                  first
                  | (exfalso; omega)
                  | skip
                    refine WC.seq (WC.reg ?_)
                    refine WL.v (Runs.loadAll h14 5 rfl Try.underlying35 rfl inf35 rfl rfl) rfl ?_
                    refine WL.storeAll h14 3 rfl rfl rfl inf35 rfl rfl rfl (Free.zero _) ?_
                    intro  w63 h63
                    try simp only [lz, ls, ez, es'] at h63
                    refine WL.v (Runs.assign rfl) rfl ?_
                    refine WL.nil (WN.thn (WC.ret ?_))
                    refine retB rfl (ResOk.blk h63 3 rfl Try.underlying35 rfl inf35 rfl rfl) (show lk _ _ = _ from rfl) ⟨_, AJ, some ad, cj, cS, hleF, by rw [apply_ok hok, do_t (by omega), turns_14 (.inr (by rw [hix, Int.toNat_natCast, if_neg c54]; exact c62))] <;> rfl, by rw [apply_ok hok, do_t (by omega), turns_14 (.inr (by rw [hix, Int.toNat_natCast, if_neg c54]; exact c62))]; exact hR, ((((((h63.drop 0).drop 0).drop 0).drop 0).drop 0).drop 0)⟩
                · try simp only [dt, df, nt, nf, ba, il, ie] at c62
                  first
                  | (exfalso; omega)
                  | skip
                    refine WC.skip (WN.thn (WC.seq (WC.reg ?_)))
                    refine WL.v (Runs.fld fld35_1 rfl) rfl ?_
                    refine WL.v (Runs.load1 Try.underlying33 rfl rfl (h14.ocell (i := 0) rfl rfl)) rfl ?_
                    refine WL.v (Runs.move rfl) rfl ?_
                    refine WL.v (Runs.fld fld24_0 rfl) rfl ?_
                    refine WL.v (Runs.load1 Try.underlying3 rfl rfl (h14.ocell (i := 4) rfl rfl)) rfl ?_
                    refine WL.v (Runs.subn rfl rfl (by omega)) rfl ?_
                    refine WL.v (Runs.lidxK Try.underlying33 inf57 rfl rfl (n := i) hix hi2) rfl ?_
                    refine WL.v (Runs.fld fld57_3 rfl) rfl ?_
                    refine WL.storeM h14 2 (fun _ => rfl) (f := sc) (e := e) (e' := { e with s := { e.s with ph := r.kd - 2 } }) rfl hS rfl hei (k := 3) (by omega) rfl rfl rfl inf3 rfl ?_
                    intro r64 w65 hr64 h65
                    try simp only [lz, ls, ez, es'] at h65
                    refine WL.nil (WN.thn (WC.seq (WC.seq (WC.reg ?_))))
                    refine WL.v (Runs.fld fld24_0 rfl) rfl ?_
                    refine WL.v (Runs.load1 Try.underlying3 rfl rfl (h65.ocell (i := 4) rfl rfl)) rfl ?_
                    refine WL.v (Runs.eql rfl rfl) rfl ?_
                    refine WL.nil (WN.thn ?_)
                    refine WC.condF rfl (decide_eq_false c54) ?_
                    refine WC.skip (WN.thn (WC.seq (WC.reg ?_)))
                    refine WL.v (Runs.loadAll h65 0 rfl Try.underlying35 rfl inf35 rfl rfl) rfl ?_
                    refine WL.storeAll h65 3 rfl rfl rfl inf35 rfl rfl rfl (Free.zero _) ?_
                    intro  w66 h66
                    try simp only [lz, ls, ez, es'] at h66
                    refine WL.v (Runs.assign rfl) rfl ?_
                    refine WL.nil (WN.thn (WC.ret ?_))
                    have hr9 := hr64
                    obtain ⟨G9, hG9, hZ9, hS9⟩ := (hO.setS hes hps hei (e' := { e with s := { e.s with ph := r.kd - 2, cd := e.s.cd } }) rfl rfl hr9).still ((((h66.drop 5).drop 4).drop 3).drop 0)
                    refine retB rfl (ResOk.blk h66 3 rfl Try.underlying35 rfl inf35 rfl rfl) (show lk _ _ = _ from rfl) ⟨G9, _, _, _, _, Le.trans hleF hG9, by rw [apply_ok hok, do_t (by omega), turns_0q hix hes2 (by rw [if_neg c54, hes2]; exact c62), if_neg c54]; simp only [List.length_set]; rfl, by rw [apply_ok hok, do_t (by omega), turns_0q hix hes2 (by rw [if_neg c54, hes2]; exact c62), if_neg c54]; exact hZ9, hS9⟩
set_option maxRecDepth 100000 in
set_option maxHeartbeats 4000000 in
theorem qfold_c {W : World} {F : Snap} {cs : List Res} (w : World) {A : Option Addr} {cap : Nat} {l : List R} (hl : l.length ≤ 1000) (hls : ∀ r ∈ l, r.ls.length ≤ 100000) (hR : RdS KR F A l) (h : St W F cs w) : Calls Try.prog 30 #[.slice A l.length cap] w fun e w' => ∃ G AJ AS cj cS, Le F G ∧ e = .returned (.tuple #[.agg #[.slice AJ ((((foldM Z0 l).1, ((foldM Z0 l).2 : Int))).1).js.length cj, .slice AS ((((foldM Z0 l).1, ((foldM Z0 l).2 : Int))).1).ss.length cS, .bool ((((foldM Z0 l).1, ((foldM Z0 l).2 : Int))).1).dr], Vi (((foldM Z0 l).1, ((foldM Z0 l).2 : Int))).2]) ∧ ZR G AJ AS (((foldM Z0 l).1, ((foldM Z0 l).2 : Int))).1 ∧ St W G cs w'  := by
  refine enter (P := Try.prog) (args := [.slice A l.length cap]) Try.func30 rfl rfl rfl ?_
  refine WC.seq (WC.reg ?_)
  refine WL.alloc' rfl h inf35 ?_
  intro b2 w1 h1
  refine WL.v (Runs.assign rfl) rfl ?_
  refine WL.nil (WN.thn (WC.seq (WC.reg ?_)))
  refine WL.v (Runs.build (vs := []) (cells := #[.slice none 0 0, .slice none 0 0, .bool false]) rfl (by kernel_rfl)) rfl ?_
  refine WL.alloc' rfl h1 inf35 ?_
  intro b4 w2 h2
  refine WL.storeAll h2 0 rfl rfl rfl inf35 rfl rfl rfl (Free.zero _) ?_
  intro  w3 h3
  try simp only [lz, ls, ez, es'] at h3
  refine WL.nil (WN.thn (WC.seq (WC.seq (WC.reg ?_))))
  refine WL.v (Runs.assign rfl) rfl ?_
  refine WL.nil (WN.thn (WC.block ?_))
  refine WC.loop (σ := Nat × Snap × Option Addr × Option Addr × Nat × Nat × Z) (fun q_ => [(0, .slice A l.length cap), (2, .pointer (some ⟨b2, 0, none⟩)), (4, .pointer (some ⟨b4, 0, none⟩)), (5, .int .i64 (q_.1 : Int))]) (fun q_ w => q_.1 ≤ l.length ∧ Le F q_.2.1 ∧ ZR q_.2.1 q_.2.2.1 q_.2.2.2.1 q_.2.2.2.2.2.2 ∧ foldM Z0 l = ((foldM q_.2.2.2.2.2.2 (l.drop q_.1)).1, q_.1 + (foldM q_.2.2.2.2.2.2 (l.drop q_.1)).2) ∧ fewN q_.1 q_.2.2.2.2.2.2 ∧ St W q_.2.1 ([(b4, .cells #[.slice q_.2.2.1 q_.2.2.2.2.2.2.js.length q_.2.2.2.2.1, .slice q_.2.2.2.1 q_.2.2.2.2.2.2.ss.length q_.2.2.2.2.2.1, .bool q_.2.2.2.2.2.2.dr] 35 (0, 0))] :: [(b2, .cells #[.slice none 0 0, .slice none 0 0, .bool false] 35 (0, 0))] :: cs) w) (fun q_ => l.length - q_.1) (⟨0, F, none, none, 0, 0, Z0⟩) (by repeat (first | exact trivial | refine ⟨rfl, ?_⟩)) (⟨Nat.zero_le _, Le.refl F, ⟨.inl rfl, .inl rfl⟩, by simp, fewN0, h3⟩) ?_
  rintro ⟨i, G, AJ, AS, cj, cS, z⟩ w4 ⟨hi, hleG, hZ, hfo, hN, hL⟩
  try dsimp only at hi hleG hZ hfo hN hL
  refine WC.sub (s := [(0, .slice A l.length cap), (2, .pointer (some ⟨b2, 0, none⟩)), (4, .pointer (some ⟨b4, 0, none⟩)), (5, .int .i64 (i : Int))]) (by repeat (first | exact trivial | refine ⟨rfl, ?_⟩)) ?_
  refine WC.seq (WC.seq (WC.reg ?_))
  refine WL.v (Runs.move rfl) rfl ?_
  refine WL.v (Runs.move rfl) rfl ?_
  refine WL.v (Runs.llen Try.underlying65 rfl rfl) rfl ?_
  refine WL.v (Runs.lss rfl rfl) rfl ?_
  refine WL.nil (WN.thn ?_)
  refine WC.cond rfl (fun c5 => ?_) (fun c5 => ?_)
  · try simp only [dt, df, nt, nf, ba, il, ie] at c5
    first
    | (exfalso; omega)
    | skip
      refine WC.skip (WN.thn (WC.seq (WC.block (WC.seq ?_))))
      have hi2 : i < l.length := by omega
      obtain ⟨ad, c, rfl, ⟨A1, cap1, rfl, hps⟩, hcell⟩ := (hR.mono hleG).atD R0 hi2
      refine WC.eregK hL hL (fun s_ => ([10] : List Nat).any (Nat.beq s_)) mixed (by kernel_rfl) (fun hx => ?_)
      intro w6 h6
      refine WE.p0 hx 1 (by rfl) (fun w_ => Runs.move rfl) rfl ?_
      refine WE.p0 hx 2 (by rfl) (fun w_ => Runs.move rfl) rfl ?_
      refine WE.p0 hx 3 (by rfl) (fun w_ => Runs.lidxK Try.underlying65 inf24 rfl rfl (n := i) rfl hi2) rfl ?_
      refine WE.v0 12 hx 0 (by rfl) (fun w_ hE_ => Runs.loadAll hE_ 0 rfl Try.underlying35 rfl inf35 rfl rfl) rfl ?_
      refine WE.v0 12 hx 4 (by rfl) (fun w_ hE_ => Runs.loadKF hE_ hcell Try.underlying24 rfl inf24 rfl rfl) rfl ?_
      refine WE.op2 (.inr h6) (i := 5) (j := 9) (by rfl) (by rfl) (by kernel_rfl) ?_ ?_
      · skip
        refine WL.call can19 rfl rfl (qapply_c _ hps (hls _ (memD R0 hi2)) (hN.few (by omega)) hZ h6) ?_
        rintro _ w7 ⟨G7, AJ7, AS7, cj7, cS7, hG7, rfl, hZ7, h7⟩
        refine ⟨_, rfl, ?_⟩
        replace hleG := Le.trans hleG hG7
        replace hZ := hZ.mono hG7
        refine WL.nil (WE.next ?_)
        refine WE.p0 hx 6 (by rfl) (fun w_ => Runs.move rfl) rfl ?_
        refine WE.p0 hx 7 (by rfl) (fun w_ => Runs.extract rfl rfl) rfl ?_
        refine WE.p0 hx 8 (by rfl) (fun w_ => Runs.extract rfl rfl) rfl ?_
        refine WE.op (.inr (h7.weak hG7)) (i := 9) (by rfl) (by kernel_rfl) ?_
        refine WL.alloc' rfl h7 inf35 ?_
        intro b6 w8 h8
        refine WL.nil (WE.next ?_)
        refine WE.op (.inr ((h8.weak hG7).drop 0)) (i := 10) (by rfl) (by kernel_rfl) ?_
        refine WL.storeAll h8 0 rfl rfl rfl inf35 rfl rfl rfl (Free.zero _) ?_
        intro  w9 h9
        try simp only [lz, ls, ez, es'] at h9
        refine WL.nil (WE.next ?_)
        refine WE.p0 hx 11 (by rfl) (fun w_ => Runs.assign rfl) rfl ?_
        refine WE.fin (.inl ⟨10, rfl, by kernel_rfl⟩) (by kernel_rfl) ?_
        refine WN.thn (WC.seq (WC.seq (WC.reg ?_)))
        refine WL.v (Runs.move rfl) rfl ?_
        refine WL.v (Runs.neq rfl rfl) rfl ?_
        refine WL.nil (WN.thn ?_)
        refine WC.cond rfl (fun c10 => ?_) (fun c10 => ?_)
        · try simp only [dt, df, nt, nf, ba, il, ie] at c10
          first
          | (exfalso; omega)
          | skip
            refine WC.seq (WC.reg ?_)
            refine WL.v (Runs.loadAll h9 1 rfl Try.underlying35 rfl inf35 rfl rfl) rfl ?_
            refine WL.v (Runs.move rfl) rfl ?_
            refine WL.storeAll h9 2 rfl rfl rfl inf35 rfl rfl rfl (Free.zero _) ?_
            intro  w11 h11
            try simp only [lz, ls, ez, es'] at h11
            refine WL.v (Runs.assign rfl) rfl ?_
            refine WL.nil (WN.thn (WC.ret ?_))
            refine retB rfl (ResOk.blk h11 2 rfl Try.underlying35 rfl inf35 rfl rfl) (show lk _ _ = _ from rfl) ⟨_, AJ, AS, cj, cS, hleG, by rw [hfo, fold_stop hi2 c10] <;> rfl, by rw [hfo, fold_stop hi2 c10]; exact hZ, (((h11.drop 0).drop 0).drop 0)⟩
        · try simp only [dt, df, nt, nf, ba, il, ie] at c10
          first
          | (exfalso; omega)
          | skip
            refine WC.skip (WN.thn (WC.reg ?_))
            refine WL.v (Runs.loadAll h9 0 rfl Try.underlying35 rfl inf35 rfl rfl) rfl ?_
            refine WL.storeAll h9 1 rfl rfl rfl inf35 rfl rfl rfl (Free.zero _) ?_
            intro  w12 h12
            try simp only [lz, ls, ez, es'] at h12
            refine WL.nil (WN.blk (WN.thn (WC.reg ?_)))
            refine WL.v (Runs.move rfl) rfl ?_
            refine WL.v (Runs.addn rfl rfl (by omega)) rfl ?_
            refine WL.v (Runs.assign rfl) rfl ?_
            refine WL.nil ?_
            have hok := c10
            exact WN.again (⟨i + 1, G7, AJ7, AS7, cj7, cS7, (applyM z (l.getD i R0)).1⟩ : Nat × Snap × Option Addr × Option Addr × Nat × Nat × Z) (by show l.length - (i + 1) < l.length - i; omega) ⟨rfl, rfl, rfl, rfl,  trivial⟩ ⟨by show i + 1 ≤ _; omega, hleG, hZ7, by rw [hfo, fold_go hi2 (by simpa using hok)]; exact Prod.ext rfl (show i + ((foldM (applyM z (l.getD i R0)).1 (l.drop (i + 1))).2 + 1) = i + 1 + (foldM (applyM z (l.getD i R0)).1 (l.drop (i + 1))).2 by omega), hN.next (hls _ (memD R0 hi2)), (h12.drop 0)⟩
      · skip
        refine WL.alloc' rfl h6 inf35 ?_
        intro b6 w13 h13
        refine WL.nil (WE.next ?_)
        refine WE.op (.inr (h13.drop 0)) (i := 5) (by rfl) (by kernel_rfl) ?_
        refine WL.call can19 rfl rfl (qapply_c _ hps (hls _ (memD R0 hi2)) (hN.few (by omega)) hZ h13) ?_
        rintro _ w14 ⟨G14, AJ14, AS14, cj14, cS14, hG14, rfl, hZ14, h14⟩
        refine ⟨_, rfl, ?_⟩
        replace hleG := Le.trans hleG hG14
        replace hZ := hZ.mono hG14
        refine WL.nil (WE.next ?_)
        refine WE.p0 hx 6 (by rfl) (fun w_ => Runs.move rfl) rfl ?_
        refine WE.p0 hx 7 (by rfl) (fun w_ => Runs.extract rfl rfl) rfl ?_
        refine WE.p0 hx 8 (by rfl) (fun w_ => Runs.extract rfl rfl) rfl ?_
        refine WE.op (.inr ((h14.weak hG14).drop 0)) (i := 10) (by rfl) (by kernel_rfl) ?_
        refine WL.storeAll h14 0 rfl rfl rfl inf35 rfl rfl rfl (Free.zero _) ?_
        intro  w15 h15
        try simp only [lz, ls, ez, es'] at h15
        refine WL.nil (WE.next ?_)
        refine WE.p0 hx 11 (by rfl) (fun w_ => Runs.assign rfl) rfl ?_
        refine WE.fin (.inl ⟨10, rfl, by kernel_rfl⟩) (by kernel_rfl) ?_
        refine WN.thn (WC.seq (WC.seq (WC.reg ?_)))
        refine WL.v (Runs.move rfl) rfl ?_
        refine WL.v (Runs.neq rfl rfl) rfl ?_
        refine WL.nil (WN.thn ?_)
        refine WC.cond rfl (fun c16 => ?_) (fun c16 => ?_)
        · try simp only [dt, df, nt, nf, ba, il, ie] at c16
          first
          | (exfalso; omega)
          | skip
            refine WC.seq (WC.reg ?_)
            refine WL.v (Runs.loadAll h15 1 rfl Try.underlying35 rfl inf35 rfl rfl) rfl ?_
            refine WL.v (Runs.move rfl) rfl ?_
            refine WL.storeAll h15 2 rfl rfl rfl inf35 rfl rfl rfl (Free.zero _) ?_
            intro  w17 h17
            try simp only [lz, ls, ez, es'] at h17
            refine WL.v (Runs.assign rfl) rfl ?_
            refine WL.nil (WN.thn (WC.ret ?_))
            refine retB rfl (ResOk.blk h17 2 rfl Try.underlying35 rfl inf35 rfl rfl) (show lk _ _ = _ from rfl) ⟨_, AJ, AS, cj, cS, hleG, by rw [hfo, fold_stop hi2 c16] <;> rfl, by rw [hfo, fold_stop hi2 c16]; exact hZ, (((h17.drop 0).drop 0).drop 0)⟩
        · try simp only [dt, df, nt, nf, ba, il, ie] at c16
          first
          | (exfalso; omega)
          | skip
            refine WC.skip (WN.thn (WC.reg ?_))
            refine WL.v (Runs.loadAll h15 0 rfl Try.underlying35 rfl inf35 rfl rfl) rfl ?_
            refine WL.storeAll h15 1 rfl rfl rfl inf35 rfl rfl rfl (Free.zero _) ?_
            intro  w18 h18
            try simp only [lz, ls, ez, es'] at h18
            refine WL.nil (WN.blk (WN.thn (WC.reg ?_)))
            refine WL.v (Runs.move rfl) rfl ?_
            refine WL.v (Runs.addn rfl rfl (by omega)) rfl ?_
            refine WL.v (Runs.assign rfl) rfl ?_
            refine WL.nil ?_
            have hok := c16
            exact WN.again (⟨i + 1, G14, AJ14, AS14, cj14, cS14, (applyM z (l.getD i R0)).1⟩ : Nat × Snap × Option Addr × Option Addr × Nat × Nat × Z) (by show l.length - (i + 1) < l.length - i; omega) ⟨rfl, rfl, rfl, rfl,  trivial⟩ ⟨by show i + 1 ≤ _; omega, hleG, hZ14, by rw [hfo, fold_go hi2 (by simpa using hok)]; exact Prod.ext rfl (show i + ((foldM (applyM z (l.getD i R0)).1 (l.drop (i + 1))).2 + 1) = i + 1 + (foldM (applyM z (l.getD i R0)).1 (l.drop (i + 1))).2 by omega), hN.next (hls _ (memD R0 hi2)), (h18.drop 0)⟩
  · try simp only [dt, df, nt, nf, ba, il, ie] at c5
    first
    | (exfalso; omega)
    | skip
      refine WC.exit (WX.thn (WX.cut (WX.hit (WN.thn (WC.seq ?_)))))
      refine WC.reg ?_
      refine WL.v (Runs.loadAll hL 0 rfl Try.underlying35 rfl inf35 rfl rfl) rfl ?_
      refine WL.v (Runs.move rfl) rfl ?_
      refine WL.v (Runs.llen Try.underlying65 rfl rfl) rfl ?_
      refine WL.storeAll hL 1 rfl rfl rfl inf35 rfl rfl rfl (Free.zero _) ?_
      intro  w19 h19
      try simp only [lz, ls, ez, es'] at h19
      refine WL.v (Runs.assign rfl) rfl ?_
      refine WL.nil (WN.thn (WC.ret ?_))
      obtain rfl : i = l.length := by omega
      refine retB rfl (ResOk.blk h19 1 rfl Try.underlying35 rfl inf35 rfl rfl) (show lk _ _ = _ from rfl) ⟨_, AJ, AS, cj, cS, hleG, by rw [hfo, fold_end] <;> rfl, by rw [hfo, fold_end]; exact hZ, ((h19.drop 0).drop 0)⟩
end Rc
end Go.Proofs.Ythejglgnoingfaa
