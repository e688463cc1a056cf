/- Walks of the reference of chapter 15: records of jobs. -/
import Derived.Test.YthejglgnoingfaaProg
import Derived.KernelRfl
import Derived.Test.YthejglgnoingfaaMBaseAH
import Derived.Test.YthejglgnoingfaaMR11
namespace Go.Proofs.Ythejglgnoingfaa
open Go Go.RowKit B
set_option linter.unusedVariables false
set_option linter.unusedSimpArgs false
namespace Rc

theorem fld50_2 : fldB Try.prog 50 2 2 = true := by kernel_rfl
theorem can27 : B.Can Try.prog 27 := ⟨_, Try.func27, by kernel_rfl, rfl⟩   -- roundhouse/roundhouseref15.Alive
theorem can49 : B.Can Try.prog 49 := ⟨_, Try.func49, by kernel_rfl, rfl⟩   -- roundhouse/roundhouseref15.Copy
theorem can77 : B.Can Try.prog 77 := ⟨_, Try.func77, by kernel_rfl, rfl⟩   -- roundhouse/roundhouseref15.newer
theorem do_7 {z : Z} {r : R} (h : r.kd = 7) : doM z r = voidM z r := by unfold doM; simp [h]
theorem do_0 {z : Z} {r : R} (h : r.kd = 0) : doM z r = prologM z r := by unfold doM; simp [h]
theorem do_6 {z : Z} {r : R} (h : r.kd = 6) : doM z r = epilogM z r := by unfold doM; simp [h]
theorem void_14 {z : Z} {r : R} (h : newM z r.jb r.ep = true) : voidM z r = (z, 14) := if_pos h
theorem void_0 {z : Z} {r : R} (h : newM z r.jb r.ep = false) : voidM z r = ({ z with js := z.js ++ [⟨r.jb, r.ep, 2⟩] }, 0) := if_neg (by rw [h]; decide)
theorem prolog_14 {z : Z} {r : R} (h : newM z r.jb r.ep = true) : prologM z r = (z, 14) := if_pos h
theorem prolog_16 {z : Z} {r : R} (h : newM z r.jb r.ep = false) (h2 : z.dr = true) : prologM z r = (z, 16) := (if_neg (by rw [h]; decide)).trans (if_pos h2)
theorem prolog_0 {z : Z} {r : R} (h : newM z r.jb r.ep = false) (h2 : z.dr = false) : prologM z r = ({ z with js := z.js ++ [⟨r.jb, r.ep, if r.ar = 0 then 0 else 1⟩], dr := decide (r.ar ≠ 0) }, 0) := (if_neg (by rw [h]; decide)).trans (if_neg (by rw [h2]; decide))
theorem QOS.addJ {F : Snap} {rj rs rj' : Res} {AJ AS A : Option Addr} {cj cS cap : Nat} {z : Z} {x : Rc.J} {dr : Bool} (h : QOS F rj rs AJ AS cj cS z) (hr : RowM 50 3 jc rj' (.slice A (z.js ++ [x]).length cap) (z.js ++ [x])) : QOS F rj' rs A AS cap cS { z with js := z.js ++ [x], dr := dr } := ⟨hr, h.S⟩
theorem min_1 {n : Int} (h : 0 ≤ n) : (if (1 : Int) < n then 1 else n) = if n = 0 then 0 else 1 := by
  by_cases h1 : n = 0
  · simp [h1]
  · rw [if_neg h1]
    by_cases h2 : n = 1
    · simp [h2]
    · rw [if_pos (by omega)]
set_option maxRecDepth 100000 in
set_option maxHeartbeats 8000000 in
theorem qjobs_c {W : World} {F : Snap} {cs : List Res} (w : World) {AJ AS : Option Addr} {cj cS : Nat} {z : Z} {Al : Option Addr} {cl : Nat} {r : R} (hl : RdS (Kd.one Vi) F Al r.ls) (hn : r.ls.length ≤ 100000) (hz : few z) (hR : ZR F AJ AS z) (h : St W F cs w) (hok : okR r) (hk : r.kd = 0 ∨ r.kd = 6 ∨ r.kd = 7) : Calls Try.prog 48 #[.agg #[.slice AJ z.js.length cj, .slice AS z.ss.length cS, .bool z.dr], .agg #[Vi r.kd, Vi r.jb, Vi r.ep, Vi r.st, Vi r.ar, .slice Al r.ls.length cl]] w fun e w' => ∃ G AJ AS cj cS, Le F G ∧ e = .returned (.tuple #[.agg #[.slice AJ ((doM z r).1).js.length cj, .slice AS ((doM z r).1).ss.length cS, .bool ((doM z r).1).dr], Vi (doM z r).2]) ∧ ZR G AJ AS (doM z r).1 ∧ St W G cs w'  := by
  refine enter (P := Try.prog) (args := [.agg #[.slice AJ z.js.length cj, .slice AS z.ss.length cS, .bool z.dr], .agg #[Vi r.kd, Vi r.jb, Vi r.ep, Vi r.st, Vi r.ar, .slice Al r.ls.length cl]]) Try.func48 rfl rfl rfl ?_
  have hleF := Le.refl F
  have hzj := hz.j
  have hzs := hz.s
  have hki : r.kd = 0 ∨ r.kd = 6 ∨ r.kd = 7 := hk
  have har := hok.2.2.1
  refine WC.seq (WC.reg ?_)
  refine WL.box rfl h rfl ?_
  intro b2 w1 h1
  refine WL.box rfl h1 rfl ?_
  intro b3 w2 h2
  refine WL.alloc' rfl h2 inf35 ?_
  intro b4 w3 h3
  refine WL.v (Runs.assign rfl) rfl ?_
  refine WL.nil (WN.thn (WC.seq (WC.reg ?_)))
  refine WL.v (Runs.loadAll h3 2 rfl Try.underlying35 rfl inf35 rfl rfl) rfl ?_
  refine WL.call can49 rfl rfl (qcopy_c _ hz h3 hR) ?_
  rintro _ w4 ⟨rj, rs, AJ1, AS1, cj1, cS1, rfl, hO, h4⟩
  refine ⟨_, rfl, ?_⟩
  refine WL.alloc' rfl h4 inf35 ?_
  intro b6 w5 h5
  refine WL.storeAll h5 0 rfl rfl rfl inf35 rfl rfl rfl (Free.zero _) ?_
  intro  w6 h6
  try simp only [lz, ls, ez, es'] at h6
  refine WL.nil (WN.thn (WC.seq (WC.seq (WC.reg ?_))))
  refine WL.v (Runs.fld fld24_0 rfl) rfl ?_
  refine WL.v (Runs.load1 Try.underlying3 rfl rfl (h6.ocell (i := 4) rfl rfl)) rfl ?_
  refine WL.v (Runs.eql rfl rfl) rfl ?_
  refine WL.nil (WN.thn ?_)
  refine WC.cond rfl (fun c7 => ?_) (fun c7 => ?_)
  · try simp only [dt, df, nt, nf, ba, il, ie] at c7
    first
    | (exfalso; omega)
    | skip
      refine WC.seq (WC.seq (WC.reg ?_))
      refine WL.v (Runs.loadAll h6 5 rfl Try.underlying35 rfl inf35 rfl rfl) rfl ?_
      refine WL.v (Runs.fld fld24_1 rfl) rfl ?_
      refine WL.v (Runs.load1 Try.underlying3 rfl rfl (h6.ocell (i := 4) rfl rfl)) rfl ?_
      refine WL.v (Runs.fld fld24_2 rfl) rfl ?_
      refine WL.v (Runs.load1 Try.underlying3 rfl rfl (h6.ocell (i := 4) rfl rfl)) rfl ?_
      refine WL.call can77 rfl rfl (qnewer_c _ r.jb r.ep h6 hR.j (by omega)) ?_
      rintro _ w8 ⟨rfl, h8⟩
      refine ⟨_, rfl, ?_⟩
      refine WL.nil (WN.thn ?_)
      refine WC.cond rfl (fun c9 => ?_) (fun c9 => ?_)
      · try simp only [dt, df, nt, nf, ba, il, ie] at c9
        first
        | (exfalso; omega)
        | skip
          refine WC.seq (WC.reg ?_)
          refine WL.v (Runs.loadAll h8 5 rfl Try.underlying35 rfl inf35 rfl rfl) rfl ?_
          refine WL.storeAll h8 3 rfl rfl rfl inf35 rfl rfl rfl (Free.zero _) ?_
          intro  w10 h10
          try simp only [lz, ls, ez, es'] at h10
          refine WL.v (Runs.assign rfl) rfl ?_
          refine WL.nil (WN.thn (WC.ret ?_))
          refine retB rfl (ResOk.blk h10 3 rfl Try.underlying35 rfl inf35 rfl rfl) (show lk _ _ = _ from rfl) ⟨_, AJ, AS, cj, cS, hleF, by rw [do_7 c7, void_14 c9] <;> rfl, by rw [do_7 c7, void_14 c9]; exact hR, ((((((h10.drop 0).drop 0).drop 0).drop 0).drop 0).drop 0)⟩
      · try simp only [dt, df, nt, nf, ba, il, ie] at c9
        first
        | (exfalso; omega)
        | skip
          refine WC.skip (WN.thn (WC.seq (WC.reg ?_)))
          refine WL.v (Runs.fld fld35_0 rfl) rfl ?_
          refine WL.v (Runs.load1 Try.underlying32 rfl rfl (h8.ocell (i := 0) rfl rfl)) rfl ?_
          refine WL.v (Runs.fld fld24_1 rfl) rfl ?_
          refine WL.v (Runs.load1 Try.underlying3 rfl rfl (h8.ocell (i := 4) rfl rfl)) rfl ?_
          refine WL.v (Runs.fld fld24_2 rfl) rfl ?_
          refine WL.v (Runs.load1 Try.underlying3 rfl rfl (h8.ocell (i := 4) rfl rfl)) rfl ?_
          refine WL.v (Runs.build (vs := [(0, Vi r.jb), (1, Vi r.ep), (2, Vi 2)]) (cells := #[Vi r.jb, Vi r.ep, Vi 2]) rfl (by kernel_rfl)) rfl ?_
          refine WL.buildSlice (vs := [JV ⟨r.jb, r.ep, 2⟩]) h8 rfl Try.underlying32 (inf50.elem rfl rfl) rfl rfl rfl (by decide) ?_
          intro lit27 w11 h11
          try simp only [lz, ls, ez, es'] at h11
          refine WL.appM (f := jc) (ys := [⟨r.jb, r.ep, 2⟩]) 2 h11 rfl rfl rfl rfl Try.underlying32 Try.underlying32 (.inr ⟨_, rfl⟩) (inf50.elem rfl rfl) hO.J (Src.litM h11 0 rfl rfl rfl) rfl (by first | omega | (simp; done) | (simp; omega) | (simp only [List.length_nil]; omega)) (by first | omega | (simp; done) | (simp; omega) | (simp only [List.length_nil]; omega)) ?_
          intro r12 v12 w13 hr12 h13
          simp only [lz, ls] at h13
          replace h13 := h13.drop 0
          simp only [ez, es'] at h13
          obtain ⟨A12, cap12, rfl, hcap12⟩ := hr12.val
          refine WL.v (Runs.fld fld35_0 rfl) rfl ?_
          refine WL.store' h13 0 rfl rfl rfl inf32 rfl rfl (Free.zero _) (Nat.le_of_ble_eq_true rfl) ?_
          intro  w14 h14
          try simp only [lz, ls, ez, es'] at h14
          refine WL.nil (WN.thn (WC.seq (WC.reg ?_)))
          refine WL.v (Runs.loadAll h14 0 rfl Try.underlying35 rfl inf35 rfl rfl) rfl ?_
          refine WL.storeAll h14 3 rfl rfl rfl inf35 rfl rfl rfl (Free.zero _) ?_
          intro  w15 h15
          try simp only [lz, ls, ez, es'] at h15
          refine WL.v (Runs.assign rfl) rfl ?_
          refine WL.nil (WN.thn (WC.ret ?_))
          obtain ⟨G9, hG9, hZ9, hS9⟩ := (hO.addJ (dr := z.dr) hr12).still ((((h15.drop 5).drop 4).drop 3).drop 0)
          refine retB rfl (ResOk.blk h15 3 rfl Try.underlying35 rfl inf35 rfl rfl) (show lk _ _ = _ from rfl) ⟨G9, _, _, _, _, Le.trans hleF hG9, by rw [do_7 c7, void_0 c9] <;> rfl, by rw [do_7 c7, void_0 c9]; exact hZ9, hS9⟩
  · try simp only [dt, df, nt, nf, ba, il, ie] at c7
    first
    | (exfalso; omega)
    | skip
      refine WC.skip (WN.thn (WC.seq (WC.seq (WC.reg ?_))))
      refine WL.v (Runs.fld fld24_0 rfl) rfl ?_
      refine WL.v (Runs.load1 Try.underlying3 rfl rfl (h6.ocell (i := 4) rfl rfl)) rfl ?_
      refine WL.v (Runs.eql rfl rfl) rfl ?_
      refine WL.nil (WN.thn ?_)
      refine WC.cond rfl (fun c16 => ?_) (fun c16 => ?_)
      · try simp only [dt, df, nt, nf, ba, il, ie] at c16
        first
        | (exfalso; omega)
        | skip
          refine WC.seq (WC.seq (WC.reg ?_))
          refine WL.v (Runs.loadAll h6 5 rfl Try.underlying35 rfl inf35 rfl rfl) rfl ?_
          refine WL.v (Runs.fld fld24_1 rfl) rfl ?_
          refine WL.v (Runs.load1 Try.underlying3 rfl rfl (h6.ocell (i := 4) rfl rfl)) rfl ?_
          refine WL.v (Runs.fld fld24_2 rfl) rfl ?_
          refine WL.v (Runs.load1 Try.underlying3 rfl rfl (h6.ocell (i := 4) rfl rfl)) rfl ?_
          refine WL.call can77 rfl rfl (qnewer_c _ r.jb r.ep h6 hR.j (by omega)) ?_
          rintro _ w17 ⟨rfl, h17⟩
          refine ⟨_, rfl, ?_⟩
          refine WL.nil (WN.thn ?_)
          refine WC.cond rfl (fun c18 => ?_) (fun c18 => ?_)
          · try simp only [dt, df, nt, nf, ba, il, ie] at c18
            first
            | (exfalso; omega)
            | skip
              refine WC.seq (WC.reg ?_)
              refine WL.v (Runs.loadAll h17 5 rfl Try.underlying35 rfl inf35 rfl rfl) rfl ?_
              refine WL.storeAll h17 3 rfl rfl rfl inf35 rfl rfl rfl (Free.zero _) ?_
              intro  w19 h19
              try simp only [lz, ls, ez, es'] at h19
              refine WL.v (Runs.assign rfl) rfl ?_
              refine WL.nil (WN.thn (WC.ret ?_))
              refine retB rfl (ResOk.blk h19 3 rfl Try.underlying35 rfl inf35 rfl rfl) (show lk _ _ = _ from rfl) ⟨_, AJ, AS, cj, cS, hleF, by rw [do_0 c16, prolog_14 c18] <;> rfl, by rw [do_0 c16, prolog_14 c18]; exact hR, ((((((h19.drop 0).drop 0).drop 0).drop 0).drop 0).drop 0)⟩
          · try simp only [dt, df, nt, nf, ba, il, ie] at c18
            first
            | (exfalso; omega)
            | skip
              refine WC.skip (WN.thn (WC.seq (WC.seq (WC.reg ?_))))
              refine WL.v (Runs.fld fld35_2 rfl) rfl ?_
              refine WL.v (Runs.load1 Try.underlying4 rfl rfl (h17.ocell (i := 5) rfl rfl)) rfl ?_
              refine WL.nil (WN.thn ?_)
              refine WC.cond rfl (fun c20 => ?_) (fun c20 => ?_)
              · try simp only [dt, df, nt, nf, ba, il, ie] at c20
                first
                | (exfalso; omega)
                | skip
                  refine WC.seq (WC.reg ?_)
                  refine WL.v (Runs.loadAll h17 5 rfl Try.underlying35 rfl inf35 rfl rfl) rfl ?_
                  refine WL.storeAll h17 3 rfl rfl rfl inf35 rfl rfl rfl (Free.zero _) ?_
                  intro  w21 h21
                  try simp only [lz, ls, ez, es'] at h21
                  refine WL.v (Runs.assign rfl) rfl ?_
                  refine WL.nil (WN.thn (WC.ret ?_))
                  refine retB rfl (ResOk.blk h21 3 rfl Try.underlying35 rfl inf35 rfl rfl) (show lk _ _ = _ from rfl) ⟨_, AJ, AS, cj, cS, hleF, by rw [do_0 c16, prolog_16 c18 c20] <;> rfl, by rw [do_0 c16, prolog_16 c18 c20]; exact hR, ((((((h21.drop 0).drop 0).drop 0).drop 0).drop 0).drop 0)⟩
              · try simp only [dt, df, nt, nf, ba, il, ie] at c20
                first
                | (exfalso; omega)
                | skip
                  refine WC.skip (WN.thn (WC.seq (WC.reg ?_)))
                  refine WL.v (Runs.fld fld35_0 rfl) rfl ?_
                  refine WL.v (Runs.load1 Try.underlying32 rfl rfl (h17.ocell (i := 0) rfl rfl)) rfl ?_
                  refine WL.v (Runs.fld fld24_1 rfl) rfl ?_
                  refine WL.v (Runs.load1 Try.underlying3 rfl rfl (h17.ocell (i := 4) rfl rfl)) rfl ?_
                  refine WL.v (Runs.fld fld24_2 rfl) rfl ?_
                  refine WL.v (Runs.load1 Try.underlying3 rfl rfl (h17.ocell (i := 4) rfl rfl)) rfl ?_
                  refine WL.v (Runs.fld fld24_4 rfl) rfl ?_
                  refine WL.v (Runs.load1 Try.underlying3 rfl rfl (h17.ocell (i := 4) rfl rfl)) rfl ?_
                  refine WL.v (Runs.intT (n := (if r.ar = 0 then 0 else 1)) (Runs.min rfl rfl) (min_1 har.1)) rfl ?_
                  refine WL.v (Runs.build (vs := [(0, Vi r.jb), (1, Vi r.ep), (2, Vi (if r.ar = 0 then 0 else 1))]) (cells := #[Vi r.jb, Vi r.ep, Vi (if r.ar = 0 then 0 else 1)]) rfl (by kernel_rfl)) rfl ?_
                  refine WL.buildSlice (vs := [JV ⟨r.jb, r.ep, (if r.ar = 0 then 0 else 1)⟩]) h17 rfl Try.underlying32 (inf50.elem rfl rfl) rfl rfl rfl (by decide) ?_
                  intro lit54 w22 h22
                  try simp only [lz, ls, ez, es'] at h22
                  refine WL.appM (f := jc) (ys := [⟨r.jb, r.ep, (if r.ar = 0 then 0 else 1)⟩]) 2 h22 rfl rfl rfl rfl Try.underlying32 Try.underlying32 (.inr ⟨_, rfl⟩) (inf50.elem rfl rfl) hO.J (Src.litM h22 0 rfl rfl rfl) rfl (by first | omega | (simp; done) | (simp; omega) | (simp only [List.length_nil]; omega)) (by first | omega | (simp; done) | (simp; omega) | (simp only [List.length_nil]; omega)) ?_
                  intro r23 v23 w24 hr23 h24
                  simp only [lz, ls] at h24
                  replace h24 := h24.drop 0
                  simp only [ez, es'] at h24
                  obtain ⟨A23, cap23, rfl, hcap23⟩ := hr23.val
                  refine WL.v (Runs.fld fld35_0 rfl) rfl ?_
                  refine WL.store' h24 0 rfl rfl rfl inf32 rfl rfl (Free.zero _) (Nat.le_of_ble_eq_true rfl) ?_
                  intro  w25 h25
                  try simp only [lz, ls, ez, es'] at h25
                  refine WL.nil (WN.thn (WC.seq (WC.reg ?_)))
                  refine WL.v (Runs.fld fld24_4 rfl) rfl ?_
                  refine WL.v (Runs.load1 Try.underlying3 rfl rfl (h25.ocell (i := 4) rfl rfl)) rfl ?_
                  refine WL.v (Runs.neq rfl rfl) rfl ?_
                  refine WL.v (Runs.fld fld35_2 rfl) rfl ?_
                  refine WL.store' h25 0 rfl rfl rfl inf4 rfl rfl (Free.zero _) (Nat.le_of_ble_eq_true rfl) ?_
                  intro  w26 h26
                  try simp only [lz, ls, ez, es'] at h26
                  refine WL.nil (WN.thn (WC.seq (WC.reg ?_)))
                  refine WL.v (Runs.loadAll h26 0 rfl Try.underlying35 rfl inf35 rfl rfl) rfl ?_
                  refine WL.storeAll h26 3 rfl rfl rfl inf35 rfl rfl rfl (Free.zero _) ?_
                  intro  w27 h27
                  try simp only [lz, ls, ez, es'] at h27
                  refine WL.v (Runs.assign rfl) rfl ?_
                  refine WL.nil (WN.thn (WC.ret ?_))
                  obtain ⟨G9, hG9, hZ9, hS9⟩ := (hO.addJ (dr := decide (r.ar ≠ 0)) hr23).still ((((h27.drop 5).drop 4).drop 3).drop 0)
                  refine retB rfl (ResOk.blk h27 3 rfl Try.underlying35 rfl inf35 rfl rfl) (show lk _ _ = _ from rfl) ⟨G9, _, _, _, _, Le.trans hleF hG9, by rw [do_0 c16, prolog_0 c18 c20] <;> (simp only [decide_not]; rfl), by rw [do_0 c16, prolog_0 c18 c20]; exact hZ9, hS9⟩
      · try simp only [dt, df, nt, nf, ba, il, ie] at c16
        first
        | (exfalso; omega)
        | skip
          refine WC.skip (WN.thn (WC.seq (WC.reg ?_)))
          refine WL.v (Runs.loadAll h6 5 rfl Try.underlying35 rfl inf35 rfl rfl) rfl ?_
          refine WL.v (Runs.fld fld24_1 rfl) rfl ?_
          refine WL.v (Runs.load1 Try.underlying3 rfl rfl (h6.ocell (i := 4) rfl rfl)) rfl ?_
          refine WL.v (Runs.fld fld24_2 rfl) rfl ?_
          refine WL.v (Runs.load1 Try.underlying3 rfl rfl (h6.ocell (i := 4) rfl rfl)) rfl ?_
          refine WL.call can53 rfl rfl (qjob_c _ r.jb r.ep h6 hR.j (by omega)) ?_
          rintro _ w28 ⟨rfl, h28⟩
          refine ⟨_, rfl, ?_⟩
          refine WL.v (Runs.assign rfl) rfl ?_
          refine WL.nil (WN.thn (WC.seq (WC.seq ?_)))
          rcases ix_at (jAt r.jb r.ep) z.js J0 with ⟨hix, _⟩ | ⟨i, hi2, hix, _⟩
          · replace hix : jIx z r.jb r.ep = -1 := hix
            refine WC.reg ?_
            refine WL.v (Runs.move rfl) rfl ?_
            refine WL.v (Runs.boolT (c := true) (Runs.lss rfl rfl) (by rw [decide_eq_true_eq]; omega)) rfl ?_
            refine WL.v (Runs.move rfl) rfl ?_
            refine WL.goff rfl rfl rfl rfl ?_
            refine WL.goff rfl rfl rfl rfl ?_
            refine WL.goff rfl rfl rfl rfl ?_
            refine WL.goff rfl rfl rfl rfl ?_
            refine WL.goff rfl rfl rfl rfl ?_
            refine WL.goff rfl rfl rfl rfl ?_
            refine WL.v (Runs.pick rfl rfl rfl) rfl ?_
            refine WL.nil (WN.thn ?_)
            refine WC.condT rfl (rfl) ?_
            refine WC.seq (WC.reg ?_)
            refine WL.v (Runs.loadAll h28 5 rfl Try.underlying35 rfl inf35 rfl rfl) rfl ?_
            refine WL.storeAll h28 3 rfl rfl rfl inf35 rfl rfl rfl (Free.zero _) ?_
            intro  w29 h29
            try simp only [lz, ls, ez, es'] at h29
            refine WL.v (Runs.assign rfl) rfl ?_
            refine WL.nil (WN.thn (WC.ret ?_))
            refine retB rfl (ResOk.blk h29 3 rfl Try.underlying35 rfl inf35 rfl rfl) (show lk _ _ = _ from rfl) ⟨_, AJ, AS, cj, cS, hleF, by rw [do_6 (by omega), epilog_14 (.inl (by omega))] <;> rfl, by rw [do_6 (by omega), epilog_14 (.inl (by omega))]; exact hR, ((((((h29.drop 0).drop 0).drop 0).drop 0).drop 0).drop 0)⟩
          · replace hix : jIx z r.jb r.ep = (i : Int) := hix
            refine WC.reg ?_
            refine WL.v (Runs.move rfl) rfl ?_
            refine WL.v (Runs.boolT (c := false) (Runs.lss rfl rfl) (by rw [decide_eq_false_iff_not]; omega)) rfl ?_
            refine WL.v (Runs.move rfl) rfl ?_
            refine WL.gon rfl rfl rfl ?_
            refine WL.v (Runs.loadAll h28 5 rfl Try.underlying35 rfl inf35 rfl rfl) rfl ?_
            refine WL.gon rfl rfl rfl ?_
            refine WL.v (Runs.fld fld24_1 rfl) rfl ?_
            refine WL.gon rfl rfl rfl ?_
            refine WL.v (Runs.load1 Try.underlying3 rfl rfl (h28.ocell (i := 4) rfl rfl)) rfl ?_
            refine WL.gon rfl rfl rfl ?_
            refine WL.v (Runs.fld fld24_2 rfl) rfl ?_
            refine WL.gon rfl rfl rfl ?_
            refine WL.v (Runs.load1 Try.underlying3 rfl rfl (h28.ocell (i := 4) rfl rfl)) rfl ?_
            refine WL.gon rfl rfl rfl ?_
            refine WL.call can27 rfl rfl (qalive_c _ r.jb r.ep h28 hR.s (by omega)) ?_
            rintro _ w30 ⟨rfl, h30⟩
            refine ⟨_, rfl, ?_⟩
            refine WL.v (Runs.pick rfl rfl rfl) rfl ?_
            refine WL.nil (WN.thn ?_)
            refine WC.cond rfl (fun c31 => ?_) (fun c31 => ?_)
            · try simp only [dt, df, nt, nf, ba, il, ie] at c31
              first
              | (exfalso; omega)
              | skip
                refine WC.seq (WC.reg ?_)
                refine WL.v (Runs.loadAll h30 5 rfl Try.underlying35 rfl inf35 rfl rfl) rfl ?_
                refine WL.storeAll h30 3 rfl rfl rfl inf35 rfl rfl rfl (Free.zero _) ?_
                intro  w32 h32
                try simp only [lz, ls, ez, es'] at h32
                refine WL.v (Runs.assign rfl) rfl ?_
                refine WL.nil (WN.thn (WC.ret ?_))
                refine retB rfl (ResOk.blk h32 3 rfl Try.underlying35 rfl inf35 rfl rfl) (show lk _ _ = _ from rfl) ⟨_, AJ, AS, cj, cS, hleF, by rw [do_6 (by omega), epilog_14 (.inr (.inr c31))] <;> rfl, by rw [do_6 (by omega), epilog_14 (.inr (.inr c31))]; exact hR, ((((((h32.drop 0).drop 0).drop 0).drop 0).drop 0).drop 0)⟩
            · try simp only [dt, df, nt, nf, ba, il, ie] at c31
              first
              | (exfalso; omega)
              | skip
                refine WC.skip (WN.thn (WC.seq (WC.seq ?_)))
                obtain ⟨ad, c, rfl, hc, hcell⟩ := hR.j.atD J0 hi2
                obtain rfl : c = jc (z.js.getD i J0) := hc
                refine WC.reg ?_
                refine WL.v (Runs.fld fld35_0 rfl) rfl ?_
                refine WL.v (Runs.load1 Try.underlying32 rfl rfl (h30.ocell (i := 5) rfl rfl)) rfl ?_
                refine WL.v (Runs.move rfl) rfl ?_
                refine WL.v (Runs.lidxK Try.underlying32 inf50 rfl rfl (n := i) hix hi2) rfl ?_
                refine WL.v (Runs.fld fld50_2 rfl) rfl ?_
                refine WL.v (Runs.fldKF (n := i) h30 hcell Try.underlying3 rfl rfl rfl) rfl ?_
                refine WL.v (Runs.eql rfl rfl) rfl ?_
                refine WL.nil (WN.thn ?_)
                refine WC.cond rfl (fun c33 => ?_) (fun c33 => ?_)
                · try simp only [dt, df, nt, nf, ba, il, ie] at c33
                  first
                  | (exfalso; omega)
                  | skip
                    refine WC.seq (WC.reg ?_)
                    refine WL.v (Runs.loadAll h30 5 rfl Try.underlying35 rfl inf35 rfl rfl) rfl ?_
                    refine WL.storeAll h30 3 rfl rfl rfl inf35 rfl rfl rfl (Free.zero _) ?_
                    intro  w34 h34
                    try simp only [lz, ls, ez, es'] at h34
                    refine WL.v (Runs.assign rfl) rfl ?_
                    refine WL.nil (WN.thn (WC.ret ?_))
                    refine retB rfl (ResOk.blk h34 3 rfl Try.underlying35 rfl inf35 rfl rfl) (show lk _ _ = _ from rfl) ⟨_, some ad, AS, cj, cS, hleF, by rw [do_6 (by omega), epilog_14 (.inr (.inl (by rw [hix, Int.toNat_natCast]; exact c33)))] <;> rfl, by rw [do_6 (by omega), epilog_14 (.inr (.inl (by rw [hix, Int.toNat_natCast]; exact c33)))]; exact hR, ((((((h34.drop 0).drop 0).drop 0).drop 0).drop 0).drop 0)⟩
                · try simp only [dt, df, nt, nf, ba, il, ie] at c33
                  first
                  | (exfalso; omega)
                  | skip
                    refine WC.skip (WN.thn (WC.seq ?_))
                    obtain ⟨ad1, rfl, _⟩ := hO.cellJ (W := W) hi2
                    refine WC.reg ?_
                    refine WL.v (Runs.fld fld35_0 rfl) rfl ?_
                    refine WL.v (Runs.load1 Try.underlying32 rfl rfl (h30.ocell (i := 0) rfl rfl)) rfl ?_
                    refine WL.v (Runs.move rfl) rfl ?_
                    refine WL.v (Runs.lidxK Try.underlying32 inf50 rfl rfl (n := i) hix hi2) rfl ?_
                    refine WL.v (Runs.fld fld50_2 rfl) rfl ?_
                    refine WL.storeM h30 1 (fun _ => rfl) (f := jc) (e := z.js.getD i J0) (e' := { z.js.getD i J0 with ph := 2 }) rfl hO.J rfl (getD_at J0 hi2) (k := 2) (by omega) rfl rfl rfl inf3 rfl ?_
                    intro r35 w36 hr35 h36
                    try simp only [lz, ls, ez, es'] at h36
                    refine WL.nil (WN.thn (WC.seq ?_))
                    rcases Bool.eq_false_or_eq_true z.dr with hdr | hdr
                    · skip
                      refine WC.reg ?_
                      refine WL.v (Runs.fld fld35_2 rfl) rfl ?_
                      refine WL.v (Runs.boolT (c := true) (Runs.load1 Try.underlying4 rfl rfl (h36.ocell (i := 5) rfl rfl)) hdr) rfl ?_
                      refine WL.v (Runs.move rfl) rfl ?_
                      refine WL.goff rfl rfl rfl rfl ?_
                      refine WL.goff rfl rfl rfl rfl ?_
                      refine WL.goff rfl rfl rfl rfl ?_
                      refine WL.v (Runs.pick rfl rfl rfl) rfl ?_
                      refine WL.v (Runs.fld fld35_2 rfl) rfl ?_
                      refine WL.store' h36 0 rfl rfl rfl inf4 rfl rfl (Free.zero _) (Nat.le_of_ble_eq_true rfl) ?_
                      intro  w37 h37
                      try simp only [lz, ls, ez, es'] at h37
                      refine WL.nil (WN.thn (WC.seq (WC.reg ?_)))
                      refine WL.v (Runs.loadAll h37 0 rfl Try.underlying35 rfl inf35 rfl rfl) rfl ?_
                      refine WL.storeAll h37 3 rfl rfl rfl inf35 rfl rfl rfl (Free.zero _) ?_
                      intro  w38 h38
                      try simp only [lz, ls, ez, es'] at h38
                      refine WL.v (Runs.assign rfl) rfl ?_
                      refine WL.nil (WN.thn (WC.ret ?_))
                      obtain ⟨G9, hG9, hZ9, hS9⟩ := (hO.setJ (dr := true) hr35).still ((((h38.drop 5).drop 4).drop 3).drop 0)
                      refine retB rfl (ResOk.blk h38 3 rfl Try.underlying35 rfl inf35 rfl rfl) (show lk _ _ = _ from rfl) ⟨G9, _, _, _, _, Le.trans hleF hG9, by rw [do_6 (by omega), epilog_0 hix c33 c31, show (z.dr || decide (r.ar ≠ 0)) = true from by simp [hdr]]; simp only [List.length_set]; rfl, by rw [do_6 (by omega), epilog_0 hix c33 c31, show (z.dr || decide (r.ar ≠ 0)) = true from by simp [hdr]]; exact hZ9, hS9⟩
                    · skip
                      refine WC.reg ?_
                      refine WL.v (Runs.fld fld35_2 rfl) rfl ?_
                      refine WL.v (Runs.boolT (c := false) (Runs.load1 Try.underlying4 rfl rfl (h36.ocell (i := 5) rfl rfl)) hdr) rfl ?_
                      refine WL.v (Runs.move rfl) rfl ?_
                      refine WL.gon rfl rfl rfl ?_
                      refine WL.v (Runs.fld fld24_4 rfl) rfl ?_
                      refine WL.gon rfl rfl rfl ?_
                      refine WL.v (Runs.load1 Try.underlying3 rfl rfl (h36.ocell (i := 4) rfl rfl)) rfl ?_
                      refine WL.gon rfl rfl rfl ?_
                      refine WL.v (Runs.neq rfl rfl) rfl ?_
                      refine WL.v (Runs.pick rfl rfl rfl) rfl ?_
                      refine WL.v (Runs.fld fld35_2 rfl) rfl ?_
                      refine WL.store' h36 0 rfl rfl rfl inf4 rfl rfl (Free.zero _) (Nat.le_of_ble_eq_true rfl) ?_
                      intro  w39 h39
                      try simp only [lz, ls, ez, es'] at h39
                      refine WL.nil (WN.thn (WC.seq (WC.reg ?_)))
                      refine WL.v (Runs.loadAll h39 0 rfl Try.underlying35 rfl inf35 rfl rfl) rfl ?_
                      refine WL.storeAll h39 3 rfl rfl rfl inf35 rfl rfl rfl (Free.zero _) ?_
                      intro  w40 h40
                      try simp only [lz, ls, ez, es'] at h40
                      refine WL.v (Runs.assign rfl) rfl ?_
                      refine WL.nil (WN.thn (WC.ret ?_))
                      obtain ⟨G9, hG9, hZ9, hS9⟩ := (hO.setJ (dr := (!decide (r.ar = 0))) hr35).still ((((h40.drop 5).drop 4).drop 3).drop 0)
                      refine retB rfl (ResOk.blk h40 3 rfl Try.underlying35 rfl inf35 rfl rfl) (show lk _ _ = _ from rfl) ⟨G9, _, _, _, _, Le.trans hleF hG9, by rw [do_6 (by omega), epilog_0 hix c33 c31, show (z.dr || decide (r.ar ≠ 0)) = (!decide (r.ar = 0)) from by simp [hdr]]; simp only [List.length_set]; rfl, by rw [do_6 (by omega), epilog_0 hix c33 c31, show (z.dr || decide (r.ar ≠ 0)) = (!decide (r.ar = 0)) from by simp [hdr]]; exact hZ9, hS9⟩
end Rc
end Go.Proofs.Ythejglgnoingfaa
