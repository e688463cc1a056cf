/- The law RecBack. -/
import Derived.Test.YthejglgnoingfaaProg
import Derived.KernelRfl
import Derived.Test.YthejglgnoingfaaMBaseAH
import Derived.Test.YthejglgnoingfaaME4
import Derived.Test.YthejglgnoingfaaME61
namespace Go.Proofs.Ythejglgnoingfaa
open Go Go.RowKit B
set_option linter.unusedVariables false
set_option linter.unusedSimpArgs false
namespace Rc
open Wir (numB listB rdN rdL rdEnd numN rdn cerr rerr rval rnx)



set_option maxRecDepth 100000 in
set_option maxHeartbeats 16000000 in
theorem back_law {W : World} {F : Snap} {cs : List Res} (w : World) {Al : Option Addr} {cl : Nat} {r : R} {l : List UInt8} (hl : RdS (Kd.one Vi) F Al r.ls) (h : St W F cs w) : Calls Try.prog 8 #[.agg #[Vi r.kd, Vi r.jb, Vi r.ep, Vi r.st, Vi r.ar, .slice Al r.ls.length cl], .string (bs l)] w fun e w' => e = .returned (.bool true) ∧ St W F cs w'  := by
  refine enter (P := Try.prog) (args := [.agg #[Vi r.kd, Vi r.jb, Vi r.ep, Vi r.st, Vi r.ar, .slice Al r.ls.length cl], .string (bs l)]) Try.func8 rfl rfl rfl ?_
  have hleF := Le.refl F
  refine WC.seq (WC.reg ?_)
  refine WL.box rfl h rfl ?_
  intro b2 w1 h1
  refine WL.v (Runs.assign rfl) rfl ?_
  refine WL.nil (WN.thn (WC.seq (WC.seq ?_)))
  rcases two (r.ls.length ≤ 300) (l.length ≤ 600) with q0 | ⟨q0, q1⟩ | ⟨q0, q1⟩
  · skip
    refine WC.reg ?_
    refine WL.v (Runs.fld fld24_5 rfl) rfl ?_
    refine WL.v (Runs.load1 Try.underlying22 rfl rfl (h1.ocell (i := 0) rfl rfl)) rfl ?_
    refine WL.v (Runs.llen Try.underlying22 rfl rfl) rfl ?_
    refine WL.v (Runs.boolT (c := true) (Runs.gtr rfl rfl) (by rw [decide_eq_true_eq]; omega)) rfl ?_
    refine WL.v (Runs.move rfl) rfl ?_
    refine WL.goff rfl rfl rfl rfl ?_
    refine WL.goff rfl rfl rfl rfl ?_
    refine WL.goff rfl rfl rfl rfl ?_
    refine WL.v (Runs.pick rfl rfl rfl) rfl ?_
    refine WL.nil (WN.thn ?_)
    refine WC.condT rfl (rfl) ?_
    refine WC.seq (WC.reg ?_)
    refine WL.call can10 rfl rfl (live_c _ h1) ?_
    rintro _ w2 ⟨G19, hG19, rfl, h2⟩
    refine ⟨_, rfl, ?_⟩
    replace hleF := Le.trans hleF hG19
    replace hl := hl.mono hG19
    refine WL.v (Runs.assign rfl) rfl ?_
    refine WL.nil (WN.thn (WC.ret ?_))
    have h90 := (h2.drop 0)
    try simp only [List.eraseIdx_cons_zero] at h90
    exact ret1 rfl rfl ⟨rfl, h90.weak hleF⟩
  · skip
    refine WC.reg ?_
    refine WL.v (Runs.fld fld24_5 rfl) rfl ?_
    refine WL.v (Runs.load1 Try.underlying22 rfl rfl (h1.ocell (i := 0) rfl rfl)) rfl ?_
    refine WL.v (Runs.llen Try.underlying22 rfl rfl) rfl ?_
    refine WL.v (Runs.boolT (c := false) (Runs.gtr rfl rfl) (by rw [decide_eq_false_iff_not]; omega)) rfl ?_
    refine WL.v (Runs.move rfl) rfl ?_
    refine WL.gon rfl rfl rfl ?_
    refine WL.v (Runs.move rfl) rfl ?_
    refine WL.gon rfl rfl rfl ?_
    refine WL.v (Runs.lslen Try.underlying9 rfl rfl) rfl ?_
    refine WL.gon rfl rfl rfl ?_
    refine WL.v (Runs.boolT (c := true) (Runs.gtr rfl rfl) (by rw [decide_eq_true_eq]; omega)) rfl ?_
    refine WL.v (Runs.pick rfl rfl rfl) rfl ?_
    refine WL.nil (WN.thn ?_)
    refine WC.condT rfl (rfl) ?_
    refine WC.seq (WC.reg ?_)
    refine WL.call can10 rfl rfl (live_c _ h1) ?_
    rintro _ w3 ⟨G19, hG19, rfl, h3⟩
    refine ⟨_, rfl, ?_⟩
    replace hleF := Le.trans hleF hG19
    replace hl := hl.mono hG19
    refine WL.v (Runs.assign rfl) rfl ?_
    refine WL.nil (WN.thn (WC.ret ?_))
    have h90 := (h3.drop 0)
    try simp only [List.eraseIdx_cons_zero] at h90
    exact ret1 rfl rfl ⟨rfl, h90.weak hleF⟩
  · skip
    refine WC.reg ?_
    refine WL.v (Runs.fld fld24_5 rfl) rfl ?_
    refine WL.v (Runs.load1 Try.underlying22 rfl rfl (h1.ocell (i := 0) rfl rfl)) rfl ?_
    refine WL.v (Runs.llen Try.underlying22 rfl rfl) rfl ?_
    refine WL.v (Runs.boolT (c := false) (Runs.gtr rfl rfl) (by rw [decide_eq_false_iff_not]; omega)) rfl ?_
    refine WL.v (Runs.move rfl) rfl ?_
    refine WL.gon rfl rfl rfl ?_
    refine WL.v (Runs.move rfl) rfl ?_
    refine WL.gon rfl rfl rfl ?_
    refine WL.v (Runs.lslen Try.underlying9 rfl rfl) rfl ?_
    refine WL.gon rfl rfl rfl ?_
    refine WL.v (Runs.boolT (c := false) (Runs.gtr rfl rfl) (by rw [decide_eq_false_iff_not]; omega)) rfl ?_
    refine WL.v (Runs.pick rfl rfl rfl) rfl ?_
    refine WL.nil (WN.thn ?_)
    refine WC.condF rfl (rfl) ?_
    refine WC.skip (WN.thn (WC.seq (WC.reg ?_)))
    refine WL.v (Runs.loadAll h1 0 rfl Try.underlying24 rfl inf24 rfl rfl) rfl ?_
    refine WL.call can13 rfl rfl (encode_c _ h1 hl (by omega)) ?_
    rintro _ w4 ⟨rfl, h4⟩
    refine ⟨_, rfl, ?_⟩
    refine WL.v (Runs.assign rfl) rfl ?_
    refine WL.nil (WN.thn (WC.seq (WC.seq (WC.reg ?_))))
    refine WL.v (Runs.move rfl) rfl ?_
    refine WL.v (Runs.boolT (c := decide (encR r ≠ [])) (Runs.lsneq (b := []) rfl rfl) (by simp)) rfl ?_
    refine WL.nil (WN.thn ?_)
    refine WC.cond rfl (fun c5 => ?_) (fun c5 => ?_)
    · try simp only [dt, df, nt, nf, ba, il, ie] at c5
      first
      | (exfalso; omega)
      | skip
        refine WC.seq (WC.reg ?_)
        refine WL.v (Runs.move rfl) rfl ?_
        refine WL.call can11 rfl rfl (decode_c _ (encR r) h4 (by have := encR_len (r := r); omega)) ?_
        rintro _ w6 ⟨G26, A26, c26, hG26, rfl, hrd26, h6⟩
        refine ⟨_, rfl, ?_⟩
        replace hleF := Le.trans hleF hG26
        replace hl := hl.mono hG26
        refine WL.v (Runs.move rfl) rfl ?_
        refine WL.v (Runs.extract rfl rfl) rfl ?_
        refine WL.v (Runs.extract rfl rfl) rfl ?_
        refine WL.alloc' rfl h6 inf24 ?_
        intro b6 w7 h7
        refine WL.storeAll h7 0 rfl rfl rfl inf24 rfl rfl rfl (Free.zero _) ?_
        intro  w8 h8
        try simp only [lz, ls, ez, es'] at h8
        refine WL.v (Runs.assign rfl) rfl ?_
        refine WL.nil (WN.thn (WC.seq ?_))
        have hbk := decM_enc (Classical.byContradiction fun hh => c5 (encR_n hh))
        refine WC.reg ?_
        refine WL.v (Runs.move rfl) rfl ?_
        refine WL.v (Runs.boolT (c := false) (Runs.neq rfl rfl) (by rw [hbk]; rfl)) rfl ?_
        refine WL.v (Runs.move rfl) rfl ?_
        refine WL.gon rfl rfl rfl ?_
        refine WL.v (Runs.loadAll h8 0 rfl Try.underlying24 rfl inf24 rfl rfl) rfl ?_
        refine WL.gon rfl rfl rfl ?_
        refine WL.v (Runs.loadAll h8 1 rfl Try.underlying24 rfl inf24 rfl rfl) rfl ?_
        refine WL.gon rfl rfl rfl ?_
        refine WL.call can15 rfl rfl (recsT _ (congrArg Prod.fst hbk) hrd26 (Nat.le_trans decM_few (by simp)) hl h8) ?_
        rintro _ w9 ⟨rfl, h9⟩
        refine ⟨_, rfl, ?_⟩
        refine WL.gon rfl rfl rfl ?_
        refine WL.v (Runs.boolT (c := false) (Runs.not rfl) rfl) rfl ?_
        refine WL.v (Runs.pick rfl rfl rfl) rfl ?_
        refine WL.nil (WN.thn ?_)
        refine WC.condF rfl (rfl) ?_
        refine WC.skip (WN.thn (WC.seq (WC.reg ?_)))
        refine WL.v (Runs.move rfl) rfl ?_
        refine WL.call can11 rfl rfl (decode_c _ l h9 (by omega)) ?_
        rintro _ w10 ⟨G39, A39, c39, hG39, rfl, hrd39, h10⟩
        refine ⟨_, rfl, ?_⟩
        replace hleF := Le.trans hleF hG39
        replace hl := hl.mono hG39
        replace hrd26 := hrd26.mono hG39
        refine WL.v (Runs.move rfl) rfl ?_
        refine WL.v (Runs.extract rfl rfl) rfl ?_
        refine WL.v (Runs.extract rfl rfl) rfl ?_
        refine WL.alloc' rfl h10 inf24 ?_
        intro b8 w11 h11
        refine WL.storeAll h11 0 rfl rfl rfl inf24 rfl rfl rfl (Free.zero _) ?_
        intro  w12 h12
        try simp only [lz, ls, ez, es'] at h12
        refine WL.v (Runs.assign rfl) rfl ?_
        refine WL.nil (WN.thn (WC.seq ?_))
        by_cases g0 : (decM l).2 = 0
        · skip
          refine WC.reg ?_
          refine WL.v (Runs.move rfl) rfl ?_
          refine WL.v (Runs.boolT (c := false) (Runs.neq rfl rfl) (by rw [g0]; rfl)) rfl ?_
          refine WL.v (Runs.move rfl) rfl ?_
          refine WL.gon rfl rfl rfl ?_
          refine WL.v (Runs.loadAll h12 0 rfl Try.underlying24 rfl inf24 rfl rfl) rfl ?_
          refine WL.gon rfl rfl rfl ?_
          refine WL.call can13 rfl rfl ((show Calls _ _ #[_] _ _ from encode_c (r := (decM l).1) _ h12 hrd39 (Nat.le_trans decM_few (by simp)))) ?_
          rintro _ w13 ⟨rfl, h13⟩
          refine ⟨_, rfl, ?_⟩
          refine WL.gon rfl rfl rfl ?_
          refine WL.v (Runs.move rfl) rfl ?_
          refine WL.gon rfl rfl rfl ?_
          refine WL.v (Runs.boolT (c := true) (Runs.lseql rfl rfl) (decide_eq_true (encR_dec g0))) rfl ?_
          refine WL.v (Runs.pick rfl rfl rfl) rfl ?_
          refine WL.v (Runs.move rfl) rfl ?_
          refine WL.gon rfl rfl rfl ?_
          refine WL.call can10 rfl rfl (live_c _ h13) ?_
          rintro _ w14 ⟨G51, hG51, rfl, h14⟩
          refine ⟨_, rfl, ?_⟩
          replace hleF := Le.trans hleF hG51
          replace hl := hl.mono hG51
          replace hrd26 := hrd26.mono hG51
          replace hrd39 := hrd39.mono hG51
          refine WL.v (Runs.pick rfl rfl rfl) rfl ?_
          refine WL.v (Runs.assign rfl) rfl ?_
          refine WL.nil (WN.thn (WC.ret ?_))
          have h90 := (((h14.drop 0).drop 0).drop 0)
          try simp only [List.eraseIdx_cons_zero] at h90
          exact ret1 rfl rfl ⟨rfl, h90.weak hleF⟩
        · skip
          refine WC.reg ?_
          refine WL.v (Runs.move rfl) rfl ?_
          refine WL.v (Runs.boolT (c := true) (Runs.neq rfl rfl) (by rw [decide_eq_false g0]; rfl)) rfl ?_
          refine WL.v (Runs.move rfl) rfl ?_
          refine WL.goff rfl rfl rfl rfl ?_
          refine WL.goff rfl rfl rfl rfl ?_
          refine WL.goff rfl rfl rfl rfl ?_
          refine WL.goff rfl rfl rfl rfl ?_
          refine WL.v (Runs.pick rfl rfl rfl) rfl ?_
          refine WL.v (Runs.move rfl) rfl ?_
          refine WL.gon rfl rfl rfl ?_
          refine WL.call can10 rfl rfl (live_c _ h12) ?_
          rintro _ w15 ⟨G51, hG51, rfl, h15⟩
          refine ⟨_, rfl, ?_⟩
          replace hleF := Le.trans hleF hG51
          replace hl := hl.mono hG51
          replace hrd26 := hrd26.mono hG51
          replace hrd39 := hrd39.mono hG51
          refine WL.v (Runs.pick rfl rfl rfl) rfl ?_
          refine WL.v (Runs.assign rfl) rfl ?_
          refine WL.nil (WN.thn (WC.ret ?_))
          have h90 := (((h15.drop 0).drop 0).drop 0)
          try simp only [List.eraseIdx_cons_zero] at h90
          exact ret1 rfl rfl ⟨rfl, h90.weak hleF⟩
    · try simp only [dt, df, nt, nf, ba, il, ie] at c5
      first
      | (exfalso; omega)
      | skip
        refine WC.skip (WN.thn (WC.seq (WC.reg ?_)))
        refine WL.v (Runs.move rfl) rfl ?_
        refine WL.call can11 rfl rfl (decode_c _ l h4 (by omega)) ?_
        rintro _ w16 ⟨G39, A39, c39, hG39, rfl, hrd39, h16⟩
        refine ⟨_, rfl, ?_⟩
        replace hleF := Le.trans hleF hG39
        replace hl := hl.mono hG39
        refine WL.v (Runs.move rfl) rfl ?_
        refine WL.v (Runs.extract rfl rfl) rfl ?_
        refine WL.v (Runs.extract rfl rfl) rfl ?_
        refine WL.alloc' rfl h16 inf24 ?_
        intro b8 w17 h17
        refine WL.storeAll h17 0 rfl rfl rfl inf24 rfl rfl rfl (Free.zero _) ?_
        intro  w18 h18
        try simp only [lz, ls, ez, es'] at h18
        refine WL.v (Runs.assign rfl) rfl ?_
        refine WL.nil (WN.thn (WC.seq ?_))
        by_cases g0 : (decM l).2 = 0
        · skip
          refine WC.reg ?_
          refine WL.v (Runs.move rfl) rfl ?_
          refine WL.v (Runs.boolT (c := false) (Runs.neq rfl rfl) (by rw [g0]; rfl)) rfl ?_
          refine WL.v (Runs.move rfl) rfl ?_
          refine WL.gon rfl rfl rfl ?_
          refine WL.v (Runs.loadAll h18 0 rfl Try.underlying24 rfl inf24 rfl rfl) rfl ?_
          refine WL.gon rfl rfl rfl ?_
          refine WL.call can13 rfl rfl ((show Calls _ _ #[_] _ _ from encode_c (r := (decM l).1) _ h18 hrd39 (Nat.le_trans decM_few (by simp)))) ?_
          rintro _ w19 ⟨rfl, h19⟩
          refine ⟨_, rfl, ?_⟩
          refine WL.gon rfl rfl rfl ?_
          refine WL.v (Runs.move rfl) rfl ?_
          refine WL.gon rfl rfl rfl ?_
          refine WL.v (Runs.boolT (c := true) (Runs.lseql rfl rfl) (decide_eq_true (encR_dec g0))) rfl ?_
          refine WL.v (Runs.pick rfl rfl rfl) rfl ?_
          refine WL.v (Runs.move rfl) rfl ?_
          refine WL.gon rfl rfl rfl ?_
          refine WL.call can10 rfl rfl (live_c _ h19) ?_
          rintro _ w20 ⟨G51, hG51, rfl, h20⟩
          refine ⟨_, rfl, ?_⟩
          replace hleF := Le.trans hleF hG51
          replace hl := hl.mono hG51
          replace hrd39 := hrd39.mono hG51
          refine WL.v (Runs.pick rfl rfl rfl) rfl ?_
          refine WL.v (Runs.assign rfl) rfl ?_
          refine WL.nil (WN.thn (WC.ret ?_))
          have h90 := ((h20.drop 0).drop 0)
          try simp only [List.eraseIdx_cons_zero] at h90
          exact ret1 rfl rfl ⟨rfl, h90.weak hleF⟩
        · skip
          refine WC.reg ?_
          refine WL.v (Runs.move rfl) rfl ?_
          refine WL.v (Runs.boolT (c := true) (Runs.neq rfl rfl) (by rw [decide_eq_false g0]; rfl)) rfl ?_
          refine WL.v (Runs.move rfl) rfl ?_
          refine WL.goff rfl rfl rfl rfl ?_
          refine WL.goff rfl rfl rfl rfl ?_
          refine WL.goff rfl rfl rfl rfl ?_
          refine WL.goff rfl rfl rfl rfl ?_
          refine WL.v (Runs.pick rfl rfl rfl) rfl ?_
          refine WL.v (Runs.move rfl) rfl ?_
          refine WL.gon rfl rfl rfl ?_
          refine WL.call can10 rfl rfl (live_c _ h18) ?_
          rintro _ w21 ⟨G51, hG51, rfl, h21⟩
          refine ⟨_, rfl, ?_⟩
          replace hleF := Le.trans hleF hG51
          replace hl := hl.mono hG51
          replace hrd39 := hrd39.mono hG51
          refine WL.v (Runs.pick rfl rfl rfl) rfl ?_
          refine WL.v (Runs.assign rfl) rfl ?_
          refine WL.nil (WN.thn (WC.ret ?_))
          have h90 := ((h21.drop 0).drop 0)
          try simp only [List.eraseIdx_cons_zero] at h90
          exact ret1 rfl rfl ⟨rfl, h90.weak hleF⟩
end Rc
end Go.Proofs.Ythejglgnoingfaa
