/- The laws RecTells, RecFolds, RecApplies. -/
import Derived.Test.YthejglgnoingfaaProg
import Derived.KernelRfl
import Derived.Test.YthejglgnoingfaaMBaseAH
import Derived.Test.YthejglgnoingfaaME2
import Derived.Test.YthejglgnoingfaaME3
namespace Go.Proofs.Ythejglgnoingfaa
open Go Go.RowKit B
set_option linter.unusedVariables false
set_option linter.unusedSimpArgs false
namespace Rc
open Wir (numB listB rdN rdL rdEnd)

theorem can10 : B.Can Try.prog 10 := ⟨_, Try.func10, by kernel_rfl, rfl⟩   -- roundhouse/roundhouselaw15.live
theorem can12 : B.Can Try.prog 12 := ⟨_, Try.func12, by kernel_rfl, rfl⟩   -- roundhouse/roundhouseref15.Decode
theorem can14 : B.Can Try.prog 14 := ⟨_, Try.func14, by kernel_rfl, rfl⟩   -- roundhouse/roundhouseref15.Encode
theorem can16 : B.Can Try.prog 16 := ⟨_, Try.func16, by kernel_rfl, rfl⟩   -- roundhouse/roundhouseref15.Small
theorem can17 : B.Can Try.prog 17 := ⟨_, Try.func17, by kernel_rfl, rfl⟩   -- roundhouse/roundhouselaw15.own
theorem can23 : B.Can Try.prog 23 := ⟨_, Try.func23, by kernel_rfl, rfl⟩   -- roundhouse/roundhouseref15.StepOf
theorem can24 : B.Can Try.prog 24 := ⟨_, Try.func24, by kernel_rfl, rfl⟩   -- roundhouse/roundhouseref15.Same
theorem can25 : B.Can Try.prog 25 := ⟨_, Try.func25, by kernel_rfl, rfl⟩   -- roundhouse/roundhouselaw15.told
theorem can28 : B.Can Try.prog 28 := ⟨_, Try.func28, by kernel_rfl, rfl⟩   -- roundhouse/roundhouselaw15.small
theorem can30 : B.Can Try.prog 30 := ⟨_, Try.func30, by kernel_rfl, rfl⟩   -- roundhouse/roundhouseref15.Fold
theorem decM_few {l : List UInt8} : (decM l).1.ls.length ≤ 256 := by
  unfold decM
  split
  · exact Nat.zero_le _
  · split
    · rename_i h; exact okR_len h
    · exact Nat.zero_le _
theorem smallZ.fewN {z : Z} (h : smallZ z) : fewN 40 z := ⟨h.2.1, h.2.2, h.few.p⟩
theorem smallL.ls {l : List R} {n : Int} (h : smallL l n) : ∀ r ∈ l, r.ls.length ≤ 100000 := fun r hr => by
  obtain ⟨i, hi, rfl⟩ := List.getElem_of_mem hr
  have := h.1 i hi
  rw [List.getD_eq_getElem?_getD, List.getElem?_eq_getElem hi] at this
  exact Nat.le_trans this (by decide)
theorem fold_fewN {l : List R} (hl : ∀ r ∈ l, r.ls.length ≤ 100000) : ∀ {n : Nat} {z : Z}, fewN n z → fewN (n + l.length) (foldM z l).1 := by
  induction l with
  | nil => intro n z h; exact h
  | cons r l ih =>
    intro n z h
    have h1 := ih (fun r hr => hl r (List.mem_cons_of_mem _ hr)) (h.next (r := r) (hl r List.mem_cons_self))
    simp only [foldM]
    have e : n + (r :: l).length = n + 1 + l.length := by simp; omega
    split
    · rw [e]; exact h1
    · exact ⟨Nat.le_trans h.j (by simp), Nat.le_trans h.s (by simp), h.p⟩
theorem fold_few {l : List R} (hl : ∀ r ∈ l, r.ls.length ≤ 100000) (hn : l.length ≤ 1000) : few (foldM Z0 l).1 := (fold_fewN hl fewN0).few (by omega)
set_option maxRecDepth 100000 in
set_option maxHeartbeats 16000000 in
theorem tells_law {W : World} {F : Snap} {cs : List Res} (w : World) {Al : Option Addr} {cl : Nat} {r : R} {l : List UInt8} (hl : RdS (Kd.one Vi) F Al r.ls) (h : St W F cs w) : Calls Try.prog 3 #[.agg #[Vi r.kd, Vi r.jb, Vi r.ep, Vi r.st, Vi r.ar, .slice Al r.ls.length cl], .string (bs l)] w fun e w' => e = .returned (.bool true) ∧ St W F cs w'  := by
  refine enter (P := Try.prog) (args := [.agg #[Vi r.kd, Vi r.jb, Vi r.ep, Vi r.st, Vi r.ar, .slice Al r.ls.length cl], .string (bs l)]) Try.func3 rfl rfl rfl ?_
  have hleF := Le.refl F
  refine WC.seq (WC.reg ?_)
  refine WL.box rfl h rfl ?_
  intro b2 w1 h1
  refine WL.v (Runs.assign rfl) rfl ?_
  refine WL.nil (WN.thn (WC.seq (WC.seq ?_)))
  rcases two (r.ls.length ≤ 300) (l.length ≤ 600) with q0 | ⟨q0, q1⟩ | ⟨q0, q1⟩
  · skip
    refine WC.reg ?_
    refine WL.v (Runs.fld fld24_5 rfl) rfl ?_
    refine WL.v (Runs.load1 Try.underlying22 rfl rfl (h1.ocell (i := 0) rfl rfl)) rfl ?_
    refine WL.v (Runs.llen Try.underlying22 rfl rfl) rfl ?_
    refine WL.v (Runs.boolT (c := true) (Runs.gtr rfl rfl) (by rw [decide_eq_true_eq]; omega)) rfl ?_
    refine WL.v (Runs.move rfl) rfl ?_
    refine WL.goff rfl rfl rfl rfl ?_
    refine WL.goff rfl rfl rfl rfl ?_
    refine WL.goff rfl rfl rfl rfl ?_
    refine WL.v (Runs.pick rfl rfl rfl) rfl ?_
    refine WL.nil (WN.thn ?_)
    refine WC.condT rfl (rfl) ?_
    refine WC.seq (WC.reg ?_)
    refine WL.call can10 rfl rfl (live_c _ h1) ?_
    rintro _ w2 ⟨G18, hG18, rfl, h2⟩
    refine ⟨_, rfl, ?_⟩
    replace hleF := Le.trans hleF hG18
    replace hl := hl.mono hG18
    refine WL.v (Runs.assign rfl) rfl ?_
    refine WL.nil (WN.thn (WC.ret ?_))
    have h90 := (h2.drop 0)
    try simp only [List.eraseIdx_cons_zero] at h90
    exact ret1 rfl rfl ⟨rfl, h90.weak hleF⟩
  · skip
    refine WC.reg ?_
    refine WL.v (Runs.fld fld24_5 rfl) rfl ?_
    refine WL.v (Runs.load1 Try.underlying22 rfl rfl (h1.ocell (i := 0) rfl rfl)) rfl ?_
    refine WL.v (Runs.llen Try.underlying22 rfl rfl) rfl ?_
    refine WL.v (Runs.boolT (c := false) (Runs.gtr rfl rfl) (by rw [decide_eq_false_iff_not]; omega)) rfl ?_
    refine WL.v (Runs.move rfl) rfl ?_
    refine WL.gon rfl rfl rfl ?_
    refine WL.v (Runs.move rfl) rfl ?_
    refine WL.gon rfl rfl rfl ?_
    refine WL.v (Runs.lslen Try.underlying9 rfl rfl) rfl ?_
    refine WL.gon rfl rfl rfl ?_
    refine WL.v (Runs.boolT (c := true) (Runs.gtr rfl rfl) (by rw [decide_eq_true_eq]; omega)) rfl ?_
    refine WL.v (Runs.pick rfl rfl rfl) rfl ?_
    refine WL.nil (WN.thn ?_)
    refine WC.condT rfl (rfl) ?_
    refine WC.seq (WC.reg ?_)
    refine WL.call can10 rfl rfl (live_c _ h1) ?_
    rintro _ w3 ⟨G18, hG18, rfl, h3⟩
    refine ⟨_, rfl, ?_⟩
    replace hleF := Le.trans hleF hG18
    replace hl := hl.mono hG18
    refine WL.v (Runs.assign rfl) rfl ?_
    refine WL.nil (WN.thn (WC.ret ?_))
    have h90 := (h3.drop 0)
    try simp only [List.eraseIdx_cons_zero] at h90
    exact ret1 rfl rfl ⟨rfl, h90.weak hleF⟩
  · skip
    refine WC.reg ?_
    refine WL.v (Runs.fld fld24_5 rfl) rfl ?_
    refine WL.v (Runs.load1 Try.underlying22 rfl rfl (h1.ocell (i := 0) rfl rfl)) rfl ?_
    refine WL.v (Runs.llen Try.underlying22 rfl rfl) rfl ?_
    refine WL.v (Runs.boolT (c := false) (Runs.gtr rfl rfl) (by rw [decide_eq_false_iff_not]; omega)) rfl ?_
    refine WL.v (Runs.move rfl) rfl ?_
    refine WL.gon rfl rfl rfl ?_
    refine WL.v (Runs.move rfl) rfl ?_
    refine WL.gon rfl rfl rfl ?_
    refine WL.v (Runs.lslen Try.underlying9 rfl rfl) rfl ?_
    refine WL.gon rfl rfl rfl ?_
    refine WL.v (Runs.boolT (c := false) (Runs.gtr rfl rfl) (by rw [decide_eq_false_iff_not]; omega)) rfl ?_
    refine WL.v (Runs.pick rfl rfl rfl) rfl ?_
    refine WL.nil (WN.thn ?_)
    refine WC.condF rfl (rfl) ?_
    refine WC.skip (WN.thn (WC.seq (WC.reg ?_)))
    refine WL.v (Runs.move rfl) rfl ?_
    refine WL.call can11 rfl rfl (decode_c _ l h1 (by omega)) ?_
    rintro _ w4 ⟨G21, A21, c21, hG21, rfl, hrd21, h4⟩
    refine ⟨_, rfl, ?_⟩
    replace hleF := Le.trans hleF hG21
    replace hl := hl.mono hG21
    refine WL.v (Runs.move rfl) rfl ?_
    refine WL.v (Runs.extract rfl rfl) rfl ?_
    refine WL.v (Runs.extract rfl rfl) rfl ?_
    refine WL.alloc' rfl h4 inf24 ?_
    intro b5 w5 h5
    refine WL.storeAll h5 0 rfl rfl rfl inf24 rfl rfl rfl (Free.zero _) ?_
    intro  w6 h6
    try simp only [lz, ls, ez, es'] at h6
    refine WL.v (Runs.assign rfl) rfl ?_
    refine WL.nil (WN.thn (WC.seq (WC.reg ?_)))
    refine WL.v (Runs.move rfl) rfl ?_
    refine WL.call can12 rfl rfl (qdecode_c _ l h6 (by omega)) ?_
    rintro _ w7 ⟨G26, A26, c26, hG26, rfl, hrd26, h7⟩
    refine ⟨_, rfl, ?_⟩
    replace hleF := Le.trans hleF hG26
    replace hl := hl.mono hG26
    replace hrd21 := hrd21.mono hG26
    refine WL.v (Runs.move rfl) rfl ?_
    refine WL.v (Runs.extract rfl rfl) rfl ?_
    refine WL.v (Runs.extract rfl rfl) rfl ?_
    refine WL.alloc' rfl h7 inf24 ?_
    intro b7 w8 h8
    refine WL.storeAll h8 0 rfl rfl rfl inf24 rfl rfl rfl (Free.zero _) ?_
    intro  w9 h9
    try simp only [lz, ls, ez, es'] at h9
    refine WL.v (Runs.assign rfl) rfl ?_
    refine WL.nil (WN.thn (WC.seq ?_))
    refine WC.eregK h9 h9 (fun s_ => ([] : List Nat).any (Nat.beq s_)) mixed (by kernel_rfl) (fun hx => ?_)
    intro w10 h10
    refine WE.v0 12 hx 0 (by rfl) (fun w_ hE_ => Runs.loadAll hE_ 2 rfl Try.underlying24 rfl inf24 rfl rfl) rfl ?_
    refine WE.v0 12 hx 2 (by rfl) (fun w_ hE_ => Runs.loadAll hE_ 2 rfl Try.underlying24 rfl inf24 rfl rfl) rfl ?_
    refine WE.op (.inr h10) (i := 1) (by rfl) (by kernel_rfl) ?_
    refine WL.call can13 rfl rfl (encode_c _ h10 hl (by omega)) ?_
    rintro _ w11 ⟨rfl, h11⟩
    refine ⟨_, rfl, ?_⟩
    refine WL.nil (WE.next ?_)
    refine WE.op (.inr h11) (i := 3) (by rfl) (by kernel_rfl) ?_
    refine WL.call can14 rfl rfl (qencode_c _ h11 hl (by omega)) ?_
    rintro _ w12 ⟨rfl, h12⟩
    refine ⟨_, rfl, ?_⟩
    refine WL.nil (WE.next ?_)
    refine WE.p0 hx 4 (by rfl) (fun w_ => Runs.boolT (c := true) (Runs.lseql rfl rfl) (by simp)) rfl ?_
    refine WE.p0 hx 5 (by rfl) (fun w_ => Runs.move rfl) rfl ?_
    refine WE.v1 (j := 5) (b := true) 12 hx 6 (by rfl) ⟨_, _, rfl, rfl, rfl⟩ (fun w_ hE_ => Runs.loadAll hE_ 1 rfl Try.underlying24 rfl inf24 rfl rfl) rfl ?_
    refine WE.v1 (j := 5) (b := true) 12 hx 7 (by rfl) ⟨_, _, rfl, rfl, rfl⟩ (fun w_ hE_ => Runs.loadAll hE_ 0 rfl Try.underlying24 rfl inf24 rfl rfl) rfl ?_
    refine WE.op (.inr h12) (i := 8) (by rfl) (by kernel_rfl) ?_
    refine WL.gon rfl rfl rfl ?_
    refine WL.call can15 rfl rfl ((show Calls _ _ #[_, _] _ _ from recs_c (r := (decM l).1) _ hrd21 (Nat.le_trans decM_few (by simp)) hrd26 h12)) ?_
    rintro _ w13 ⟨rfl, h13⟩
    refine ⟨_, rfl, ?_⟩
    refine WL.nil (WE.next ?_)
    refine WE.p0 hx 9 (by rfl) (fun w_ => Runs.pick rfl rfl rfl) rfl ?_
    refine WE.p0 hx 10 (by rfl) (fun w_ => Runs.move rfl) rfl ?_
    refine WE.p1 (j := 10) (b := true) hx 11 (by rfl) ⟨_, _, rfl, rfl, rfl⟩ (fun w_ => Runs.move rfl) rfl ?_
    refine WE.p1 (j := 10) (b := true) hx 12 (by rfl) ⟨_, _, rfl, rfl, rfl⟩ (fun w_ => Runs.move rfl) rfl ?_
    refine WE.p1 (j := 10) (b := true) hx 13 (by rfl) ⟨_, _, rfl, rfl, rfl⟩ (fun w_ => Runs.boolT (c := true) (Runs.eql rfl rfl) (by simp)) rfl ?_
    refine WE.p0 hx 14 (by rfl) (fun w_ => Runs.pick rfl rfl rfl) rfl ?_
    refine WE.p0 hx 15 (by rfl) (fun w_ => Runs.move rfl) rfl ?_
    refine WE.op (.inr h13) (i := 16) (by rfl) (by kernel_rfl) ?_
    refine WL.gon rfl rfl rfl ?_
    refine WL.call can10 rfl rfl (live_c _ h13) ?_
    rintro _ w14 ⟨G45, hG45, rfl, h14⟩
    refine ⟨_, rfl, ?_⟩
    replace hleF := Le.trans hleF hG45
    replace hl := hl.mono hG45
    replace hrd21 := hrd21.mono hG45
    replace hrd26 := hrd26.mono hG45
    refine WL.nil (WE.next ?_)
    refine WE.p0 hx 17 (by rfl) (fun w_ => Runs.pick rfl rfl rfl) rfl ?_
    refine WE.p0 hx 18 (by rfl) (fun w_ => Runs.assign rfl) rfl ?_
    refine WE.fin (.inr (h14.weak hG45)) (by kernel_rfl) ?_
    refine WN.thn (WC.ret ?_)
    have h90 := (((h14.drop 0).drop 0).drop 0)
    try simp only [List.eraseIdx_cons_zero] at h90
    exact ret1 rfl rfl ⟨rfl, h90.weak hleF⟩
set_option maxRecDepth 100000 in
set_option maxHeartbeats 16000000 in
theorem folds_law {W : World} {F : Snap} {cs : List Res} (w : World) {A : Option Addr} {cap : Nat} {l : List R} (h : St W F cs w) (hR : RdS KR F A l) (hlm : l.length ≤ 9223372036854775807) : Calls Try.prog 5 #[.slice A l.length cap] w fun e w' => e = .returned (.bool true) ∧ St W F cs w'  := by
  refine enter (P := Try.prog) (args := [.slice A l.length cap]) Try.func5 rfl rfl rfl ?_
  have hleF := Le.refl F
  refine WC.seq (WC.reg ?_)
  refine WL.v (Runs.assign rfl) rfl ?_
  refine WL.nil (WN.thn (WC.seq (WC.seq ?_)))
  by_cases hs : smallL l 60
  · have hl1 : l.length ≤ 1000 := by have := hs.2; omega
    have hls := hs.ls
    have hfw := fold_few hls hl1
    refine WC.reg ?_
    refine WL.v (Runs.move rfl) rfl ?_
    refine WL.call can28 rfl rfl (small_c _ h hR hlm) ?_
    rintro _ w1 ⟨rfl, h1⟩
    refine ⟨_, rfl, ?_⟩
    refine WL.v (Runs.boolT (c := false) (Runs.not rfl) (by rw [decide_eq_true hs]; rfl)) rfl ?_
    refine WL.nil (WN.thn ?_)
    refine WC.condF rfl (rfl) ?_
    refine WC.skip (WN.thn (WC.seq (WC.reg ?_)))
    refine WL.v (Runs.move rfl) rfl ?_
    refine WL.call can29 rfl rfl (fold_c _ hl1 hls hR h1) ?_
    rintro _ w2 ⟨G13, AJ13, AS13, cj13, cS13, hG13, rfl, hZ13, h2⟩
    refine ⟨_, rfl, ?_⟩
    replace hleF := Le.trans hleF hG13
    replace hR := hR.mono hG13
    refine WL.v (Runs.move rfl) rfl ?_
    refine WL.v (Runs.extract rfl rfl) rfl ?_
    refine WL.v (Runs.extract rfl rfl) rfl ?_
    refine WL.alloc' rfl h2 inf40 ?_
    intro b3 w3 h3
    refine WL.storeAll h3 0 rfl rfl rfl inf40 rfl rfl rfl (Free.zero _) ?_
    intro  w4 h4
    try simp only [lz, ls, ez, es'] at h4
    refine WL.v (Runs.assign rfl) rfl ?_
    refine WL.nil (WN.thn (WC.seq (WC.reg ?_)))
    refine WL.v (Runs.move rfl) rfl ?_
    refine WL.call can30 rfl rfl (qfold_c _ hl1 hls hR h4) ?_
    rintro _ w5 ⟨G18, AJ18, AS18, cj18, cS18, hG18, rfl, hZ18, h5⟩
    refine ⟨_, rfl, ?_⟩
    replace hleF := Le.trans hleF hG18
    replace hR := hR.mono hG18
    replace hZ13 := hZ13.mono hG18
    refine WL.v (Runs.move rfl) rfl ?_
    refine WL.v (Runs.extract rfl rfl) rfl ?_
    refine WL.v (Runs.extract rfl rfl) rfl ?_
    refine WL.alloc' rfl h5 inf35 ?_
    intro b5 w6 h6
    refine WL.storeAll h6 0 rfl rfl rfl inf35 rfl rfl rfl (Free.zero _) ?_
    intro  w7 h7
    try simp only [lz, ls, ez, es'] at h7
    refine WL.v (Runs.assign rfl) rfl ?_
    refine WL.nil (WN.thn (WC.seq ?_))
    refine WC.eregK h7 h7 (fun s_ => ([] : List Nat).any (Nat.beq s_)) mixed (by kernel_rfl) (fun hx => ?_)
    intro w8 h8
    refine WE.v0 12 hx 0 (by rfl) (fun w_ hE_ => Runs.loadAll hE_ 1 rfl Try.underlying40 rfl inf40 rfl rfl) rfl ?_
    refine WE.v0 12 hx 2 (by rfl) (fun w_ hE_ => Runs.loadAll hE_ 0 rfl Try.underlying35 rfl inf35 rfl rfl) rfl ?_
    refine WE.op (.inr h8) (i := 1) (by rfl) (by kernel_rfl) ?_
    refine WL.call can25 rfl rfl ((show Calls _ _ #[_] _ _ from told_c (z := (foldM Z0 l).1) _ hfw hZ13 h8)) ?_
    rintro _ w9 ⟨G22, AJ22, AS22, cj22, cS22, hG22, rfl, hZ22, h9⟩
    refine ⟨_, rfl, ?_⟩
    replace hleF := Le.trans hleF hG22
    replace hR := hR.mono hG22
    replace hZ13 := hZ13.mono hG22
    replace hZ18 := hZ18.mono hG22
    refine WL.nil (WE.next ?_)
    refine WE.op (.inr (h9.weak hG22)) (i := 3) (by rfl) (by kernel_rfl) ?_
    refine WL.call can24 rfl rfl ((show Calls _ _ #[_, _] _ _ from qsame_c (z := (foldM Z0 l).1) _ hfw hZ22 hZ18 h9)) ?_
    rintro _ w10 ⟨rfl, h10⟩
    refine ⟨_, rfl, ?_⟩
    refine WL.nil (WE.next ?_)
    refine WE.p0 hx 4 (by rfl) (fun w_ => Runs.move rfl) rfl ?_
    refine WE.p1 (j := 4) (b := true) hx 5 (by rfl) ⟨_, _, rfl, rfl, rfl⟩ (fun w_ => Runs.move rfl) rfl ?_
    refine WE.p1 (j := 4) (b := true) hx 6 (by rfl) ⟨_, _, rfl, rfl, rfl⟩ (fun w_ => Runs.move rfl) rfl ?_
    refine WE.p1 (j := 4) (b := true) hx 7 (by rfl) ⟨_, _, rfl, rfl, rfl⟩ (fun w_ => Runs.boolT (c := true) (Runs.eql rfl rfl) (by simp)) rfl ?_
    refine WE.p0 hx 8 (by rfl) (fun w_ => Runs.pick rfl rfl rfl) rfl ?_
    refine WE.p0 hx 9 (by rfl) (fun w_ => Runs.move rfl) rfl ?_
    refine WE.op (.inr (h10.weak hG22)) (i := 10) (by rfl) (by kernel_rfl) ?_
    refine WL.gon rfl rfl rfl ?_
    refine WL.call can10 rfl rfl (live_c _ h10) ?_
    rintro _ w11 ⟨G31, hG31, rfl, h11⟩
    refine ⟨_, rfl, ?_⟩
    replace hleF := Le.trans hleF hG31
    replace hR := hR.mono hG31
    replace hZ13 := hZ13.mono hG31
    replace hZ18 := hZ18.mono hG31
    replace hZ22 := hZ22.mono hG31
    refine WL.nil (WE.next ?_)
    refine WE.p0 hx 11 (by rfl) (fun w_ => Runs.pick rfl rfl rfl) rfl ?_
    refine WE.p0 hx 12 (by rfl) (fun w_ => Runs.assign rfl) rfl ?_
    refine WE.fin (.inr (h11.weak (Le.trans hG22 hG31))) (by kernel_rfl) ?_
    refine WN.thn (WC.ret ?_)
    have h90 := ((h11.drop 0).drop 0)
    try simp only [List.eraseIdx_cons_zero] at h90
    exact ret1 rfl rfl ⟨rfl, h90.weak hleF⟩
  · skip
    refine WC.reg ?_
    refine WL.v (Runs.move rfl) rfl ?_
    refine WL.call can28 rfl rfl (small_c _ h hR hlm) ?_
    rintro _ w12 ⟨rfl, h12⟩
    refine ⟨_, rfl, ?_⟩
    refine WL.v (Runs.boolT (c := true) (Runs.not rfl) (by rw [decide_eq_false hs]; rfl)) rfl ?_
    refine WL.nil (WN.thn ?_)
    refine WC.condT rfl (rfl) ?_
    refine WC.seq (WC.reg ?_)
    refine WL.call can10 rfl rfl (live_c _ h12) ?_
    rintro _ w13 ⟨G10, hG10, rfl, h13⟩
    refine ⟨_, rfl, ?_⟩
    replace hleF := Le.trans hleF hG10
    replace hR := hR.mono hG10
    refine WL.v (Runs.assign rfl) rfl ?_
    refine WL.nil (WN.thn (WC.ret ?_))
    have h90 := h13
    try simp only [List.eraseIdx_cons_zero] at h90
    exact ret1 rfl rfl ⟨rfl, h90.weak hleF⟩
set_option maxRecDepth 100000 in
set_option maxHeartbeats 32000000 in
theorem applies_law {W : World} {F : Snap} {cs : List Res} (w : World) {AJ AS : Option Addr} {cj cS : Nat} {z : Z} {Al : Option Addr} {cl : Nat} {r : R} (hls : z.ss.length ≤ 9223372036854775807) (hR : ZR F AJ AS z) (hl : RdS (Kd.one Vi) F Al r.ls) (h : St W F cs w) : Calls Try.prog 4 #[.agg #[.slice AJ z.js.length cj, .slice AS z.ss.length cS, .bool z.dr], .agg #[Vi r.kd, Vi r.jb, Vi r.ep, Vi r.st, Vi r.ar, .slice Al r.ls.length cl]] w fun e w' => e = .returned (.bool true) ∧ St W F cs w'  := by
  refine enter (P := Try.prog) (args := [.agg #[.slice AJ z.js.length cj, .slice AS z.ss.length cS, .bool z.dr], .agg #[Vi r.kd, Vi r.jb, Vi r.ep, Vi r.st, Vi r.ar, .slice Al r.ls.length cl]]) Try.func4 rfl rfl rfl ?_
  have hleF := Le.refl F
  refine WC.seq (WC.reg ?_)
  refine WL.box rfl h rfl ?_
  intro b2 w1 h1
  refine WL.box rfl h1 rfl ?_
  intro b3 w2 h2
  refine WL.v (Runs.assign rfl) rfl ?_
  refine WL.nil (WN.thn (WC.seq (WC.seq ?_)))
  rcases two (smallZ z) (r.ls.length ≤ 300) with q0 | ⟨q0, q1⟩ | ⟨q0, q1⟩
  · skip
    refine WC.reg ?_
    refine WL.v (Runs.loadAll h2 1 rfl Try.underlying35 rfl inf35 rfl rfl) rfl ?_
    refine WL.call can16 rfl rfl (qsmall_c _ h2 hR.s hls) ?_
    rintro _ w3 ⟨rfl, h3⟩
    refine ⟨_, rfl, ?_⟩
    refine WL.v (Runs.boolT (c := true) (Runs.not rfl) (by rw [decide_eq_false q0]; rfl)) rfl ?_
    refine WL.v (Runs.move rfl) rfl ?_
    refine WL.goff rfl rfl rfl rfl ?_
    refine WL.goff rfl rfl rfl rfl ?_
    refine WL.goff rfl rfl rfl rfl ?_
    refine WL.goff rfl rfl rfl rfl ?_
    refine WL.v (Runs.pick rfl rfl rfl) rfl ?_
    refine WL.nil (WN.thn ?_)
    refine WC.condT rfl (rfl) ?_
    refine WC.seq (WC.reg ?_)
    refine WL.call can10 rfl rfl (live_c _ h3) ?_
    rintro _ w4 ⟨G27, hG27, rfl, h4⟩
    refine ⟨_, rfl, ?_⟩
    replace hleF := Le.trans hleF hG27
    replace hR := hR.mono hG27
    replace hl := hl.mono hG27
    refine WL.v (Runs.assign rfl) rfl ?_
    refine WL.nil (WN.thn (WC.ret ?_))
    have h90 := ((h4.drop 0).drop 0)
    try simp only [List.eraseIdx_cons_zero] at h90
    exact ret1 rfl rfl ⟨rfl, h90.weak hleF⟩
  · skip
    refine WC.reg ?_
    refine WL.v (Runs.loadAll h2 1 rfl Try.underlying35 rfl inf35 rfl rfl) rfl ?_
    refine WL.call can16 rfl rfl (qsmall_c _ h2 hR.s hls) ?_
    rintro _ w5 ⟨rfl, h5⟩
    refine ⟨_, rfl, ?_⟩
    refine WL.v (Runs.boolT (c := false) (Runs.not rfl) (by rw [decide_eq_true q0]; rfl)) rfl ?_
    refine WL.v (Runs.move rfl) rfl ?_
    refine WL.gon rfl rfl rfl ?_
    refine WL.v (Runs.fld fld24_5 rfl) rfl ?_
    refine WL.gon rfl rfl rfl ?_
    refine WL.v (Runs.load1 Try.underlying22 rfl rfl (h5.ocell (i := 0) rfl rfl)) rfl ?_
    refine WL.gon rfl rfl rfl ?_
    refine WL.v (Runs.llen Try.underlying22 rfl rfl) rfl ?_
    refine WL.gon rfl rfl rfl ?_
    refine WL.v (Runs.boolT (c := true) (Runs.gtr rfl rfl) (by rw [decide_eq_true_eq]; omega)) rfl ?_
    refine WL.v (Runs.pick rfl rfl rfl) rfl ?_
    refine WL.nil (WN.thn ?_)
    refine WC.condT rfl (rfl) ?_
    refine WC.seq (WC.reg ?_)
    refine WL.call can10 rfl rfl (live_c _ h5) ?_
    rintro _ w6 ⟨G27, hG27, rfl, h6⟩
    refine ⟨_, rfl, ?_⟩
    replace hleF := Le.trans hleF hG27
    replace hR := hR.mono hG27
    replace hl := hl.mono hG27
    refine WL.v (Runs.assign rfl) rfl ?_
    refine WL.nil (WN.thn (WC.ret ?_))
    have h90 := ((h6.drop 0).drop 0)
    try simp only [List.eraseIdx_cons_zero] at h90
    exact ret1 rfl rfl ⟨rfl, h90.weak hleF⟩
  · have hz := q0.few
    have hrn : r.ls.length ≤ 100000 := by omega
    have hz1 : few (applyM z r).1 := (q0.fewN.next hrn).few (by omega)
    refine WC.reg ?_
    refine WL.v (Runs.loadAll h2 1 rfl Try.underlying35 rfl inf35 rfl rfl) rfl ?_
    refine WL.call can16 rfl rfl (qsmall_c _ h2 hR.s hls) ?_
    rintro _ w7 ⟨rfl, h7⟩
    refine ⟨_, rfl, ?_⟩
    refine WL.v (Runs.boolT (c := false) (Runs.not rfl) (by rw [decide_eq_true q0]; rfl)) rfl ?_
    refine WL.v (Runs.move rfl) rfl ?_
    refine WL.gon rfl rfl rfl ?_
    refine WL.v (Runs.fld fld24_5 rfl) rfl ?_
    refine WL.gon rfl rfl rfl ?_
    refine WL.v (Runs.load1 Try.underlying22 rfl rfl (h7.ocell (i := 0) rfl rfl)) rfl ?_
    refine WL.gon rfl rfl rfl ?_
    refine WL.v (Runs.llen Try.underlying22 rfl rfl) rfl ?_
    refine WL.gon rfl rfl rfl ?_
    refine WL.v (Runs.boolT (c := false) (Runs.gtr rfl rfl) (by rw [decide_eq_false_iff_not]; omega)) rfl ?_
    refine WL.v (Runs.pick rfl rfl rfl) rfl ?_
    refine WL.nil (WN.thn ?_)
    refine WC.condF rfl (rfl) ?_
    refine WC.skip (WN.thn (WC.seq (WC.reg ?_)))
    refine WL.v (Runs.loadAll h7 1 rfl Try.underlying35 rfl inf35 rfl rfl) rfl ?_
    refine WL.call can17 rfl rfl (own_c _ hz hR h7) ?_
    rintro _ w8 ⟨G29, AJ29, AS29, cj29, cS29, hG29, rfl, hZ29, h8⟩
    refine ⟨_, rfl, ?_⟩
    replace hleF := Le.trans hleF hG29
    replace hR := hR.mono hG29
    replace hl := hl.mono hG29
    refine WL.alloc' rfl h8 inf40 ?_
    intro b5 w9 h9
    refine WL.storeAll h9 0 rfl rfl rfl inf40 rfl rfl rfl (Free.zero _) ?_
    intro  w10 h10
    try simp only [lz, ls, ez, es'] at h10
    refine WL.nil (WN.thn (WC.seq (WC.reg ?_)))
    refine WL.v (Runs.loadAll h10 0 rfl Try.underlying40 rfl inf40 rfl rfl) rfl ?_
    refine WL.v (Runs.loadAll h10 1 rfl Try.underlying24 rfl inf24 rfl rfl) rfl ?_
    refine WL.call can18 rfl rfl (apply_c (r := r) _ hl hrn hz hZ29 h10) ?_
    rintro _ w11 ⟨G33, AJ33, AS33, cj33, cS33, hG33, rfl, hZ33, h11⟩
    refine ⟨_, rfl, ?_⟩
    replace hleF := Le.trans hleF hG33
    replace hR := hR.mono hG33
    replace hl := hl.mono hG33
    replace hZ29 := hZ29.mono hG33
    refine WL.v (Runs.move rfl) rfl ?_
    refine WL.v (Runs.extract rfl rfl) rfl ?_
    refine WL.v (Runs.extract rfl rfl) rfl ?_
    refine WL.alloc' rfl h11 inf40 ?_
    intro b6 w12 h12
    refine WL.storeAll h12 0 rfl rfl rfl inf40 rfl rfl rfl (Free.zero _) ?_
    intro  w13 h13
    try simp only [lz, ls, ez, es'] at h13
    refine WL.v (Runs.assign rfl) rfl ?_
    refine WL.nil (WN.thn (WC.seq (WC.reg ?_)))
    refine WL.v (Runs.loadAll h13 3 rfl Try.underlying35 rfl inf35 rfl rfl) rfl ?_
    refine WL.v (Runs.loadAll h13 2 rfl Try.underlying24 rfl inf24 rfl rfl) rfl ?_
    refine WL.call can19 rfl rfl (qapply_c (r := r) _ hl hrn hz hR h13) ?_
    rintro _ w14 ⟨G39, AJ39, AS39, cj39, cS39, hG39, rfl, hZ39, h14⟩
    refine ⟨_, rfl, ?_⟩
    replace hleF := Le.trans hleF hG39
    replace hR := hR.mono hG39
    replace hl := hl.mono hG39
    replace hZ29 := hZ29.mono hG39
    replace hZ33 := hZ33.mono hG39
    refine WL.v (Runs.move rfl) rfl ?_
    refine WL.v (Runs.extract rfl rfl) rfl ?_
    refine WL.v (Runs.extract rfl rfl) rfl ?_
    refine WL.alloc' rfl h14 inf35 ?_
    intro b8 w15 h15
    refine WL.storeAll h15 0 rfl rfl rfl inf35 rfl rfl rfl (Free.zero _) ?_
    intro  w16 h16
    try simp only [lz, ls, ez, es'] at h16
    refine WL.v (Runs.assign rfl) rfl ?_
    refine WL.nil (WN.thn (WC.seq (WC.reg ?_)))
    refine WL.v (Runs.loadAll h16 2 rfl Try.underlying40 rfl inf40 rfl rfl) rfl ?_
    refine WL.v (Runs.fld fld24_1 rfl) rfl ?_
    refine WL.v (Runs.load1 Try.underlying3 rfl rfl (h16.ocell (i := 3) rfl rfl)) rfl ?_
    refine WL.v (Runs.fld fld24_2 rfl) rfl ?_
    refine WL.v (Runs.load1 Try.underlying3 rfl rfl (h16.ocell (i := 3) rfl rfl)) rfl ?_
    refine WL.call can20 rfl rfl (find_c _ r.jb r.ep h16 (RdK.of hZ29.j) (by have := hz.j; omega)) ?_
    rintro _ w17 ⟨rfl, h17⟩
    refine ⟨_, rfl, ?_⟩
    refine WL.v (Runs.move rfl) rfl ?_
    refine WL.v (Runs.extract rfl rfl) rfl ?_
    refine WL.v (Runs.extract rfl rfl) rfl ?_
    refine WL.alloc' rfl h17 inf47 ?_
    intro b10 w18 h18
    refine WL.storeAll h18 0 rfl rfl rfl inf47 rfl rfl rfl (Free.zero _) ?_
    intro  w19 h19
    try simp only [lz, ls, ez, es'] at h19
    refine WL.v (Runs.assign rfl) rfl ?_
    refine WL.nil (WN.thn (WC.seq (WC.reg ?_)))
    refine WL.v (Runs.loadAll h19 5 rfl Try.underlying35 rfl inf35 rfl rfl) rfl ?_
    refine WL.v (Runs.fld fld24_1 rfl) rfl ?_
    refine WL.v (Runs.load1 Try.underlying3 rfl rfl (h19.ocell (i := 4) rfl rfl)) rfl ?_
    refine WL.v (Runs.fld fld24_2 rfl) rfl ?_
    refine WL.v (Runs.load1 Try.underlying3 rfl rfl (h19.ocell (i := 4) rfl rfl)) rfl ?_
    refine WL.call can21 rfl rfl (qfind_c _ r.jb r.ep h19 hR.j (by have := hz.j; omega)) ?_
    rintro _ w20 ⟨rfl, h20⟩
    refine ⟨_, rfl, ?_⟩
    refine WL.v (Runs.move rfl) rfl ?_
    refine WL.v (Runs.extract rfl rfl) rfl ?_
    refine WL.v (Runs.extract rfl rfl) rfl ?_
    refine WL.alloc' rfl h20 inf50 ?_
    intro b12 w21 h21
    refine WL.storeAll h21 0 rfl rfl rfl inf50 rfl rfl rfl (Free.zero _) ?_
    intro  w22 h22
    try simp only [lz, ls, ez, es'] at h22
    refine WL.v (Runs.assign rfl) rfl ?_
    refine WL.nil (WN.thn (WC.seq (WC.reg ?_)))
    refine WL.v (Runs.loadAll h22 4 rfl Try.underlying40 rfl inf40 rfl rfl) rfl ?_
    refine WL.v (Runs.fld fld24_1 rfl) rfl ?_
    refine WL.v (Runs.load1 Try.underlying3 rfl rfl (h22.ocell (i := 5) rfl rfl)) rfl ?_
    refine WL.v (Runs.fld fld24_2 rfl) rfl ?_
    refine WL.v (Runs.load1 Try.underlying3 rfl rfl (h22.ocell (i := 5) rfl rfl)) rfl ?_
    refine WL.v (Runs.fld fld24_3 rfl) rfl ?_
    refine WL.v (Runs.load1 Try.underlying3 rfl rfl (h22.ocell (i := 5) rfl rfl)) rfl ?_
    refine WL.call can22 rfl rfl (stepOf_c _ r.jb r.ep r.st h22 (RdK.of hZ29.s) (by have := hz.s; omega)) ?_
    rintro _ w23 ⟨⟨A68, c68, rfl, hrd68⟩, h23⟩
    refine ⟨_, rfl, ?_⟩
    refine WL.v (Runs.move rfl) rfl ?_
    refine WL.v (Runs.extract rfl rfl) rfl ?_
    refine WL.v (Runs.extract rfl rfl) rfl ?_
    refine WL.alloc' rfl h23 inf54 ?_
    intro b14 w24 h24
    refine WL.storeAll h24 0 rfl rfl rfl inf54 rfl rfl rfl (Free.zero _) ?_
    intro  w25 h25
    try simp only [lz, ls, ez, es'] at h25
    refine WL.v (Runs.assign rfl) rfl ?_
    refine WL.nil (WN.thn (WC.seq (WC.reg ?_)))
    refine WL.v (Runs.loadAll h25 7 rfl Try.underlying35 rfl inf35 rfl rfl) rfl ?_
    refine WL.v (Runs.fld fld24_1 rfl) rfl ?_
    refine WL.v (Runs.load1 Try.underlying3 rfl rfl (h25.ocell (i := 6) rfl rfl)) rfl ?_
    refine WL.v (Runs.fld fld24_2 rfl) rfl ?_
    refine WL.v (Runs.load1 Try.underlying3 rfl rfl (h25.ocell (i := 6) rfl rfl)) rfl ?_
    refine WL.v (Runs.fld fld24_3 rfl) rfl ?_
    refine WL.v (Runs.load1 Try.underlying3 rfl rfl (h25.ocell (i := 6) rfl rfl)) rfl ?_
    refine WL.call can23 rfl rfl (qstepOf_c _ r.jb r.ep r.st h25 hR.s (by have := hz.s; omega)) ?_
    rintro _ w26 ⟨⟨A79, c79, rfl, hrd79⟩, h26⟩
    refine ⟨_, rfl, ?_⟩
    refine WL.v (Runs.move rfl) rfl ?_
    refine WL.v (Runs.extract rfl rfl) rfl ?_
    refine WL.v (Runs.extract rfl rfl) rfl ?_
    refine WL.alloc' rfl h26 inf57 ?_
    intro b16 w27 h27
    refine WL.storeAll h27 0 rfl rfl rfl inf57 rfl rfl rfl (Free.zero _) ?_
    intro  w28 h28
    try simp only [lz, ls, ez, es'] at h28
    refine WL.v (Runs.assign rfl) rfl ?_
    refine WL.nil (WN.thn (WC.seq (WC.seq (WC.reg ?_))))
    refine WL.v (Runs.fld fld47_0 rfl) rfl ?_
    refine WL.v (Runs.load1 Try.underlying3 rfl rfl (h28.ocell (i := 3) rfl rfl)) rfl ?_
    refine WL.v (Runs.fld fld50_0 rfl) rfl ?_
    refine WL.v (Runs.load1 Try.underlying3 rfl rfl (h28.ocell (i := 2) rfl rfl)) rfl ?_
    refine WL.v (Runs.boolT (c := false) (Runs.neq rfl rfl) (by simp)) rfl ?_
    refine WL.v (Runs.move rfl) rfl ?_
    refine WL.gon rfl rfl rfl ?_
    refine WL.v (Runs.fld fld47_1 rfl) rfl ?_
    refine WL.gon rfl rfl rfl ?_
    refine WL.v (Runs.load1 Try.underlying3 rfl rfl (h28.ocell (i := 3) rfl rfl)) rfl ?_
    refine WL.gon rfl rfl rfl ?_
    refine WL.v (Runs.fld fld50_1 rfl) rfl ?_
    refine WL.gon rfl rfl rfl ?_
    refine WL.v (Runs.load1 Try.underlying3 rfl rfl (h28.ocell (i := 2) rfl rfl)) rfl ?_
    refine WL.gon rfl rfl rfl ?_
    refine WL.v (Runs.boolT (c := false) (Runs.neq rfl rfl) (by simp)) rfl ?_
    refine WL.v (Runs.pick rfl rfl rfl) rfl ?_
    refine WL.v (Runs.move rfl) rfl ?_
    refine WL.gon rfl rfl rfl ?_
    refine WL.v (Runs.fld fld47_2 rfl) rfl ?_
    refine WL.gon rfl rfl rfl ?_
    refine WL.v (Runs.load1 Try.underlying3 rfl rfl (h28.ocell (i := 3) rfl rfl)) rfl ?_
    refine WL.gon rfl rfl rfl ?_
    refine WL.v (Runs.fld fld50_2 rfl) rfl ?_
    refine WL.gon rfl rfl rfl ?_
    refine WL.v (Runs.load1 Try.underlying3 rfl rfl (h28.ocell (i := 2) rfl rfl)) rfl ?_
    refine WL.gon rfl rfl rfl ?_
    refine WL.v (Runs.boolT (c := false) (Runs.neq rfl rfl) (by simp)) rfl ?_
    refine WL.v (Runs.pick rfl rfl rfl) rfl ?_
    refine WL.v (Runs.move rfl) rfl ?_
    refine WL.gon rfl rfl rfl ?_
    refine WL.v (Runs.move rfl) rfl ?_
    refine WL.gon rfl rfl rfl ?_
    refine WL.v (Runs.move rfl) rfl ?_
    refine WL.gon rfl rfl rfl ?_
    refine WL.v (Runs.boolT (c := false) (Runs.neqb Try.underlying4 rfl rfl (b := (findM z r.jb r.ep).2) (c := (findM z r.jb r.ep).2)) (by simp)) rfl ?_
    refine WL.v (Runs.pick rfl rfl rfl) rfl ?_
    refine WL.v (Runs.move rfl) rfl ?_
    refine WL.gon rfl rfl rfl ?_
    refine WL.v (Runs.move rfl) rfl ?_
    refine WL.gon rfl rfl rfl ?_
    refine WL.v (Runs.move rfl) rfl ?_
    refine WL.gon rfl rfl rfl ?_
    refine WL.v (Runs.boolT (c := false) (Runs.neqb Try.underlying4 rfl rfl (b := (stepM z r.jb r.ep r.st).2) (c := (stepM z r.jb r.ep r.st).2)) (by simp)) rfl ?_
    refine WL.v (Runs.pick rfl rfl rfl) rfl ?_
    refine WL.v (Runs.move rfl) rfl ?_
    refine WL.gon rfl rfl rfl ?_
    refine WL.v (Runs.fld fld54_3 rfl) rfl ?_
    refine WL.gon rfl rfl rfl ?_
    refine WL.v (Runs.load1 Try.underlying3 rfl rfl (h28.ocell (i := 1) rfl rfl)) rfl ?_
    refine WL.gon rfl rfl rfl ?_
    refine WL.v (Runs.fld fld57_3 rfl) rfl ?_
    refine WL.gon rfl rfl rfl ?_
    refine WL.v (Runs.load1 Try.underlying3 rfl rfl (h28.ocell (i := 0) rfl rfl)) rfl ?_
    refine WL.gon rfl rfl rfl ?_
    refine WL.v (Runs.boolT (c := false) (Runs.neq rfl rfl) (by simp)) rfl ?_
    refine WL.v (Runs.pick rfl rfl rfl) rfl ?_
    refine WL.v (Runs.move rfl) rfl ?_
    refine WL.gon rfl rfl rfl ?_
    refine WL.v (Runs.fld fld54_4 rfl) rfl ?_
    refine WL.gon rfl rfl rfl ?_
    refine WL.v (Runs.load1 Try.underlying3 rfl rfl (h28.ocell (i := 1) rfl rfl)) rfl ?_
    refine WL.gon rfl rfl rfl ?_
    refine WL.v (Runs.fld fld57_4 rfl) rfl ?_
    refine WL.gon rfl rfl rfl ?_
    refine WL.v (Runs.load1 Try.underlying3 rfl rfl (h28.ocell (i := 0) rfl rfl)) rfl ?_
    refine WL.gon rfl rfl rfl ?_
    refine WL.v (Runs.boolT (c := false) (Runs.neq rfl rfl) (by simp)) rfl ?_
    refine WL.v (Runs.pick rfl rfl rfl) rfl ?_
    refine WL.v (Runs.move rfl) rfl ?_
    refine WL.gon rfl rfl rfl ?_
    refine WL.v (Runs.fld fld54_5 rfl) rfl ?_
    refine WL.gon rfl rfl rfl ?_
    refine WL.v (Runs.load1 Try.underlying22 rfl rfl (h28.ocell (i := 1) rfl rfl)) rfl ?_
    refine WL.gon rfl rfl rfl ?_
    refine WL.v (Runs.llen Try.underlying22 rfl rfl) rfl ?_
    refine WL.gon rfl rfl rfl ?_
    refine WL.v (Runs.fld fld57_5 rfl) rfl ?_
    refine WL.gon rfl rfl rfl ?_
    refine WL.v (Runs.load1 Try.underlying22 rfl rfl (h28.ocell (i := 0) rfl rfl)) rfl ?_
    refine WL.gon rfl rfl rfl ?_
    refine WL.v (Runs.llen Try.underlying22 rfl rfl) rfl ?_
    refine WL.gon rfl rfl rfl ?_
    refine WL.v (Runs.boolT (c := false) (Runs.neq rfl rfl) (by simp)) rfl ?_
    refine WL.v (Runs.pick rfl rfl rfl) rfl ?_
    refine WL.nil (WN.thn ?_)
    refine WC.condF rfl (rfl) ?_
    refine WC.skip (WN.thn (WC.seq ?_))
    refine WC.eregK h28 h28 (fun s_ => ([] : List Nat).any (Nat.beq s_)) mixed (by kernel_rfl) (fun hx => ?_)
    intro w29 h29
    refine WE.v0 12 hx 0 (by rfl) (fun w_ hE_ => Runs.loadAll hE_ 5 rfl Try.underlying40 rfl inf40 rfl rfl) rfl ?_
    refine WE.v0 12 hx 2 (by rfl) (fun w_ hE_ => Runs.loadAll hE_ 4 rfl Try.underlying35 rfl inf35 rfl rfl) rfl ?_
    refine WE.op (.inr h29) (i := 1) (by rfl) (by kernel_rfl) ?_
    refine WL.call can25 rfl rfl ((show Calls _ _ #[_] _ _ from told_c (z := (applyM z r).1) _ hz1 hZ33 h29)) ?_
    rintro _ w30 ⟨G135, AJ135, AS135, cj135, cS135, hG135, rfl, hZ135, h30⟩
    refine ⟨_, rfl, ?_⟩
    replace hleF := Le.trans hleF hG135
    replace hR := hR.mono hG135
    replace hl := hl.mono hG135
    replace hZ29 := hZ29.mono hG135
    replace hZ33 := hZ33.mono hG135
    replace hZ39 := hZ39.mono hG135
    refine WL.nil (WE.next ?_)
    refine WE.op (.inr (h30.weak hG135)) (i := 3) (by rfl) (by kernel_rfl) ?_
    refine WL.call can24 rfl rfl ((show Calls _ _ #[_, _] _ _ from qsame_c (z := (applyM z r).1) _ hz1 hZ135 hZ39 h30)) ?_
    rintro _ w31 ⟨rfl, h31⟩
    refine ⟨_, rfl, ?_⟩
    refine WL.nil (WE.next ?_)
    refine WE.p0 hx 4 (by rfl) (fun w_ => Runs.move rfl) rfl ?_
    refine WE.p1 (j := 4) (b := true) hx 5 (by rfl) ⟨_, _, rfl, rfl, rfl⟩ (fun w_ => Runs.move rfl) rfl ?_
    refine WE.p1 (j := 4) (b := true) hx 6 (by rfl) ⟨_, _, rfl, rfl, rfl⟩ (fun w_ => Runs.move rfl) rfl ?_
    refine WE.p1 (j := 4) (b := true) hx 7 (by rfl) ⟨_, _, rfl, rfl, rfl⟩ (fun w_ => Runs.boolT (c := true) (Runs.eql rfl rfl) (by simp)) rfl ?_
    refine WE.p0 hx 8 (by rfl) (fun w_ => Runs.pick rfl rfl rfl) rfl ?_
    refine WE.p0 hx 9 (by rfl) (fun w_ => Runs.move rfl) rfl ?_
    refine WE.p1 (j := 9) (b := true) hx 11 (by rfl) ⟨_, _, rfl, rfl, rfl⟩ (fun w_ => Runs.fld fld24_1 rfl) rfl ?_
    refine WE.p1 (j := 9) (b := true) hx 13 (by rfl) ⟨_, _, rfl, rfl, rfl⟩ (fun w_ => Runs.fld fld24_2 rfl) rfl ?_
    refine WE.p1 (j := 9) (b := true) hx 17 (by rfl) ⟨_, _, rfl, rfl, rfl⟩ (fun w_ => Runs.fld fld24_1 rfl) rfl ?_
    refine WE.p1 (j := 9) (b := true) hx 19 (by rfl) ⟨_, _, rfl, rfl, rfl⟩ (fun w_ => Runs.fld fld24_2 rfl) rfl ?_
    refine WE.v1 (j := 9) (b := true) 12 hx 10 (by rfl) ⟨_, _, rfl, rfl, rfl⟩ (fun w_ hE_ => Runs.loadAll hE_ 6 rfl Try.underlying40 rfl inf40 rfl rfl) rfl ?_
    refine WE.v1 (j := 9) (b := true) 12 hx 12 (by rfl) ⟨_, _, rfl, rfl, rfl⟩ (fun w_ hE_ => Runs.load1 Try.underlying3 rfl rfl (hE_.ocell (i := 7) rfl rfl)) rfl ?_
    refine WE.v1 (j := 9) (b := true) 12 hx 14 (by rfl) ⟨_, _, rfl, rfl, rfl⟩ (fun w_ hE_ => Runs.load1 Try.underlying3 rfl rfl (hE_.ocell (i := 7) rfl rfl)) rfl ?_
    refine WE.v1 (j := 9) (b := true) 12 hx 16 (by rfl) ⟨_, _, rfl, rfl, rfl⟩ (fun w_ hE_ => Runs.loadAll hE_ 8 rfl Try.underlying35 rfl inf35 rfl rfl) rfl ?_
    refine WE.v1 (j := 9) (b := true) 12 hx 18 (by rfl) ⟨_, _, rfl, rfl, rfl⟩ (fun w_ hE_ => Runs.load1 Try.underlying3 rfl rfl (hE_.ocell (i := 7) rfl rfl)) rfl ?_
    refine WE.v1 (j := 9) (b := true) 12 hx 20 (by rfl) ⟨_, _, rfl, rfl, rfl⟩ (fun w_ hE_ => Runs.load1 Try.underlying3 rfl rfl (hE_.ocell (i := 7) rfl rfl)) rfl ?_
    refine WE.op (.inr (h31.weak hG135)) (i := 15) (by rfl) (by kernel_rfl) ?_
    refine WL.gon rfl rfl rfl ?_
    refine WL.call can26 rfl rfl (alive_c _ r.jb r.ep h31 (RdK.of hZ29.s) (by have := hz.s; omega)) ?_
    rintro _ w32 ⟨rfl, h32⟩
    refine ⟨_, rfl, ?_⟩
    refine WL.nil (WE.next ?_)
    refine WE.op (.inr (h32.weak hG135)) (i := 21) (by rfl) (by kernel_rfl) ?_
    refine WL.gon rfl rfl rfl ?_
    refine WL.call can27 rfl rfl (qalive_c _ r.jb r.ep h32 hR.s (by have := hz.s; omega)) ?_
    rintro _ w33 ⟨rfl, h33⟩
    refine ⟨_, rfl, ?_⟩
    refine WL.nil (WE.next ?_)
    refine WE.p1 (j := 9) (b := true) hx 22 (by rfl) ⟨_, _, rfl, rfl, rfl⟩ (fun w_ => Runs.boolT (c := true) (Runs.eqlb Try.underlying4 rfl rfl (b := aliveM z r.jb r.ep) (c := aliveM z r.jb r.ep)) (by simp)) rfl ?_
    refine WE.p0 hx 23 (by rfl) (fun w_ => Runs.pick rfl rfl rfl) rfl ?_
    refine WE.p0 hx 24 (by rfl) (fun w_ => Runs.move rfl) rfl ?_
    refine WE.v1 (j := 24) (b := true) 12 hx 25 (by rfl) ⟨_, _, rfl, rfl, rfl⟩ (fun w_ hE_ => Runs.loadAll hE_ 6 rfl Try.underlying40 rfl inf40 rfl rfl) rfl ?_
    refine WE.v1 (j := 24) (b := true) 12 hx 27 (by rfl) ⟨_, _, rfl, rfl, rfl⟩ (fun w_ hE_ => Runs.loadAll hE_ 8 rfl Try.underlying35 rfl inf35 rfl rfl) rfl ?_
    refine WE.op (.inr (h33.weak hG135)) (i := 26) (by rfl) (by kernel_rfl) ?_
    refine WL.gon rfl rfl rfl ?_
    refine WL.call can25 rfl rfl ((show Calls _ _ #[_] _ _ from told_c (z := z) _ hz hZ29 h33)) ?_
    rintro _ w34 ⟨G160, AJ160, AS160, cj160, cS160, hG160, rfl, hZ160, h34⟩
    refine ⟨_, rfl, ?_⟩
    replace hleF := Le.trans hleF hG160
    replace hR := hR.mono hG160
    replace hl := hl.mono hG160
    replace hZ29 := hZ29.mono hG160
    replace hZ33 := hZ33.mono hG160
    replace hZ39 := hZ39.mono hG160
    replace hZ135 := hZ135.mono hG160
    refine WL.nil (WE.next ?_)
    refine WE.op (.inr (h34.weak (Le.trans hG135 hG160))) (i := 28) (by rfl) (by kernel_rfl) ?_
    refine WL.gon rfl rfl rfl ?_
    refine WL.call can24 rfl rfl (qsame_c _ hz hZ160 hR h34) ?_
    rintro _ w35 ⟨rfl, h35⟩
    refine ⟨_, rfl, ?_⟩
    refine WL.nil (WE.next ?_)
    refine WE.p0 hx 29 (by rfl) (fun w_ => Runs.pick rfl rfl rfl) rfl ?_
    refine WE.p0 hx 30 (by rfl) (fun w_ => Runs.move rfl) rfl ?_
    refine WE.op (.inr (h35.weak (Le.trans hG135 hG160))) (i := 31) (by rfl) (by kernel_rfl) ?_
    refine WL.gon rfl rfl rfl ?_
    refine WL.call can10 rfl rfl (live_c _ h35) ?_
    rintro _ w36 ⟨G165, hG165, rfl, h36⟩
    refine ⟨_, rfl, ?_⟩
    replace hleF := Le.trans hleF hG165
    replace hR := hR.mono hG165
    replace hl := hl.mono hG165
    replace hZ29 := hZ29.mono hG165
    replace hZ33 := hZ33.mono hG165
    replace hZ39 := hZ39.mono hG165
    replace hZ135 := hZ135.mono hG165
    replace hZ160 := hZ160.mono hG165
    refine WL.nil (WE.next ?_)
    refine WE.p0 hx 32 (by rfl) (fun w_ => Runs.pick rfl rfl rfl) rfl ?_
    refine WE.p0 hx 33 (by rfl) (fun w_ => Runs.assign rfl) rfl ?_
    refine WE.fin (.inr (h36.weak (Le.trans (Le.trans hG135 hG160) hG165))) (by kernel_rfl) ?_
    refine WN.thn (WC.ret ?_)
    have h90 := (((((((((h36.drop 0).drop 0).drop 0).drop 0).drop 0).drop 0).drop 0).drop 0).drop 0)
    try simp only [List.eraseIdx_cons_zero] at h90
    exact ret1 rfl rfl ⟨rfl, h90.weak hleF⟩
end Rc
end Go.Proofs.Ythejglgnoingfaa
