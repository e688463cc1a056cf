/- Walks of package node: launch, release, abort, finish. -/
import Derived.Test.YtanlminnobonnaaProg
import Derived.KernelRfl
import Derived.Test.YtanlminnobonnaaMBaseAH
import Derived.Test.YtanlminnobonnaaMN2
namespace Go.Proofs.Ytanlminnobonnaa
open Go Go.RowKit B
set_option linter.unusedVariables false
set_option linter.unusedSimpArgs false
namespace Rc

theorem fld39_1 : fldB Try.prog 39 1 1 = true := by kernel_rfl
theorem fld39_4 : fldB Try.prog 39 4 16 = true := by kernel_rfl
theorem fld39_5 : fldB Try.prog 39 5 17 = true := by kernel_rfl
theorem fld47_0 : fldB Try.prog 47 0 0 = true := by kernel_rfl
theorem fld47_1 : fldB Try.prog 47 1 1 = true := by kernel_rfl
theorem fld47_3 : fldB Try.prog 47 3 3 = true := by kernel_rfl
theorem can32 : B.Can Try.prog 32 := ⟨_, Try.func32, by kernel_rfl, rfl⟩   -- (*roundhouse/node.asked).phase
theorem hasCase (P Q : Prop) : (P ∧ Q) ∨ (P ∧ ¬ Q) ∨ ¬ P := by
  by_cases h : P <;> by_cases h2 : Q <;> simp [h, h2]
set_option maxRecDepth 100000 in
set_option maxHeartbeats 4000000 in
theorem launchA_c {W : World} {F : Snap} {cs : List Res} (w : World) {bx : Nat} {id : Int} {z : Z} {m : M} {Ap : Option Addr} {cp : Nat} {f : Fc} (hX : AK F bx id z m) (hf : RdS (Kd.one Vi) F Ap f.ps) (hfn : f.ps.length ≤ 100000) (h : St W F cs w) : Calls Try.prog 29 #[.pointer (some ⟨bx, 0, none⟩), .agg #[Vi f.cr, .slice Ap f.ps.length cp, Vi f.cd, .bool f.bz]] w fun e w' => GivesA W F cs (launchA id z m f) e w'  := by
  refine enter (P := Try.prog) (args := [.pointer (some ⟨bx, 0, none⟩), .agg #[Vi f.cr, .slice Ap f.ps.length cp, Vi f.cd, .bool f.bz]]) Try.func29 rfl rfl rfl ?_
  have hX0 := hX
  obtain ⟨AJ, AS, cj, cS, A1, c1, hfzx, hZ, hps⟩ := hX
  have hleF := Le.refl F
  refine WC.seq (WC.reg ?_)
  refine WL.box rfl h rfl ?_
  intro b3 w1 h1
  refine WL.alloc' rfl h1 inf39 ?_
  intro b4 w2 h2
  refine WL.nil (WN.thn (WC.seq (WC.block (WC.seq (WC.reg ?_)))))
  refine WL.v (Runs.move rfl) rfl ?_
  refine WL.call can32 rfl rfl (phase_c _ hX0 2 h2) ?_
  rintro _ w3 ⟨rfl, h3⟩
  refine ⟨_, rfl, ?_⟩
  refine WL.v (Runs.assign rfl) rfl ?_
  refine WL.nil (WN.thn ?_)
  refine WC.cond rfl (fun c4 => ?_) (fun c4 => ?_)
  · try simp only [dt, df, nt, nf, ba, il, ie] at c4
    first
    | (exfalso; omega)
    | skip
      refine WC.seq (WC.reg ?_)
      refine WL.v (Runs.move rfl) rfl ?_
      refine WL.v (Runs.build (vs := []) (cells := #[.bool false, Vi 0, Vi 0, Vi 0, Vi 0, Vi 0, .slice none 0 0, .bool false, Vi 0, Vi 0, Vi 0, Vi 0, Vi 0, Vi 0, Vi 0, .string ⟨#[]⟩, .bool false, .bool false, .bool false]) rfl (by kernel_rfl)) rfl ?_
      refine WL.call can45 rfl rfl ((show Calls _ _ #[_, .agg (acv none 0 A0), _, _] _ _ from answer_c _ hX0 (a := A0) 3 0 h3)) ?_
      rintro _ w5 ⟨rfl, h5⟩
      refine ⟨_, rfl, ?_⟩
      refine WL.storeAll h5 0 rfl rfl rfl inf39 rfl rfl rfl (Free.zero _) ?_
      intro  w6 h6
      try simp only [lz, ls, ez, es'] at h6
      refine WL.nil (WN.thn (WC.ret ?_))
      have hv : launchA id z m f = anM id m A0 3 0 := by unfold launchA; rw [if_pos c4]
      refine retA rfl (ResOk.blk h6 0 rfl Try.underlying39 rfl inf39 rfl rfl) ⟨F, none, 0, Le.refl F, by rw [hv] <;> rfl, by rw [hv]; exact .inl rfl, ((h6.drop 0).drop 0)⟩
  · try simp only [dt, df, nt, nf, ba, il, ie] at c4
    first
    | (exfalso; omega)
    | skip
      refine WC.seq (WC.reg ?_)
      refine WL.v (Runs.move rfl) rfl ?_
      refine WL.v (Runs.nilCheckP rfl) rfl ?_
      refine WL.v (Runs.fld fld85_6 rfl) rfl ?_
      refine WL.v (Runs.load1 Try.underlying4 rfl rfl (h3.cell (cellB hfzx rfl))) rfl ?_
      refine WL.v (Runs.assign rfl) rfl ?_
      refine WL.nil (WN.thn ?_)
      refine WC.cond rfl (fun c7 => ?_) (fun c7 => ?_)
      · try simp only [dt, df, nt, nf, ba, il, ie] at c7
        first
        | (exfalso; omega)
        | skip
          refine WC.seq (WC.reg ?_)
          refine WL.v (Runs.move rfl) rfl ?_
          refine WL.v (Runs.build (vs := []) (cells := #[.bool false, Vi 0, Vi 0, Vi 0, Vi 0, Vi 0, .slice none 0 0, .bool false, Vi 0, Vi 0, Vi 0, Vi 0, Vi 0, Vi 0, Vi 0, .string ⟨#[]⟩, .bool false, .bool false, .bool false]) rfl (by kernel_rfl)) rfl ?_
          refine WL.call can45 rfl rfl ((show Calls _ _ #[_, .agg (acv none 0 A0), _, _] _ _ from answer_c _ hX0 (a := A0) 3 1 h3)) ?_
          rintro _ w8 ⟨rfl, h8⟩
          refine ⟨_, rfl, ?_⟩
          refine WL.storeAll h8 0 rfl rfl rfl inf39 rfl rfl rfl (Free.zero _) ?_
          intro  w9 h9
          try simp only [lz, ls, ez, es'] at h9
          refine WL.nil (WN.thn (WC.ret ?_))
          have hv : launchA id z m f = anM id m A0 3 1 := by unfold launchA; rw [if_neg (by rw [c4]; decide), if_pos (show hasS z m = true from c7)]
          refine retA rfl (ResOk.blk h9 0 rfl Try.underlying39 rfl inf39 rfl rfl) ⟨F, none, 0, Le.refl F, by rw [hv] <;> rfl, by rw [hv]; exact .inl rfl, ((h9.drop 0).drop 0)⟩
      · try simp only [dt, df, nt, nf, ba, il, ie] at c7
        first
        | (exfalso; omega)
        | skip
          refine WC.seq ?_
          rcases three (upB z m = true) (f.cr = 0) (¬ f.ps.length = 0) with g0 | ⟨g0, g1⟩ | ⟨g0, g1, g2⟩ | ⟨g0, g1, g2⟩
          · skip
            refine WC.reg ?_
            refine WL.v (Runs.move rfl) rfl ?_
            refine WL.call can39 rfl rfl (up_c _ hX0 h3) ?_
            rintro _ w10 ⟨rfl, h10⟩
            refine ⟨_, rfl, ?_⟩
            refine WL.v (Runs.not rfl) rfl ?_
            refine WL.v (Runs.boolT (c := true) (Runs.move rfl) (by rw [Bool.eq_false_iff.2 g0]; rfl)) rfl ?_
            refine WL.goff rfl rfl rfl rfl ?_
            refine WL.goff rfl rfl rfl rfl ?_
            refine WL.goff rfl rfl rfl rfl ?_
            refine WL.v (Runs.pick rfl rfl rfl) rfl ?_
            refine WL.v (Runs.move rfl) rfl ?_
            refine WL.goff rfl rfl rfl rfl ?_
            refine WL.goff rfl rfl rfl rfl ?_
            refine WL.goff rfl rfl rfl rfl ?_
            refine WL.goff rfl rfl rfl rfl ?_
            refine WL.v (Runs.pick rfl rfl rfl) rfl ?_
            refine WL.v (Runs.assign rfl) rfl ?_
            refine WL.nil (WN.thn ?_)
            refine WC.condT rfl (rfl) ?_
            refine WC.seq (WC.reg ?_)
            refine WL.v (Runs.move rfl) rfl ?_
            refine WL.v (Runs.build (vs := []) (cells := #[.bool false, Vi 0, Vi 0, Vi 0, Vi 0, Vi 0, .slice none 0 0, .bool false, Vi 0, Vi 0, Vi 0, Vi 0, Vi 0, Vi 0, Vi 0, .string ⟨#[]⟩, .bool false, .bool false, .bool false]) rfl (by kernel_rfl)) rfl ?_
            refine WL.call can45 rfl rfl ((show Calls _ _ #[_, .agg (acv none 0 A0), _, _] _ _ from answer_c _ hX0 (a := A0) 3 0 h10)) ?_
            rintro _ w11 ⟨rfl, h11⟩
            refine ⟨_, rfl, ?_⟩
            refine WL.storeAll h11 0 rfl rfl rfl inf39 rfl rfl rfl (Free.zero _) ?_
            intro  w12 h12
            try simp only [lz, ls, ez, es'] at h12
            refine WL.nil (WN.thn (WC.ret ?_))
            have hv : launchA id z m f = anM id m A0 3 0 := by unfold launchA; rw [if_neg (by rw [c4]; decide), if_neg (by rw [show hasS z m = false from c7]; decide), if_pos (.inl (Bool.eq_false_iff.2 g0))]
            refine retA rfl (ResOk.blk h12 0 rfl Try.underlying39 rfl inf39 rfl rfl) ⟨F, none, 0, Le.refl F, by rw [hv] <;> rfl, by rw [hv]; exact .inl rfl, ((h12.drop 0).drop 0)⟩
          · skip
            refine WC.reg ?_
            refine WL.v (Runs.move rfl) rfl ?_
            refine WL.call can39 rfl rfl (up_c _ hX0 h3) ?_
            rintro _ w13 ⟨rfl, h13⟩
            refine ⟨_, rfl, ?_⟩
            refine WL.v (Runs.not rfl) rfl ?_
            refine WL.v (Runs.boolT (c := false) (Runs.move rfl) (by rw [g0]; rfl)) rfl ?_
            refine WL.gon rfl rfl rfl ?_
            refine WL.v (Runs.fld fld47_0 rfl) rfl ?_
            refine WL.gon rfl rfl rfl ?_
            refine WL.v (Runs.load1 Try.underlying28 rfl rfl (h13.ocell (i := 1) rfl rfl)) rfl ?_
            refine WL.gon rfl rfl rfl ?_
            refine WL.v (Runs.boolT (c := true) (Runs.neq rfl rfl) (by rw [decide_eq_false g1]; rfl)) rfl ?_
            refine WL.v (Runs.pick rfl rfl rfl) rfl ?_
            refine WL.v (Runs.move rfl) rfl ?_
            refine WL.goff rfl rfl rfl rfl ?_
            refine WL.goff rfl rfl rfl rfl ?_
            refine WL.goff rfl rfl rfl rfl ?_
            refine WL.goff rfl rfl rfl rfl ?_
            refine WL.v (Runs.pick rfl rfl rfl) rfl ?_
            refine WL.v (Runs.assign rfl) rfl ?_
            refine WL.nil (WN.thn ?_)
            refine WC.condT rfl (rfl) ?_
            refine WC.seq (WC.reg ?_)
            refine WL.v (Runs.move rfl) rfl ?_
            refine WL.v (Runs.build (vs := []) (cells := #[.bool false, Vi 0, Vi 0, Vi 0, Vi 0, Vi 0, .slice none 0 0, .bool false, Vi 0, Vi 0, Vi 0, Vi 0, Vi 0, Vi 0, Vi 0, .string ⟨#[]⟩, .bool false, .bool false, .bool false]) rfl (by kernel_rfl)) rfl ?_
            refine WL.call can45 rfl rfl ((show Calls _ _ #[_, .agg (acv none 0 A0), _, _] _ _ from answer_c _ hX0 (a := A0) 3 0 h13)) ?_
            rintro _ w14 ⟨rfl, h14⟩
            refine ⟨_, rfl, ?_⟩
            refine WL.storeAll h14 0 rfl rfl rfl inf39 rfl rfl rfl (Free.zero _) ?_
            intro  w15 h15
            try simp only [lz, ls, ez, es'] at h15
            refine WL.nil (WN.thn (WC.ret ?_))
            have hv : launchA id z m f = anM id m A0 3 0 := by unfold launchA; rw [if_neg (by rw [c4]; decide), if_neg (by rw [show hasS z m = false from c7]; decide), if_pos (.inr (.inl g1))]
            refine retA rfl (ResOk.blk h15 0 rfl Try.underlying39 rfl inf39 rfl rfl) ⟨F, none, 0, Le.refl F, by rw [hv] <;> rfl, by rw [hv]; exact .inl rfl, ((h15.drop 0).drop 0)⟩
          · skip
            refine WC.reg ?_
            refine WL.v (Runs.move rfl) rfl ?_
            refine WL.call can39 rfl rfl (up_c _ hX0 h3) ?_
            rintro _ w16 ⟨rfl, h16⟩
            refine ⟨_, rfl, ?_⟩
            refine WL.v (Runs.not rfl) rfl ?_
            refine WL.v (Runs.boolT (c := false) (Runs.move rfl) (by rw [g0]; rfl)) rfl ?_
            refine WL.gon rfl rfl rfl ?_
            refine WL.v (Runs.fld fld47_0 rfl) rfl ?_
            refine WL.gon rfl rfl rfl ?_
            refine WL.v (Runs.load1 Try.underlying28 rfl rfl (h16.ocell (i := 1) rfl rfl)) rfl ?_
            refine WL.gon rfl rfl rfl ?_
            refine WL.v (Runs.boolT (c := false) (Runs.neq rfl rfl) (by rw [decide_eq_true g1]; rfl)) rfl ?_
            refine WL.v (Runs.pick rfl rfl rfl) rfl ?_
            refine WL.v (Runs.move rfl) rfl ?_
            refine WL.gon rfl rfl rfl ?_
            refine WL.v (Runs.fld fld47_1 rfl) rfl ?_
            refine WL.gon rfl rfl rfl ?_
            refine WL.v (Runs.load1 Try.underlying29 rfl rfl (h16.ocell (i := 1) rfl rfl)) rfl ?_
            refine WL.gon rfl rfl rfl ?_
            refine WL.v (Runs.llen Try.underlying29 rfl rfl) rfl ?_
            refine WL.gon rfl rfl rfl ?_
            refine WL.v (Runs.boolT (c := true) (Runs.eql rfl rfl) (by rw [decide_eq_true_eq]; omega)) rfl ?_
            refine WL.v (Runs.pick rfl rfl rfl) rfl ?_
            refine WL.v (Runs.assign rfl) rfl ?_
            refine WL.nil (WN.thn ?_)
            refine WC.condT rfl (rfl) ?_
            refine WC.seq (WC.reg ?_)
            refine WL.v (Runs.move rfl) rfl ?_
            refine WL.v (Runs.build (vs := []) (cells := #[.bool false, Vi 0, Vi 0, Vi 0, Vi 0, Vi 0, .slice none 0 0, .bool false, Vi 0, Vi 0, Vi 0, Vi 0, Vi 0, Vi 0, Vi 0, .string ⟨#[]⟩, .bool false, .bool false, .bool false]) rfl (by kernel_rfl)) rfl ?_
            refine WL.call can45 rfl rfl ((show Calls _ _ #[_, .agg (acv none 0 A0), _, _] _ _ from answer_c _ hX0 (a := A0) 3 0 h16)) ?_
            rintro _ w17 ⟨rfl, h17⟩
            refine ⟨_, rfl, ?_⟩
            refine WL.storeAll h17 0 rfl rfl rfl inf39 rfl rfl rfl (Free.zero _) ?_
            intro  w18 h18
            try simp only [lz, ls, ez, es'] at h18
            refine WL.nil (WN.thn (WC.ret ?_))
            have hv : launchA id z m f = anM id m A0 3 0 := by unfold launchA; rw [if_neg (by rw [c4]; decide), if_neg (by rw [show hasS z m = false from c7]; decide), if_pos (.inr (.inr (Classical.not_not.1 g2)))]
            refine retA rfl (ResOk.blk h18 0 rfl Try.underlying39 rfl inf39 rfl rfl) ⟨F, none, 0, Le.refl F, by rw [hv] <;> rfl, by rw [hv]; exact .inl rfl, ((h18.drop 0).drop 0)⟩
          · skip
            refine WC.reg ?_
            refine WL.v (Runs.move rfl) rfl ?_
            refine WL.call can39 rfl rfl (up_c _ hX0 h3) ?_
            rintro _ w19 ⟨rfl, h19⟩
            refine ⟨_, rfl, ?_⟩
            refine WL.v (Runs.not rfl) rfl ?_
            refine WL.v (Runs.boolT (c := false) (Runs.move rfl) (by rw [g0]; rfl)) rfl ?_
            refine WL.gon rfl rfl rfl ?_
            refine WL.v (Runs.fld fld47_0 rfl) rfl ?_
            refine WL.gon rfl rfl rfl ?_
            refine WL.v (Runs.load1 Try.underlying28 rfl rfl (h19.ocell (i := 1) rfl rfl)) rfl ?_
            refine WL.gon rfl rfl rfl ?_
            refine WL.v (Runs.boolT (c := false) (Runs.neq rfl rfl) (by rw [decide_eq_true g1]; rfl)) rfl ?_
            refine WL.v (Runs.pick rfl rfl rfl) rfl ?_
            refine WL.v (Runs.move rfl) rfl ?_
            refine WL.gon rfl rfl rfl ?_
            refine WL.v (Runs.fld fld47_1 rfl) rfl ?_
            refine WL.gon rfl rfl rfl ?_
            refine WL.v (Runs.load1 Try.underlying29 rfl rfl (h19.ocell (i := 1) rfl rfl)) rfl ?_
            refine WL.gon rfl rfl rfl ?_
            refine WL.v (Runs.llen Try.underlying29 rfl rfl) rfl ?_
            refine WL.gon rfl rfl rfl ?_
            refine WL.v (Runs.boolT (c := false) (Runs.eql rfl rfl) (by rw [decide_eq_false_iff_not]; omega)) rfl ?_
            refine WL.v (Runs.pick rfl rfl rfl) rfl ?_
            refine WL.v (Runs.assign rfl) rfl ?_
            refine WL.nil (WN.thn ?_)
            refine WC.condF rfl (rfl) ?_
            refine WC.skip (WN.blk (WN.thn (WC.seq (WC.reg ?_))))
            refine WL.v (Runs.move rfl) rfl ?_
            refine WL.call can46 rfl rfl (write_c _ hX0 1 0 h19) ?_
            rintro _ w20 ⟨rfl, h20⟩
            refine ⟨_, rfl, ?_⟩
            refine WL.alloc' rfl h20 inf39 ?_
            intro b5 w21 h21
            refine WL.storeAll h21 0 rfl rfl rfl inf39 rfl rfl rfl (Free.zero _) ?_
            intro  w22 h22
            try simp only [lz, ls, ez, es'] at h22
            refine WL.nil (WN.thn (WC.seq (WC.reg ?_)))
            refine WL.v (Runs.fld fld47_1 rfl) rfl ?_
            refine WL.v (Runs.load1 Try.underlying29 rfl rfl (h22.ocell (i := 2) rfl rfl)) rfl ?_
            refine WL.call can57 rfl rfl (cloneI_c _ h22 hf hfn) ?_
            rintro _ w23 ⟨G23, A23, cap23, hG23, rfl, hcap23, hrd23, h23⟩
            refine ⟨_, rfl, ?_⟩
            replace hleF := Le.trans hleF hG23
            replace hX0 := hX0.mono hG23
            replace hfzx := hG23 _ _ hfzx
            refine WL.v (Runs.fld fld39_1 rfl) rfl ?_
            refine WL.v (Runs.fld fld37_5 rfl) rfl ?_
            refine WL.store' h23 0 rfl rfl rfl inf29 rfl rfl (Free.zero _) (Nat.le_of_ble_eq_true rfl) ?_
            intro  w24 h24
            try simp only [lz, ls, ez, es'] at h24
            refine WL.nil (WN.thn (WC.seq (WC.reg ?_)))
            refine WL.v (Runs.move rfl) rfl ?_
            refine WL.v (Runs.loadAll h24 0 rfl Try.underlying39 rfl inf39 rfl rfl) rfl ?_
            refine WL.call can45 rfl rfl ((show Calls _ _ #[_, .agg (acv A23 cap23 { wrM m 1 0 with rc := { (wrM m 1 0).rc with ls := f.ps } }), _, _] _ _ from answer_c _ hX0 (a := { wrM m 1 0 with rc := { (wrM m 1 0).rc with ls := f.ps } }) 3 1 h24)) ?_
            rintro _ w25 ⟨rfl, h25⟩
            refine ⟨_, rfl, ?_⟩
            refine WL.storeAll h25 1 rfl rfl rfl inf39 rfl rfl rfl (Free.zero _) ?_
            intro  w26 h26
            try simp only [lz, ls, ez, es'] at h26
            refine WL.nil (WN.thn (WC.ret ?_))
            have hv : launchA id z m f = anM id m { wrM m 1 0 with rc := { (wrM m 1 0).rc with ls := f.ps } } 3 1 := by unfold launchA; rw [if_neg (by rw [c4]; decide), if_neg (by rw [show hasS z m = false from c7]; decide), if_neg (by rintro (hh | hh | hh); rw [g0] at hh; cases hh; exact hh g1; exact g2 hh)]
            refine retA rfl (ResOk.blk h26 1 rfl Try.underlying39 rfl inf39 rfl rfl) ⟨_, A23, cap23, hleF, by rw [hv] <;> rfl, by rw [hv]; exact hrd23, (((h26.drop 0).drop 0).drop 0)⟩
set_option maxRecDepth 100000 in
set_option maxHeartbeats 4000000 in
theorem releaseA_c {W : World} {F : Snap} {cs : List Res} (w : World) {bx : Nat} {id : Int} {z : Z} {m : M} (hX : AK F bx id z m) (h : St W F cs w) : Calls Try.prog 30 #[.pointer (some ⟨bx, 0, none⟩)] w fun e w' => GivesA W F cs (releaseA id z m) e w'  := by
  refine enter (P := Try.prog) (args := [.pointer (some ⟨bx, 0, none⟩)]) Try.func30 rfl rfl rfl ?_
  have hX0 := hX
  obtain ⟨AJ, AS, cj, cS, A1, c1, hfzx, hZ, hps⟩ := hX
  refine WC.seq (WC.reg ?_)
  refine WL.alloc' rfl h inf39 ?_
  intro b2 w1 h1
  refine WL.nil (WN.thn (WC.seq (WC.block (WC.seq (WC.reg ?_)))))
  refine WL.v (Runs.move rfl) rfl ?_
  refine WL.call can32 rfl rfl (phase_c _ hX0 0 h1) ?_
  rintro _ w2 ⟨rfl, h2⟩
  refine ⟨_, rfl, ?_⟩
  refine WL.v (Runs.assign rfl) rfl ?_
  refine WL.nil (WN.thn ?_)
  refine WC.cond rfl (fun c3 => ?_) (fun c3 => ?_)
  · try simp only [dt, df, nt, nf, ba, il, ie] at c3
    first
    | (exfalso; omega)
    | skip
      refine WC.seq (WC.reg ?_)
      refine WL.v (Runs.move rfl) rfl ?_
      refine WL.call can46 rfl rfl (write_c _ hX0 3 0 h2) ?_
      rintro _ w4 ⟨rfl, h4⟩
      refine ⟨_, rfl, ?_⟩
      refine WL.alloc' rfl h4 inf39 ?_
      intro b3 w5 h5
      refine WL.storeAll h5 0 rfl rfl rfl inf39 rfl rfl rfl (Free.zero _) ?_
      intro  w6 h6
      try simp only [lz, ls, ez, es'] at h6
      refine WL.nil (WN.thn (WC.seq (WC.reg ?_)))
      refine WL.v (Runs.fld fld39_4 rfl) rfl ?_
      refine WL.store' h6 0 rfl rfl rfl inf4 rfl rfl (Free.zero _) (Nat.le_of_ble_eq_true rfl) ?_
      intro  w7 h7
      try simp only [lz, ls, ez, es'] at h7
      refine WL.nil (WN.thn (WC.seq (WC.reg ?_)))
      refine WL.v (Runs.loadAll h7 0 rfl Try.underlying39 rfl inf39 rfl rfl) rfl ?_
      refine WL.storeAll h7 1 rfl rfl rfl inf39 rfl rfl rfl (Free.zero _) ?_
      intro  w8 h8
      try simp only [lz, ls, ez, es'] at h8
      refine WL.nil (WN.thn (WC.ret ?_))
      have hv : releaseA id z m = { wrM m 3 0 with sta := true } := by unfold releaseA; rw [if_pos c3]
      refine retA rfl (ResOk.blk h8 1 rfl Try.underlying39 rfl inf39 rfl rfl) ⟨F, none, 0, Le.refl F, by rw [hv] <;> rfl, by rw [hv]; exact .inl rfl, ((h8.drop 0).drop 0)⟩
  · try simp only [dt, df, nt, nf, ba, il, ie] at c3
    first
    | (exfalso; omega)
    | skip
      refine WC.seq (WC.reg ?_)
      refine WL.v (Runs.move rfl) rfl ?_
      refine WL.call can32 rfl rfl (phase_c _ hX0 3 h2) ?_
      rintro _ w9 ⟨rfl, h9⟩
      refine ⟨_, rfl, ?_⟩
      refine WL.v (Runs.assign rfl) rfl ?_
      refine WL.nil (WN.thn ?_)
      refine WC.cond rfl (fun c10 => ?_) (fun c10 => ?_)
      · try simp only [dt, df, nt, nf, ba, il, ie] at c10
        first
        | (exfalso; omega)
        | skip
          refine WC.seq (WC.reg ?_)
          refine WL.v (Runs.move rfl) rfl ?_
          refine WL.v (Runs.build (vs := []) (cells := #[.bool false, Vi 0, Vi 0, Vi 0, Vi 0, Vi 0, .slice none 0 0, .bool false, Vi 0, Vi 0, Vi 0, Vi 0, Vi 0, Vi 0, Vi 0, .string ⟨#[]⟩, .bool false, .bool false, .bool false]) rfl (by kernel_rfl)) rfl ?_
          refine WL.v (Runs.move rfl) rfl ?_
          refine WL.v (Runs.nilCheckP rfl) rfl ?_
          refine WL.v (Runs.fld fld85_5 rfl) rfl ?_
          refine WL.v (Runs.fld fld80_4 rfl) rfl ?_
          refine WL.v (Runs.load1 Try.underlying3 rfl rfl (h9.cell (cellB hfzx rfl))) rfl ?_
          refine WL.call can45 rfl rfl ((show Calls _ _ #[_, .agg (acv none 0 A0), _, _] _ _ from answer_c _ hX0 (a := A0) 6 (stepM z m.jb m.ep m.st).1.cd h9)) ?_
          rintro _ w11 ⟨rfl, h11⟩
          refine ⟨_, rfl, ?_⟩
          refine WL.storeAll h11 0 rfl rfl rfl inf39 rfl rfl rfl (Free.zero _) ?_
          intro  w12 h12
          try simp only [lz, ls, ez, es'] at h12
          refine WL.nil (WN.thn (WC.ret ?_))
          have hv : releaseA id z m = anM id m A0 6 (stepM z m.jb m.ep m.st).1.cd := by unfold releaseA; rw [if_neg (by rw [c3]; decide), if_pos c10]
          refine retA rfl (ResOk.blk h12 0 rfl Try.underlying39 rfl inf39 rfl rfl) ⟨F, none, 0, Le.refl F, by rw [hv] <;> rfl, by rw [hv]; exact .inl rfl, (h12.drop 0)⟩
      · try simp only [dt, df, nt, nf, ba, il, ie] at c10
        first
        | (exfalso; omega)
        | skip
          refine WC.skip (WN.blk (WN.thn (WC.seq (WC.reg ?_))))
          refine WL.v (Runs.build (vs := []) (cells := #[.bool false, Vi 0, Vi 0, Vi 0, Vi 0, Vi 0, .slice none 0 0, .bool false, Vi 0, Vi 0, Vi 0, Vi 0, Vi 0, Vi 0, Vi 0, .string ⟨#[]⟩, .bool false, .bool false, .bool false]) rfl (by kernel_rfl)) rfl ?_
          refine WL.storeAll h9 0 rfl rfl rfl inf39 rfl rfl rfl (Free.zero _) ?_
          intro  w13 h13
          try simp only [lz, ls, ez, es'] at h13
          refine WL.nil (WN.thn (WC.ret ?_))
          have hv : releaseA id z m = A0 := by unfold releaseA; rw [if_neg (by rw [c3]; decide), if_neg (by rw [c10]; decide)]
          refine retA rfl (ResOk.blk h13 0 rfl Try.underlying39 rfl inf39 rfl rfl) ⟨F, none, 0, Le.refl F, by rw [hv] <;> rfl, by rw [hv]; exact .inl rfl, (h13.drop 0)⟩
set_option maxRecDepth 100000 in
set_option maxHeartbeats 4000000 in
theorem abortA_c {W : World} {F : Snap} {cs : List Res} (w : World) {bx : Nat} {id : Int} {z : Z} {m : M} (hX : AK F bx id z m) (h : St W F cs w) : Calls Try.prog 31 #[.pointer (some ⟨bx, 0, none⟩)] w fun e w' => GivesA W F cs (abortA z m) e w'  := by
  refine enter (P := Try.prog) (args := [.pointer (some ⟨bx, 0, none⟩)]) Try.func31 rfl rfl rfl ?_
  have hX0 := hX
  obtain ⟨AJ, AS, cj, cS, A1, c1, hfzx, hZ, hps⟩ := hX
  refine WC.seq (WC.reg ?_)
  refine WL.alloc' rfl h inf39 ?_
  intro b2 w1 h1
  refine WL.nil (WN.thn (WC.seq (WC.block (WC.seq (WC.reg ?_)))))
  refine WL.v (Runs.move rfl) rfl ?_
  refine WL.call can32 rfl rfl (phase_c _ hX0 0 h1) ?_
  rintro _ w2 ⟨rfl, h2⟩
  refine ⟨_, rfl, ?_⟩
  refine WL.v (Runs.assign rfl) rfl ?_
  refine WL.nil (WN.thn ?_)
  refine WC.cond rfl (fun c3 => ?_) (fun c3 => ?_)
  · try simp only [dt, df, nt, nf, ba, il, ie] at c3
    first
    | (exfalso; omega)
    | skip
      refine WC.seq (WC.reg ?_)
      refine WL.v (Runs.move rfl) rfl ?_
      refine WL.call can46 rfl rfl (write_c _ hX0 4 0 h2) ?_
      rintro _ w4 ⟨rfl, h4⟩
      refine ⟨_, rfl, ?_⟩
      refine WL.alloc' rfl h4 inf39 ?_
      intro b3 w5 h5
      refine WL.storeAll h5 0 rfl rfl rfl inf39 rfl rfl rfl (Free.zero _) ?_
      intro  w6 h6
      try simp only [lz, ls, ez, es'] at h6
      refine WL.nil (WN.thn (WC.seq (WC.reg ?_)))
      refine WL.v (Runs.fld fld39_5 rfl) rfl ?_
      refine WL.store' h6 0 rfl rfl rfl inf4 rfl rfl (Free.zero _) (Nat.le_of_ble_eq_true rfl) ?_
      intro  w7 h7
      try simp only [lz, ls, ez, es'] at h7
      refine WL.nil (WN.thn (WC.seq (WC.reg ?_)))
      refine WL.v (Runs.loadAll h7 0 rfl Try.underlying39 rfl inf39 rfl rfl) rfl ?_
      refine WL.storeAll h7 1 rfl rfl rfl inf39 rfl rfl rfl (Free.zero _) ?_
      intro  w8 h8
      try simp only [lz, ls, ez, es'] at h8
      refine WL.nil (WN.thn (WC.ret ?_))
      have hv : abortA z m = { wrM m 4 0 with kil := true } := by unfold abortA; rw [if_pos c3]
      refine retA rfl (ResOk.blk h8 1 rfl Try.underlying39 rfl inf39 rfl rfl) ⟨F, none, 0, Le.refl F, by rw [hv] <;> rfl, by rw [hv]; exact .inl rfl, ((h8.drop 0).drop 0)⟩
  · try simp only [dt, df, nt, nf, ba, il, ie] at c3
    first
    | (exfalso; omega)
    | skip
      refine WC.seq ?_
      rcases Bool.eq_false_or_eq_true (hasS z m) with g0 | g0
      · skip
        refine WC.reg ?_
        refine WL.v (Runs.move rfl) rfl ?_
        refine WL.v (Runs.nilCheckP rfl) rfl ?_
        refine WL.v (Runs.fld fld85_6 rfl) rfl ?_
        refine WL.v (Runs.boolT (c := true) (Runs.load1 Try.underlying4 rfl rfl (h2.cell (cellB hfzx rfl))) g0) rfl ?_
        refine WL.v (Runs.not rfl) rfl ?_
        refine WL.v (Runs.move rfl) rfl ?_
        refine WL.goff rfl rfl rfl rfl ?_
        refine WL.goff rfl rfl rfl rfl ?_
        refine WL.v (Runs.pick rfl rfl rfl) rfl ?_
        refine WL.v (Runs.assign rfl) rfl ?_
        refine WL.nil (WN.thn ?_)
        refine WC.condF rfl (rfl) ?_
        refine WC.skip (WN.blk (WN.thn (WC.seq (WC.reg ?_))))
        refine WL.v (Runs.build (vs := []) (cells := #[.bool false, Vi 0, Vi 0, Vi 0, Vi 0, Vi 0, .slice none 0 0, .bool false, Vi 0, Vi 0, Vi 0, Vi 0, Vi 0, Vi 0, Vi 0, .string ⟨#[]⟩, .bool false, .bool false, .bool false]) rfl (by kernel_rfl)) rfl ?_
        refine WL.storeAll h2 0 rfl rfl rfl inf39 rfl rfl rfl (Free.zero _) ?_
        intro  w9 h9
        try simp only [lz, ls, ez, es'] at h9
        refine WL.nil (WN.thn (WC.ret ?_))
        have hv : abortA z m = A0 := by unfold abortA; rw [if_neg (by rw [c3]; decide), if_neg (by rw [g0]; simp)]
        refine retA rfl (ResOk.blk h9 0 rfl Try.underlying39 rfl inf39 rfl rfl) ⟨F, none, 0, Le.refl F, by rw [hv] <;> rfl, by rw [hv]; exact .inl rfl, (h9.drop 0)⟩
      · skip
        refine WC.reg ?_
        refine WL.v (Runs.move rfl) rfl ?_
        refine WL.v (Runs.nilCheckP rfl) rfl ?_
        refine WL.v (Runs.fld fld85_6 rfl) rfl ?_
        refine WL.v (Runs.boolT (c := false) (Runs.load1 Try.underlying4 rfl rfl (h2.cell (cellB hfzx rfl))) g0) rfl ?_
        refine WL.v (Runs.not rfl) rfl ?_
        refine WL.v (Runs.move rfl) rfl ?_
        refine WL.gon rfl rfl rfl ?_
        refine WL.v (Runs.move rfl) rfl ?_
        refine WL.gon rfl rfl rfl ?_
        refine WL.call can39 rfl rfl (up_c _ hX0 h2) ?_
        rintro _ w10 ⟨rfl, h10⟩
        refine ⟨_, rfl, ?_⟩
        refine WL.v (Runs.pick rfl rfl rfl) rfl ?_
        refine WL.v (Runs.assign rfl) rfl ?_
        refine WL.nil (WN.thn ?_)
        refine WC.cond rfl (fun c11 => ?_) (fun c11 => ?_)
        · try simp only [dt, df, nt, nf, ba, il, ie] at c11
          first
          | (exfalso; omega)
          | skip
            refine WC.seq (WC.reg ?_)
            refine WL.v (Runs.move rfl) rfl ?_
            refine WL.call can46 rfl rfl (write_c _ hX0 2 0 h10) ?_
            rintro _ w12 ⟨rfl, h12⟩
            refine ⟨_, rfl, ?_⟩
            refine WL.storeAll h12 0 rfl rfl rfl inf39 rfl rfl rfl (Free.zero _) ?_
            intro  w13 h13
            try simp only [lz, ls, ez, es'] at h13
            refine WL.nil (WN.thn (WC.ret ?_))
            have hv : abortA z m = wrM m 2 0 := by unfold abortA; rw [if_neg (by rw [c3]; decide), if_pos (by rw [g0, c11]; rfl)]
            refine retA rfl (ResOk.blk h13 0 rfl Try.underlying39 rfl inf39 rfl rfl) ⟨F, none, 0, Le.refl F, by rw [hv] <;> rfl, by rw [hv]; exact .inl rfl, (h13.drop 0)⟩
        · try simp only [dt, df, nt, nf, ba, il, ie] at c11
          first
          | (exfalso; omega)
          | skip
            refine WC.skip (WN.blk (WN.thn (WC.seq (WC.reg ?_))))
            refine WL.v (Runs.build (vs := []) (cells := #[.bool false, Vi 0, Vi 0, Vi 0, Vi 0, Vi 0, .slice none 0 0, .bool false, Vi 0, Vi 0, Vi 0, Vi 0, Vi 0, Vi 0, Vi 0, .string ⟨#[]⟩, .bool false, .bool false, .bool false]) rfl (by kernel_rfl)) rfl ?_
            refine WL.storeAll h10 0 rfl rfl rfl inf39 rfl rfl rfl (Free.zero _) ?_
            intro  w14 h14
            try simp only [lz, ls, ez, es'] at h14
            refine WL.nil (WN.thn (WC.ret ?_))
            have hv : abortA z m = A0 := by unfold abortA; rw [if_neg (by rw [c3]; decide), if_neg (by rw [g0, c11]; decide)]
            refine retA rfl (ResOk.blk h14 0 rfl Try.underlying39 rfl inf39 rfl rfl) ⟨F, none, 0, Le.refl F, by rw [hv] <;> rfl, by rw [hv]; exact .inl rfl, (h14.drop 0)⟩
set_option maxRecDepth 100000 in
set_option maxHeartbeats 4000000 in
theorem finishA_c {W : World} {F : Snap} {cs : List Res} (w : World) {bx : Nat} {id : Int} {z : Z} {m : M} {Ap : Option Addr} {cp : Nat} {f : Fc} (hX : AK F bx id z m) (hz : few z) (h : St W F cs w) : Calls Try.prog 33 #[.pointer (some ⟨bx, 0, none⟩), .agg #[Vi f.cr, .slice Ap f.ps.length cp, Vi f.cd, .bool f.bz]] w fun e w' => GivesA W F cs (finishA id z m f) e w'  := by
  refine enter (P := Try.prog) (args := [.pointer (some ⟨bx, 0, none⟩), .agg #[Vi f.cr, .slice Ap f.ps.length cp, Vi f.cd, .bool f.bz]]) Try.func33 rfl rfl rfl ?_
  have hX0 := hX
  obtain ⟨AJ, AS, cj, cS, A1, c1, hfzx, hZ, hps⟩ := hX
  refine WC.seq (WC.reg ?_)
  refine WL.box rfl h rfl ?_
  intro b3 w1 h1
  refine WL.alloc' rfl h1 inf39 ?_
  intro b4 w2 h2
  refine WL.nil (WN.thn (WC.seq (WC.block (WC.seq ?_))))
  rcases hasCase (hasJ z m = true) (phJ z m = 2) with ⟨p0, p1⟩ | ⟨p0, p1⟩ | p0
  · skip
    refine WC.reg ?_
    refine WL.v (Runs.move rfl) rfl ?_
    refine WL.v (Runs.nilCheckP rfl) rfl ?_
    refine WL.v (Runs.fld fld85_4 rfl) rfl ?_
    refine WL.v (Runs.boolT (c := true) (Runs.load1 Try.underlying4 rfl rfl (h2.cell (cellB hfzx rfl))) p0) rfl ?_
    refine WL.v (Runs.move rfl) rfl ?_
    refine WL.gon rfl rfl rfl ?_
    refine WL.v (Runs.move rfl) rfl ?_
    refine WL.gon rfl rfl rfl ?_
    refine WL.v (Runs.nilCheckP rfl) rfl ?_
    refine WL.gon rfl rfl rfl ?_
    refine WL.v (Runs.fld fld85_3 rfl) rfl ?_
    refine WL.gon rfl rfl rfl ?_
    refine WL.v (Runs.fld fld77_2 rfl) rfl ?_
    refine WL.gon rfl rfl rfl ?_
    refine WL.v (Runs.load1 Try.underlying3 rfl rfl (h2.cell (cellB hfzx rfl))) rfl ?_
    refine WL.gon rfl rfl rfl ?_
    refine WL.v (Runs.boolT (c := true) (Runs.eql rfl rfl) (decide_eq_true p1)) rfl ?_
    refine WL.v (Runs.pick rfl rfl rfl) rfl ?_
    refine WL.v (Runs.move rfl) rfl ?_
    refine WL.goff rfl rfl rfl rfl ?_
    refine WL.goff rfl rfl rfl rfl ?_
    refine WL.goff rfl rfl rfl rfl ?_
    refine WL.goff rfl rfl rfl rfl ?_
    refine WL.goff rfl rfl rfl rfl ?_
    refine WL.goff rfl rfl rfl rfl ?_
    refine WL.goffU rfl rfl rfl ?_
    refine WL.goffU rfl rfl rfl ?_
    refine WL.goff rfl rfl rfl rfl ?_
    refine WL.v (Runs.pick rfl rfl rfl) rfl ?_
    refine WL.v (Runs.assign rfl) rfl ?_
    refine WL.nil (WN.thn ?_)
    refine WC.condT rfl (rfl) ?_
    refine WC.seq (WC.reg ?_)
    refine WL.v (Runs.move rfl) rfl ?_
    refine WL.v (Runs.build (vs := []) (cells := #[.bool false, Vi 0, Vi 0, Vi 0, Vi 0, Vi 0, .slice none 0 0, .bool false, Vi 0, Vi 0, Vi 0, Vi 0, Vi 0, Vi 0, Vi 0, .string ⟨#[]⟩, .bool false, .bool false, .bool false]) rfl (by kernel_rfl)) rfl ?_
    refine WL.call can45 rfl rfl ((show Calls _ _ #[_, .agg (acv none 0 A0), _, _] _ _ from answer_c _ hX0 (a := A0) 9 0 h2)) ?_
    rintro _ w3 ⟨rfl, h3⟩
    refine ⟨_, rfl, ?_⟩
    refine WL.storeAll h3 0 rfl rfl rfl inf39 rfl rfl rfl (Free.zero _) ?_
    intro  w4 h4
    try simp only [lz, ls, ez, es'] at h4
    refine WL.nil (WN.thn (WC.ret ?_))
    have hv : finishA id z m f = anM id m A0 9 0 := by unfold finishA; rw [if_pos (.inl ⟨p0, p1⟩)]
    refine retA rfl (ResOk.blk h4 0 rfl Try.underlying39 rfl inf39 rfl rfl) ⟨F, none, 0, Le.refl F, by rw [hv] <;> rfl, by rw [hv]; exact .inl rfl, ((h4.drop 0).drop 0)⟩
  · skip
    refine WC.reg ?_
    refine WL.v (Runs.move rfl) rfl ?_
    refine WL.v (Runs.nilCheckP rfl) rfl ?_
    refine WL.v (Runs.fld fld85_4 rfl) rfl ?_
    refine WL.v (Runs.boolT (c := true) (Runs.load1 Try.underlying4 rfl rfl (h2.cell (cellB hfzx rfl))) p0) rfl ?_
    refine WL.v (Runs.move rfl) rfl ?_
    refine WL.gon rfl rfl rfl ?_
    refine WL.v (Runs.move rfl) rfl ?_
    refine WL.gon rfl rfl rfl ?_
    refine WL.v (Runs.nilCheckP rfl) rfl ?_
    refine WL.gon rfl rfl rfl ?_
    refine WL.v (Runs.fld fld85_3 rfl) rfl ?_
    refine WL.gon rfl rfl rfl ?_
    refine WL.v (Runs.fld fld77_2 rfl) rfl ?_
    refine WL.gon rfl rfl rfl ?_
    refine WL.v (Runs.load1 Try.underlying3 rfl rfl (h2.cell (cellB hfzx rfl))) rfl ?_
    refine WL.gon rfl rfl rfl ?_
    refine WL.v (Runs.boolT (c := false) (Runs.eql rfl rfl) (decide_eq_false p1)) rfl ?_
    refine WL.v (Runs.pick rfl rfl rfl) rfl ?_
    refine WL.v (Runs.move rfl) rfl ?_
    refine WL.gon rfl rfl rfl ?_
    refine WL.v (Runs.move rfl) rfl ?_
    refine WL.gon rfl rfl rfl ?_
    refine WL.v (Runs.nilCheckP rfl) rfl ?_
    refine WL.gon rfl rfl rfl ?_
    refine WL.v (Runs.fld fld85_4 rfl) rfl ?_
    refine WL.gon rfl rfl rfl ?_
    refine WL.v (Runs.boolT (c := true) (Runs.load1 Try.underlying4 rfl rfl (h2.cell (cellB hfzx rfl))) p0) rfl ?_
    refine WL.gon rfl rfl rfl ?_
    refine WL.v (Runs.not rfl) rfl ?_
    refine WL.gon rfl rfl rfl ?_
    refine WL.v (Runs.move rfl) rfl ?_
    refine WL.goff rfl rfl rfl rfl ?_
    refine WL.goff rfl rfl rfl rfl ?_
    refine WL.gon rfl rfl rfl ?_
    refine WL.v (Runs.pick rfl rfl rfl) rfl ?_
    refine WL.v (Runs.pick rfl rfl rfl) rfl ?_
    refine WL.v (Runs.assign rfl) rfl ?_
    refine WL.nil (WN.thn ?_)
    refine WC.condF rfl (rfl) ?_
    refine WC.seq (WC.reg ?_)
    refine WL.v (Runs.move rfl) rfl ?_
    refine WL.v (Runs.nilCheckP rfl) rfl ?_
    refine WL.v (Runs.fld fld85_4 rfl) rfl ?_
    refine WL.v (Runs.boolT (c := true) (Runs.load1 Try.underlying4 rfl rfl (h2.cell (cellB hfzx rfl))) p0) rfl ?_
    refine WL.v (Runs.not rfl) rfl ?_
    refine WL.v (Runs.assign rfl) rfl ?_
    refine WL.nil (WN.thn ?_)
    refine WC.condF rfl (rfl) ?_
    refine WC.seq ?_
    rcases Bool.eq_false_or_eq_true (aliveM z m.jb m.ep) with g0 | g0
    · skip
      refine WC.eregK h2 h2 (fun s_ => ([] : List Nat).any (Nat.beq s_)) mixed (by kernel_rfl) (fun hx => ?_)
      intro w5 h5
      refine WE.p0 hx 0 (by rfl) (fun w_ => Runs.move rfl) rfl ?_
      refine WE.p0 hx 1 (by rfl) (fun w_ => Runs.nilCheckP rfl) rfl ?_
      refine WE.p0 hx 2 (by rfl) (fun w_ => Runs.fld fld85_2 rfl) rfl ?_
      refine WE.p0 hx 4 (by rfl) (fun w_ => Runs.move rfl) rfl ?_
      refine WE.p0 hx 5 (by rfl) (fun w_ => Runs.nilCheckP rfl) rfl ?_
      refine WE.p0 hx 6 (by rfl) (fun w_ => Runs.fld fld85_0 rfl) rfl ?_
      refine WE.p0 hx 7 (by rfl) (fun w_ => Runs.fld fld27_3 rfl) rfl ?_
      refine WE.p0 hx 9 (by rfl) (fun w_ => Runs.move rfl) rfl ?_
      refine WE.p0 hx 10 (by rfl) (fun w_ => Runs.nilCheckP rfl) rfl ?_
      refine WE.p0 hx 11 (by rfl) (fun w_ => Runs.fld fld85_0 rfl) rfl ?_
      refine WE.p0 hx 12 (by rfl) (fun w_ => Runs.fld fld27_4 rfl) rfl ?_
      refine WE.v0 12 hx 3 (by rfl) (fun w_ hE_ => Runs.valT (u := .agg #[.slice AJ z.js.length cj, .slice AS z.ss.length cS, .bool z.dr]) (Runs.loadPartF (vs := #[.slice AJ z.js.length cj, .slice AS z.ss.length cS, .bool z.dr]) hE_ hfzx Try.underlying45 rfl inf45 rfl (by kernel_rfl) rfl) rfl) rfl ?_
      refine WE.v0 12 hx 8 (by rfl) (fun w_ hE_ => Runs.load1 Try.underlying3 rfl rfl (hE_.cell (cellB hfzx rfl))) rfl ?_
      refine WE.v0 12 hx 13 (by rfl) (fun w_ hE_ => Runs.load1 Try.underlying3 rfl rfl (hE_.cell (cellB hfzx rfl))) rfl ?_
      refine WE.op (.inr h5) (i := 14) (by rfl) (by kernel_rfl) ?_
      refine WL.call can58 rfl rfl (alive_c _ m.jb m.ep h5 (RdK.of hZ.s) (by have := hz.s; omega)) ?_
      rintro _ w6 ⟨rfl, h6⟩
      refine ⟨_, rfl, ?_⟩
      refine WL.nil (WE.next ?_)
      refine WE.p0 hx 15 (by rfl) (fun w_ => Runs.boolT (c := true) (Runs.move rfl) g0) rfl ?_
      refine WE.o1 (j := 15) (b := false) hx 16 (by rfl) ⟨_, _, rfl, rfl, .inr rfl⟩ rfl ?_
      refine WE.o1 (j := 15) (b := false) hx 17 (by rfl) ⟨_, _, rfl, rfl, .inr rfl⟩ rfl ?_
      refine WE.p0 hx 18 (by rfl) (fun w_ => Runs.pick rfl rfl rfl) rfl ?_
      refine WE.p0 hx 19 (by rfl) (fun w_ => Runs.assign rfl) rfl ?_
      refine WE.fin (.inr h6) (by kernel_rfl) ?_
      refine WN.thn ?_
      refine WC.condT rfl (rfl) ?_
      refine WC.seq (WC.reg ?_)
      refine WL.v (Runs.build (vs := []) (cells := #[.bool false, Vi 0, Vi 0, Vi 0, Vi 0, Vi 0, .slice none 0 0, .bool false, Vi 0, Vi 0, Vi 0, Vi 0, Vi 0, Vi 0, Vi 0, .string ⟨#[]⟩, .bool false, .bool false, .bool false]) rfl (by kernel_rfl)) rfl ?_
      refine WL.storeAll h6 0 rfl rfl rfl inf39 rfl rfl rfl (Free.zero _) ?_
      intro  w7 h7
      try simp only [lz, ls, ez, es'] at h7
      refine WL.nil (WN.thn (WC.ret ?_))
      have hv : finishA id z m f = A0 := by unfold finishA; rw [if_neg (by rintro (hh | hh); exact p1 hh.2; rw [p0] at hh; cases hh.1), if_neg (by rw [p0]; decide), if_pos (.inl g0)]
      refine retA rfl (ResOk.blk h7 0 rfl Try.underlying39 rfl inf39 rfl rfl) ⟨F, none, 0, Le.refl F, by rw [hv] <;> rfl, by rw [hv]; exact .inl rfl, ((h7.drop 0).drop 0)⟩
    · skip
      refine WC.eregK h2 h2 (fun s_ => ([] : List Nat).any (Nat.beq s_)) mixed (by kernel_rfl) (fun hx => ?_)
      intro w8 h8
      refine WE.p0 hx 0 (by rfl) (fun w_ => Runs.move rfl) rfl ?_
      refine WE.p0 hx 1 (by rfl) (fun w_ => Runs.nilCheckP rfl) rfl ?_
      refine WE.p0 hx 2 (by rfl) (fun w_ => Runs.fld fld85_2 rfl) rfl ?_
      refine WE.p0 hx 4 (by rfl) (fun w_ => Runs.move rfl) rfl ?_
      refine WE.p0 hx 5 (by rfl) (fun w_ => Runs.nilCheckP rfl) rfl ?_
      refine WE.p0 hx 6 (by rfl) (fun w_ => Runs.fld fld85_0 rfl) rfl ?_
      refine WE.p0 hx 7 (by rfl) (fun w_ => Runs.fld fld27_3 rfl) rfl ?_
      refine WE.p0 hx 9 (by rfl) (fun w_ => Runs.move rfl) rfl ?_
      refine WE.p0 hx 10 (by rfl) (fun w_ => Runs.nilCheckP rfl) rfl ?_
      refine WE.p0 hx 11 (by rfl) (fun w_ => Runs.fld fld85_0 rfl) rfl ?_
      refine WE.p0 hx 12 (by rfl) (fun w_ => Runs.fld fld27_4 rfl) rfl ?_
      refine WE.v0 12 hx 3 (by rfl) (fun w_ hE_ => Runs.valT (u := .agg #[.slice AJ z.js.length cj, .slice AS z.ss.length cS, .bool z.dr]) (Runs.loadPartF (vs := #[.slice AJ z.js.length cj, .slice AS z.ss.length cS, .bool z.dr]) hE_ hfzx Try.underlying45 rfl inf45 rfl (by kernel_rfl) rfl) rfl) rfl ?_
      refine WE.v0 12 hx 8 (by rfl) (fun w_ hE_ => Runs.load1 Try.underlying3 rfl rfl (hE_.cell (cellB hfzx rfl))) rfl ?_
      refine WE.v0 12 hx 13 (by rfl) (fun w_ hE_ => Runs.load1 Try.underlying3 rfl rfl (hE_.cell (cellB hfzx rfl))) rfl ?_
      refine WE.op (.inr h8) (i := 14) (by rfl) (by kernel_rfl) ?_
      refine WL.call can58 rfl rfl (alive_c _ m.jb m.ep h8 (RdK.of hZ.s) (by have := hz.s; omega)) ?_
      rintro _ w9 ⟨rfl, h9⟩
      refine ⟨_, rfl, ?_⟩
      refine WL.nil (WE.next ?_)
      refine WE.p0 hx 15 (by rfl) (fun w_ => Runs.boolT (c := false) (Runs.move rfl) g0) rfl ?_
      refine WE.p1 (j := 15) (b := false) hx 16 (by rfl) ⟨_, _, rfl, rfl, rfl⟩ (fun w_ => Runs.fld fld47_3 rfl) rfl ?_
      refine WE.v1 (j := 15) (b := false) 12 hx 17 (by rfl) ⟨_, _, rfl, rfl, rfl⟩ (fun w_ hE_ => Runs.load1 Try.underlying4 rfl rfl (hE_.ocell (i := 1) rfl rfl)) rfl ?_
      refine WE.p0 hx 18 (by rfl) (fun w_ => Runs.pick rfl rfl rfl) rfl ?_
      refine WE.p0 hx 19 (by rfl) (fun w_ => Runs.assign rfl) rfl ?_
      refine WE.fin (.inr h9) (by kernel_rfl) ?_
      refine WN.thn ?_
      refine WC.cond rfl (fun c10 => ?_) (fun c10 => ?_)
      · try simp only [dt, df, nt, nf, ba, il, ie] at c10
        first
        | (exfalso; omega)
        | skip
          refine WC.seq (WC.reg ?_)
          refine WL.v (Runs.build (vs := []) (cells := #[.bool false, Vi 0, Vi 0, Vi 0, Vi 0, Vi 0, .slice none 0 0, .bool false, Vi 0, Vi 0, Vi 0, Vi 0, Vi 0, Vi 0, Vi 0, .string ⟨#[]⟩, .bool false, .bool false, .bool false]) rfl (by kernel_rfl)) rfl ?_
          refine WL.storeAll h9 0 rfl rfl rfl inf39 rfl rfl rfl (Free.zero _) ?_
          intro  w11 h11
          try simp only [lz, ls, ez, es'] at h11
          refine WL.nil (WN.thn (WC.ret ?_))
          have hv : finishA id z m f = A0 := by unfold finishA; rw [if_neg (by rintro (hh | hh); exact p1 hh.2; rw [p0] at hh; cases hh.1), if_neg (by rw [p0]; decide), if_pos (.inr c10)]
          refine retA rfl (ResOk.blk h11 0 rfl Try.underlying39 rfl inf39 rfl rfl) ⟨F, none, 0, Le.refl F, by rw [hv] <;> rfl, by rw [hv]; exact .inl rfl, ((h11.drop 0).drop 0)⟩
      · try simp only [dt, df, nt, nf, ba, il, ie] at c10
        first
        | (exfalso; omega)
        | skip
          refine WC.skip (WN.blk (WN.thn (WC.seq ?_)))
          refine WC.eregK h9 h9 (fun s_ => ([9] : List Nat).any (Nat.beq s_)) mixed (by kernel_rfl) (fun hx => ?_)
          intro w12 h12
          refine WE.p0 hx 0 (by rfl) (fun w_ => Runs.move rfl) rfl ?_
          refine WE.p0 hx 1 (by rfl) (fun w_ => Runs.move rfl) rfl ?_
          refine WE.p0 hx 2 (by rfl) (fun w_ => Runs.fld fld47_2 rfl) rfl ?_
          refine WE.p0 hx 5 (by rfl) (fun w_ => Runs.fld fld47_2 rfl) rfl ?_
          refine WE.v0 12 hx 3 (by rfl) (fun w_ hE_ => Runs.load1 Try.underlying3 rfl rfl (hE_.ocell (i := 1) rfl rfl)) rfl ?_
          refine WE.v0 12 hx 6 (by rfl) (fun w_ hE_ => Runs.load1 Try.underlying3 rfl rfl (hE_.ocell (i := 1) rfl rfl)) rfl ?_
          refine WE.p0 hx 7 (by rfl) (fun w_ => Runs.min rfl rfl) rfl ?_
          refine WE.op (.inr h12) (i := 4) (by rfl) (by kernel_rfl) ?_
          refine WL.call can46 rfl rfl (write_c _ hX0 6 f.cd h12) ?_
          rintro _ w13 ⟨rfl, h13⟩
          refine ⟨_, rfl, ?_⟩
          refine WL.nil (WE.next ?_)
          refine WE.op (.inr h13) (i := 8) (by rfl) (by kernel_rfl) ?_
          refine WL.call can45 rfl rfl ((show Calls _ _ #[_, .agg (acv none 0 (wrM m 6 f.cd)), _, _] _ _ from answer_c _ hX0 (a := (wrM m 6 f.cd)) 9 (mn1 f.cd) h13)) ?_
          rintro _ w14 ⟨rfl, h14⟩
          refine ⟨_, rfl, ?_⟩
          refine WL.nil (WE.next ?_)
          refine WE.op (.inr h14) (i := 9) (by rfl) (by kernel_rfl) ?_
          refine WL.storeAll h14 0 rfl rfl rfl inf39 rfl rfl rfl (Free.zero _) ?_
          intro  w15 h15
          try simp only [lz, ls, ez, es'] at h15
          refine WL.nil (WE.next ?_)
          refine WE.fin (.inl ⟨9, rfl, by kernel_rfl⟩) (by kernel_rfl) ?_
          refine WN.thn (WC.ret ?_)
          have hv : finishA id z m f = anM id m (wrM m 6 f.cd) 9 (mn1 f.cd) := by unfold finishA; rw [if_neg (by rintro (hh | hh); exact p1 hh.2; rw [p0] at hh; cases hh.1), if_neg (by rw [p0]; decide), if_neg (by rintro (hh | hh); rw [g0] at hh; cases hh; rw [c10] at hh; cases hh)]
          refine retA rfl (ResOk.blk h15 0 rfl Try.underlying39 rfl inf39 rfl rfl) ⟨F, none, 0, Le.refl F, by rw [hv] <;> rfl, by rw [hv]; exact .inl rfl, ((h15.drop 0).drop 0)⟩
  · replace p0 := Bool.eq_false_iff.2 p0
    refine WC.reg ?_
    refine WL.v (Runs.move rfl) rfl ?_
    refine WL.v (Runs.nilCheckP rfl) rfl ?_
    refine WL.v (Runs.fld fld85_4 rfl) rfl ?_
    refine WL.v (Runs.boolT (c := false) (Runs.load1 Try.underlying4 rfl rfl (h2.cell (cellB hfzx rfl))) p0) rfl ?_
    refine WL.v (Runs.move rfl) rfl ?_
    refine WL.goff rfl rfl rfl rfl ?_
    refine WL.goff rfl rfl rfl rfl ?_
    refine WL.goff rfl rfl rfl rfl ?_
    refine WL.goff rfl rfl rfl rfl ?_
    refine WL.goff rfl rfl rfl rfl ?_
    refine WL.goff rfl rfl rfl rfl ?_
    refine WL.v (Runs.pick rfl rfl rfl) rfl ?_
    refine WL.v (Runs.move rfl) rfl ?_
    refine WL.gon rfl rfl rfl ?_
    refine WL.v (Runs.move rfl) rfl ?_
    refine WL.gon rfl rfl rfl ?_
    refine WL.v (Runs.nilCheckP rfl) rfl ?_
    refine WL.gon rfl rfl rfl ?_
    refine WL.v (Runs.fld fld85_4 rfl) rfl ?_
    refine WL.gon rfl rfl rfl ?_
    refine WL.v (Runs.boolT (c := false) (Runs.load1 Try.underlying4 rfl rfl (h2.cell (cellB hfzx rfl))) p0) rfl ?_
    refine WL.gon rfl rfl rfl ?_
    refine WL.v (Runs.not rfl) rfl ?_
    refine WL.gon rfl rfl rfl ?_
    refine WL.v (Runs.move rfl) rfl ?_
    refine WL.gon rfl rfl rfl ?_
    refine WL.v (Runs.move rfl) rfl ?_
    refine WL.gon rfl rfl rfl ?_
    refine WL.call can56 rfl rfl (nwer_c _ hX0 hz h2) ?_
    rintro _ w16 ⟨rfl, h16⟩
    refine ⟨_, rfl, ?_⟩
    refine WL.gon rfl rfl rfl ?_
    refine WL.v (Runs.pick rfl rfl rfl) rfl ?_
    refine WL.v (Runs.pick rfl rfl rfl) rfl ?_
    refine WL.v (Runs.assign rfl) rfl ?_
    refine WL.nil (WN.thn ?_)
    refine WC.cond rfl (fun c17 => ?_) (fun c17 => ?_)
    · try simp only [dt, df, nt, nf, ba, il, ie] at c17
      first
      | (exfalso; omega)
      | skip
        refine WC.seq (WC.reg ?_)
        refine WL.v (Runs.move rfl) rfl ?_
        refine WL.v (Runs.build (vs := []) (cells := #[.bool false, Vi 0, Vi 0, Vi 0, Vi 0, Vi 0, .slice none 0 0, .bool false, Vi 0, Vi 0, Vi 0, Vi 0, Vi 0, Vi 0, Vi 0, .string ⟨#[]⟩, .bool false, .bool false, .bool false]) rfl (by kernel_rfl)) rfl ?_
        refine WL.call can45 rfl rfl ((show Calls _ _ #[_, .agg (acv none 0 A0), _, _] _ _ from answer_c _ hX0 (a := A0) 9 0 h16)) ?_
        rintro _ w18 ⟨rfl, h18⟩
        refine ⟨_, rfl, ?_⟩
        refine WL.storeAll h18 0 rfl rfl rfl inf39 rfl rfl rfl (Free.zero _) ?_
        intro  w19 h19
        try simp only [lz, ls, ez, es'] at h19
        refine WL.nil (WN.thn (WC.ret ?_))
        have hv : finishA id z m f = anM id m A0 9 0 := by unfold finishA; rw [if_pos (.inr ⟨p0, c17⟩)]
        refine retA rfl (ResOk.blk h19 0 rfl Try.underlying39 rfl inf39 rfl rfl) ⟨F, none, 0, Le.refl F, by rw [hv] <;> rfl, by rw [hv]; exact .inl rfl, ((h19.drop 0).drop 0)⟩
    · try simp only [dt, df, nt, nf, ba, il, ie] at c17
      first
      | (exfalso; omega)
      | skip
        refine WC.seq (WC.reg ?_)
        refine WL.v (Runs.move rfl) rfl ?_
        refine WL.v (Runs.nilCheckP rfl) rfl ?_
        refine WL.v (Runs.fld fld85_4 rfl) rfl ?_
        refine WL.v (Runs.boolT (c := false) (Runs.load1 Try.underlying4 rfl rfl (h16.cell (cellB hfzx rfl))) p0) rfl ?_
        refine WL.v (Runs.not rfl) rfl ?_
        refine WL.v (Runs.assign rfl) rfl ?_
        refine WL.nil (WN.thn ?_)
        refine WC.condT rfl (rfl) ?_
        refine WC.seq (WC.reg ?_)
        refine WL.v (Runs.move rfl) rfl ?_
        refine WL.v (Runs.move rfl) rfl ?_
        refine WL.call can46 rfl rfl (write_c _ hX0 7 0 h16) ?_
        rintro _ w20 ⟨rfl, h20⟩
        refine ⟨_, rfl, ?_⟩
        refine WL.call can45 rfl rfl ((show Calls _ _ #[_, .agg (acv none 0 (wrM m 7 0)), _, _] _ _ from answer_c _ hX0 (a := (wrM m 7 0)) 9 0 h20)) ?_
        rintro _ w21 ⟨rfl, h21⟩
        refine ⟨_, rfl, ?_⟩
        refine WL.storeAll h21 0 rfl rfl rfl inf39 rfl rfl rfl (Free.zero _) ?_
        intro  w22 h22
        try simp only [lz, ls, ez, es'] at h22
        refine WL.nil (WN.thn (WC.ret ?_))
        have hv : finishA id z m f = anM id m (wrM m 7 0) 9 0 := by unfold finishA; rw [if_neg (by rintro (hh | hh); rw [p0] at hh; cases hh.1; rw [c17] at hh; cases hh.2), if_pos p0]
        refine retA rfl (ResOk.blk h22 0 rfl Try.underlying39 rfl inf39 rfl rfl) ⟨F, none, 0, Le.refl F, by rw [hv] <;> rfl, by rw [hv]; exact .inl rfl, ((h22.drop 0).drop 0)⟩
end Rc
end Go.Proofs.Ytanlminnobonnaa
