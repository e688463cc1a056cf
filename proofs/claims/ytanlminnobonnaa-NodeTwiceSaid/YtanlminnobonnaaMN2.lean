/- Walks of package node: what is done of a message. -/
import Derived.Test.YtanlminnobonnaaProg
import Derived.KernelRfl
import Derived.Test.YtanlminnobonnaaMBaseAH
import Derived.Test.YtanlminnobonnaaMN1
namespace Go.Proofs.Ytanlminnobonnaa
open Go Go.RowKit B
set_option linter.unusedVariables false
set_option linter.unusedSimpArgs false
namespace Rc

theorem fld47_2 : fldB Try.prog 47 2 2 = true := by kernel_rfl
theorem can39 : B.Can Try.prog 39 := ⟨_, Try.func39, by kernel_rfl, rfl⟩   -- (*roundhouse/node.asked).up
theorem can45 : B.Can Try.prog 45 := ⟨_, Try.func45, by kernel_rfl, rfl⟩   -- (*roundhouse/node.asked).answer
theorem can46 : B.Can Try.prog 46 := ⟨_, Try.func46, by kernel_rfl, rfl⟩   -- (*roundhouse/node.asked).write
theorem can55 : B.Can Try.prog 55 := ⟨_, Try.func55, by kernel_rfl, rfl⟩   -- roundhouse/rec.StepOf
theorem can56 : B.Can Try.prog 56 := ⟨_, Try.func56, by kernel_rfl, rfl⟩   -- (*roundhouse/node.asked).newer
theorem hj_t {z : Z} {m : M} {p : Int} (h0 : hasJ z m = true) (h1 : phJ z m = p) : (hasJ z m && decide (phJ z m = p)) = true := by rw [h0, decide_eq_true h1]; rfl
theorem hj_f {z : Z} {m : M} {p : Int} (h : ¬ (hasJ z m = true ∧ phJ z m = p)) : ¬ (hasJ z m && decide (phJ z m = p)) = true := by
  intro hh
  rw [Bool.and_eq_true, decide_eq_true_eq] at hh
  exact h hh
theorem or_f {a b : Bool} (h1 : a = false) (h2 : b = false) : ¬ (a || b) = true := by rw [h1, h2]; decide
set_option maxRecDepth 100000 in
set_option maxHeartbeats 4000000 in
theorem of_c {W : World} {F : Snap} {cs : List Res} (w : World) {AJ AS : Option Addr} {cj cS : Nat} {z : Z} {m : M} (id : Int) (hz : few z) (hR : ZR F AJ AS z) (h : St W F cs w) : Calls Try.prog 27 #[Vi id, .agg #[.slice AJ z.js.length cj, .slice AS z.ss.length cS, .bool z.dr], .agg #[Vi m.kd, Vi m.fr, Vi m.to, Vi m.jb, Vi m.ep, Vi m.st, Vi m.ar, .string m.tx]] w fun e w' => ∃ G b, Le F G ∧ e = .returned (.pointer (some ⟨b, 0, none⟩)) ∧ AK G b id z m ∧ St W G cs w'  := by
  refine enter (P := Try.prog) (args := [Vi id, .agg #[.slice AJ z.js.length cj, .slice AS z.ss.length cS, .bool z.dr], .agg #[Vi m.kd, Vi m.fr, Vi m.to, Vi m.jb, Vi m.ep, Vi m.st, Vi m.ar, .string m.tx]]) Try.func27 rfl rfl rfl ?_
  refine WC.seq (WC.reg ?_)
  refine WL.box rfl h rfl ?_
  intro b4 w1 h1
  refine WL.box rfl h1 rfl ?_
  intro b5 w2 h2
  refine WL.v (Runs.assign rfl) rfl ?_
  refine WL.nil (WN.thn (WC.seq (WC.reg ?_)))
  refine WL.v (Runs.loadAll h2 0 rfl Try.underlying27 rfl inf27 rfl rfl) rfl ?_
  refine WL.v (Runs.move rfl) rfl ?_
  refine WL.v (Runs.loadAll h2 1 rfl Try.underlying45 rfl inf45 rfl rfl) rfl ?_
  refine WL.v (Runs.build (vs := [(0, .agg #[Vi m.kd, Vi m.fr, Vi m.to, Vi m.jb, Vi m.ep, Vi m.st, Vi m.ar, .string m.tx]), (1, Vi id), (2, .agg #[.slice AJ z.js.length cj, .slice AS z.ss.length cS, .bool z.dr])]) (cells := #[Vi m.kd, Vi m.fr, Vi m.to, Vi m.jb, Vi m.ep, Vi m.st, Vi m.ar, .string m.tx, Vi id, .slice AJ z.js.length cj, .slice AS z.ss.length cS, .bool z.dr, Vi 0, Vi 0, Vi 0, .bool false, Vi 0, Vi 0, Vi 0, Vi 0, Vi 0, .slice none 0 0, .bool false]) rfl (by kernel_rfl)) rfl ?_
  refine WL.box rfl h2 rfl ?_
  intro b12 w3 h3
  refine WL.v (Runs.assign rfl) rfl ?_
  refine WL.nil (WN.thn (WC.seq (WC.reg ?_)))
  refine WL.v (Runs.move rfl) rfl ?_
  refine WL.v (Runs.move rfl) rfl ?_
  refine WL.v (Runs.loadAll h3 2 rfl Try.underlying45 rfl inf45 rfl rfl) rfl ?_
  refine WL.v (Runs.fld fld27_3 rfl) rfl ?_
  refine WL.v (Runs.load1 Try.underlying3 rfl rfl (h3.ocell (i := 1) rfl rfl)) rfl ?_
  refine WL.v (Runs.fld fld27_4 rfl) rfl ?_
  refine WL.v (Runs.load1 Try.underlying3 rfl rfl (h3.ocell (i := 1) rfl rfl)) rfl ?_
  refine WL.call can54 rfl rfl (find_c _ m.jb m.ep h3 (RdK.of hR.j) (by have := hz.j; omega)) ?_
  rintro _ w4 ⟨rfl, h4⟩
  refine ⟨_, rfl, ?_⟩
  refine WL.v (Runs.move rfl) rfl ?_
  refine WL.v (Runs.extract rfl rfl) rfl ?_
  refine WL.v (Runs.extract rfl rfl) rfl ?_
  refine WL.v (Runs.nilCheckP rfl) rfl ?_
  refine WL.v (Runs.fld fld85_3 rfl) rfl ?_
  refine WL.storePart (arr' := #[Vi m.kd, Vi m.fr, Vi m.to, Vi m.jb, Vi m.ep, Vi m.st, Vi m.ar, .string m.tx, Vi id, .slice AJ z.js.length cj, .slice AS z.ss.length cS, .bool z.dr, Vi (findM z m.jb m.ep).1.jb, Vi (findM z m.jb m.ep).1.ep, Vi (findM z m.jb m.ep).1.ph, .bool false, Vi 0, Vi 0, Vi 0, Vi 0, Vi 0, .slice none 0 0, .bool false]) h4 0 rfl rfl rfl inf77 rfl rfl (Free.zero _) rfl (by kernel_rfl) ?_
  intro  w5 h5
  try simp only [lz, ls, ez, es'] at h5
  refine WL.v (Runs.nilCheckP rfl) rfl ?_
  refine WL.v (Runs.fld fld85_4 rfl) rfl ?_
  refine WL.store' h5 0 rfl rfl rfl inf4 rfl rfl (Free.zero _) (Nat.le_of_ble_eq_true rfl) ?_
  intro  w6 h6
  try simp only [lz, ls, ez, es'] at h6
  refine WL.nil (WN.thn (WC.seq (WC.reg ?_)))
  refine WL.v (Runs.move rfl) rfl ?_
  refine WL.v (Runs.move rfl) rfl ?_
  refine WL.v (Runs.loadAll h6 2 rfl Try.underlying45 rfl inf45 rfl rfl) rfl ?_
  refine WL.v (Runs.fld fld27_3 rfl) rfl ?_
  refine WL.v (Runs.load1 Try.underlying3 rfl rfl (h6.ocell (i := 1) rfl rfl)) rfl ?_
  refine WL.v (Runs.fld fld27_4 rfl) rfl ?_
  refine WL.v (Runs.load1 Try.underlying3 rfl rfl (h6.ocell (i := 1) rfl rfl)) rfl ?_
  refine WL.v (Runs.fld fld27_5 rfl) rfl ?_
  refine WL.v (Runs.load1 Try.underlying3 rfl rfl (h6.ocell (i := 1) rfl rfl)) rfl ?_
  refine WL.call can55 rfl rfl (stepOf_c _ m.jb m.ep m.st h6 (RdK.of hR.s) (by have := hz.s; omega)) ?_
  rintro _ w7 ⟨⟨A1, c1, rfl, hps⟩, h7⟩
  refine ⟨_, rfl, ?_⟩
  refine WL.v (Runs.move rfl) rfl ?_
  refine WL.v (Runs.extract rfl rfl) rfl ?_
  refine WL.v (Runs.extract rfl rfl) rfl ?_
  refine WL.v (Runs.nilCheckP rfl) rfl ?_
  refine WL.v (Runs.fld fld85_5 rfl) rfl ?_
  refine WL.storePart (arr' := #[Vi m.kd, Vi m.fr, Vi m.to, Vi m.jb, Vi m.ep, Vi m.st, Vi m.ar, .string m.tx, Vi id, .slice AJ z.js.length cj, .slice AS z.ss.length cS, .bool z.dr, Vi (findM z m.jb m.ep).1.jb, Vi (findM z m.jb m.ep).1.ep, Vi (findM z m.jb m.ep).1.ph, .bool (findM z m.jb m.ep).2, Vi (stepM z m.jb m.ep m.st).1.jb, Vi (stepM z m.jb m.ep m.st).1.ep, Vi (stepM z m.jb m.ep m.st).1.st, Vi (stepM z m.jb m.ep m.st).1.ph, Vi (stepM z m.jb m.ep m.st).1.cd, .slice A1 (stepM z m.jb m.ep m.st).1.ps.length c1, .bool false]) h7 0 rfl rfl rfl inf80 rfl rfl (Free.zero _) rfl (by kernel_rfl) ?_
  intro  w8 h8
  try simp only [lz, ls, ez, es'] at h8
  refine WL.v (Runs.nilCheckP rfl) rfl ?_
  refine WL.v (Runs.fld fld85_6 rfl) rfl ?_
  refine WL.store' h8 0 rfl rfl rfl inf4 rfl rfl (Free.zero _) (Nat.le_of_ble_eq_true rfl) ?_
  intro  w9 h9
  try simp only [lz, ls, ez, es'] at h9
  refine WL.nil (WN.thn (WC.seq (WC.reg ?_)))
  refine WL.v (Runs.move rfl) rfl ?_
  refine WL.v (Runs.assign rfl) rfl ?_
  refine WL.nil (WN.thn (WC.ret ?_))
  obtain ⟨G, hG, gf, hS⟩ := h9.freeze (i := 0) rfl
  exact ret1 rfl rfl ⟨G, b12, hG, rfl, ⟨AJ, AS, cj, cS, A1, c1, gf _ List.mem_cons_self, hR.mono hG, hps.mono hG⟩, (hS.drop 0).drop 0⟩
set_option maxRecDepth 100000 in
set_option maxHeartbeats 4000000 in
theorem prologA_c {W : World} {F : Snap} {cs : List Res} (w : World) {bx : Nat} {id : Int} {z : Z} {m : M} {Ap : Option Addr} {cp : Nat} {f : Fc} (hX : AK F bx id z m) (hz : few z) (h : St W F cs w) : Calls Try.prog 28 #[.pointer (some ⟨bx, 0, none⟩), .agg #[Vi f.cr, .slice Ap f.ps.length cp, Vi f.cd, .bool f.bz]] w fun e w' => GivesA W F cs (prologA id z m f.cd) e w'  := by
  refine enter (P := Try.prog) (args := [.pointer (some ⟨bx, 0, none⟩), .agg #[Vi f.cr, .slice Ap f.ps.length cp, Vi f.cd, .bool f.bz]]) Try.func28 rfl rfl rfl ?_
  have hX0 := hX
  obtain ⟨AJ, AS, cj, cS, A1, c1, hfzx, hZ, hps⟩ := hX
  refine WC.seq (WC.reg ?_)
  refine WL.box rfl h rfl ?_
  intro b3 w1 h1
  refine WL.alloc' rfl h1 inf39 ?_
  intro b4 w2 h2
  refine WL.nil (WN.thn (WC.seq (WC.block (WC.seq (WC.reg ?_)))))
  refine WL.v (Runs.move rfl) rfl ?_
  refine WL.call can39 rfl rfl (up_c _ hX0 h2) ?_
  rintro _ w3 ⟨rfl, h3⟩
  refine ⟨_, rfl, ?_⟩
  refine WL.v (Runs.assign rfl) rfl ?_
  refine WL.nil (WN.thn ?_)
  refine WC.cond rfl (fun c4 => ?_) (fun c4 => ?_)
  · try simp only [dt, df, nt, nf, ba, il, ie] at c4
    first
    | (exfalso; omega)
    | skip
      refine WC.seq (WC.reg ?_)
      refine WL.v (Runs.move rfl) rfl ?_
      refine WL.v (Runs.build (vs := []) (cells := #[.bool false, Vi 0, Vi 0, Vi 0, Vi 0, Vi 0, .slice none 0 0, .bool false, Vi 0, Vi 0, Vi 0, Vi 0, Vi 0, Vi 0, Vi 0, .string ⟨#[]⟩, .bool false, .bool false, .bool false]) rfl (by kernel_rfl)) rfl ?_
      refine WL.call can45 rfl rfl ((show Calls _ _ #[_, .agg (acv none 0 A0), _, _] _ _ from answer_c _ hX0 (a := A0) 1 0 h3)) ?_
      rintro _ w5 ⟨rfl, h5⟩
      refine ⟨_, rfl, ?_⟩
      refine WL.storeAll h5 0 rfl rfl rfl inf39 rfl rfl rfl (Free.zero _) ?_
      intro  w6 h6
      try simp only [lz, ls, ez, es'] at h6
      refine WL.nil (WN.thn (WC.ret ?_))
      have hv : prologA id z m f.cd = anM id m A0 1 0 := by unfold prologA; rw [if_pos c4]
      refine retA rfl (ResOk.blk h6 0 rfl Try.underlying39 rfl inf39 rfl rfl) ⟨F, none, 0, Le.refl F, by rw [hv] <;> rfl, by rw [hv]; exact .inl rfl, ((h6.drop 0).drop 0)⟩
  · try simp only [dt, df, nt, nf, ba, il, ie] at c4
    first
    | (exfalso; omega)
    | skip
      refine WC.seq ?_
      rcases two (hasJ z m = true) (phJ z m = 1) with p0 | ⟨p0, p1⟩ | ⟨p0, p1⟩
      · have u3 : ¬ (hasJ z m && decide (phJ z m = 1)) = true := hj_f (fun hh => p0 hh.1)
        refine WC.reg ?_
        refine WL.v (Runs.move rfl) rfl ?_
        refine WL.v (Runs.nilCheckP rfl) rfl ?_
        refine WL.v (Runs.fld fld85_4 rfl) rfl ?_
        refine WL.v (Runs.boolT (c := false) (Runs.load1 Try.underlying4 rfl rfl (h3.cell (cellB hfzx rfl))) (Bool.eq_false_iff.2 p0)) rfl ?_
        refine WL.v (Runs.move rfl) rfl ?_
        refine WL.goff rfl rfl rfl rfl ?_
        refine WL.goff rfl rfl rfl rfl ?_
        refine WL.goff rfl rfl rfl rfl ?_
        refine WL.goff rfl rfl rfl rfl ?_
        refine WL.goff rfl rfl rfl rfl ?_
        refine WL.goff rfl rfl rfl rfl ?_
        refine WL.v (Runs.pick rfl rfl rfl) rfl ?_
        refine WL.v (Runs.assign rfl) rfl ?_
        refine WL.nil (WN.thn ?_)
        refine WC.condF rfl (rfl) ?_
        refine WC.seq ?_
        rcases two (hasJ z m = true) (phJ z m = 2) with p0 | ⟨p0, p1⟩ | ⟨p0, p1⟩
        · have u5 : ¬ (hasJ z m && decide (phJ z m = 2)) = true := hj_f (fun hh => p0 hh.1)
          refine WC.reg ?_
          refine WL.v (Runs.move rfl) rfl ?_
          refine WL.v (Runs.nilCheckP rfl) rfl ?_
          refine WL.v (Runs.fld fld85_4 rfl) rfl ?_
          refine WL.v (Runs.boolT (c := false) (Runs.load1 Try.underlying4 rfl rfl (h3.cell (cellB hfzx rfl))) (Bool.eq_false_iff.2 p0)) rfl ?_
          refine WL.v (Runs.move rfl) rfl ?_
          refine WL.goff rfl rfl rfl rfl ?_
          refine WL.goff rfl rfl rfl rfl ?_
          refine WL.goff rfl rfl rfl rfl ?_
          refine WL.goff rfl rfl rfl rfl ?_
          refine WL.goff rfl rfl rfl rfl ?_
          refine WL.goff rfl rfl rfl rfl ?_
          refine WL.v (Runs.pick rfl rfl rfl) rfl ?_
          refine WL.v (Runs.assign rfl) rfl ?_
          refine WL.nil (WN.thn ?_)
          refine WC.condF rfl (rfl) ?_
          refine WC.seq ?_
          rcases Bool.eq_false_or_eq_true (hasJ z m) with g0 | g0
          · skip
            refine WC.reg ?_
            refine WL.v (Runs.move rfl) rfl ?_
            refine WL.v (Runs.nilCheckP rfl) rfl ?_
            refine WL.v (Runs.fld fld85_4 rfl) rfl ?_
            refine WL.v (Runs.boolT (c := true) (Runs.load1 Try.underlying4 rfl rfl (h3.cell (cellB hfzx rfl))) g0) rfl ?_
            refine WL.v (Runs.move rfl) rfl ?_
            refine WL.goff rfl rfl rfl rfl ?_
            refine WL.goff rfl rfl rfl rfl ?_
            refine WL.v (Runs.pick rfl rfl rfl) rfl ?_
            refine WL.v (Runs.assign rfl) rfl ?_
            refine WL.nil (WN.thn ?_)
            refine WC.condT rfl (rfl) ?_
            refine WC.seq (WC.reg ?_)
            refine WL.v (Runs.build (vs := []) (cells := #[.bool false, Vi 0, Vi 0, Vi 0, Vi 0, Vi 0, .slice none 0 0, .bool false, Vi 0, Vi 0, Vi 0, Vi 0, Vi 0, Vi 0, Vi 0, .string ⟨#[]⟩, .bool false, .bool false, .bool false]) rfl (by kernel_rfl)) rfl ?_
            refine WL.storeAll h3 0 rfl rfl rfl inf39 rfl rfl rfl (Free.zero _) ?_
            intro  w7 h7
            try simp only [lz, ls, ez, es'] at h7
            refine WL.nil (WN.thn (WC.ret ?_))
            have hv : prologA id z m f.cd = A0 := by unfold prologA; rw [if_neg (by rw [c4]; decide), if_neg u3, if_neg u5, if_pos (by rw [g0]; rfl)]
            refine retA rfl (ResOk.blk h7 0 rfl Try.underlying39 rfl inf39 rfl rfl) ⟨F, none, 0, Le.refl F, by rw [hv] <;> rfl, by rw [hv]; exact .inl rfl, ((h7.drop 0).drop 0)⟩
          · skip
            refine WC.reg ?_
            refine WL.v (Runs.move rfl) rfl ?_
            refine WL.v (Runs.nilCheckP rfl) rfl ?_
            refine WL.v (Runs.fld fld85_4 rfl) rfl ?_
            refine WL.v (Runs.boolT (c := false) (Runs.load1 Try.underlying4 rfl rfl (h3.cell (cellB hfzx rfl))) g0) rfl ?_
            refine WL.v (Runs.move rfl) rfl ?_
            refine WL.gon rfl rfl rfl ?_
            refine WL.v (Runs.move rfl) rfl ?_
            refine WL.gon rfl rfl rfl ?_
            refine WL.call can56 rfl rfl (nwer_c _ hX0 hz h3) ?_
            rintro _ w8 ⟨rfl, h8⟩
            refine ⟨_, rfl, ?_⟩
            refine WL.v (Runs.pick rfl rfl rfl) rfl ?_
            refine WL.v (Runs.assign rfl) rfl ?_
            refine WL.nil (WN.thn ?_)
            refine WC.cond rfl (fun c9 => ?_) (fun c9 => ?_)
            · try simp only [dt, df, nt, nf, ba, il, ie] at c9
              first
              | (exfalso; omega)
              | skip
                refine WC.seq (WC.reg ?_)
                refine WL.v (Runs.build (vs := []) (cells := #[.bool false, Vi 0, Vi 0, Vi 0, Vi 0, Vi 0, .slice none 0 0, .bool false, Vi 0, Vi 0, Vi 0, Vi 0, Vi 0, Vi 0, Vi 0, .string ⟨#[]⟩, .bool false, .bool false, .bool false]) rfl (by kernel_rfl)) rfl ?_
                refine WL.storeAll h8 0 rfl rfl rfl inf39 rfl rfl rfl (Free.zero _) ?_
                intro  w10 h10
                try simp only [lz, ls, ez, es'] at h10
                refine WL.nil (WN.thn (WC.ret ?_))
                have hv : prologA id z m f.cd = A0 := by unfold prologA; rw [if_neg (by rw [c4]; decide), if_neg u3, if_neg u5, if_pos (by rw [c9]; simp)]
                refine retA rfl (ResOk.blk h10 0 rfl Try.underlying39 rfl inf39 rfl rfl) ⟨F, none, 0, Le.refl F, by rw [hv] <;> rfl, by rw [hv]; exact .inl rfl, ((h10.drop 0).drop 0)⟩
            · try simp only [dt, df, nt, nf, ba, il, ie] at c9
              first
              | (exfalso; omega)
              | skip
                refine WC.seq (WC.reg ?_)
                refine WL.v (Runs.move rfl) rfl ?_
                refine WL.v (Runs.nilCheckP rfl) rfl ?_
                refine WL.v (Runs.fld fld85_2 rfl) rfl ?_
                refine WL.v (Runs.fld fld45_2 rfl) rfl ?_
                refine WL.v (Runs.load1 Try.underlying4 rfl rfl (h8.cell (cellB hfzx rfl))) rfl ?_
                refine WL.v (Runs.assign rfl) rfl ?_
                refine WL.nil (WN.thn ?_)
                refine WC.cond rfl (fun c11 => ?_) (fun c11 => ?_)
                · try simp only [dt, df, nt, nf, ba, il, ie] at c11
                  first
                  | (exfalso; omega)
                  | skip
                    refine WC.seq (WC.reg ?_)
                    refine WL.v (Runs.move rfl) rfl ?_
                    refine WL.v (Runs.build (vs := []) (cells := #[.bool false, Vi 0, Vi 0, Vi 0, Vi 0, Vi 0, .slice none 0 0, .bool false, Vi 0, Vi 0, Vi 0, Vi 0, Vi 0, Vi 0, Vi 0, .string ⟨#[]⟩, .bool false, .bool false, .bool false]) rfl (by kernel_rfl)) rfl ?_
                    refine WL.call can45 rfl rfl ((show Calls _ _ #[_, .agg (acv none 0 A0), _, _] _ _ from answer_c _ hX0 (a := A0) 1 1 h8)) ?_
                    rintro _ w12 ⟨rfl, h12⟩
                    refine ⟨_, rfl, ?_⟩
                    refine WL.storeAll h12 0 rfl rfl rfl inf39 rfl rfl rfl (Free.zero _) ?_
                    intro  w13 h13
                    try simp only [lz, ls, ez, es'] at h13
                    refine WL.nil (WN.thn (WC.ret ?_))
                    have hv : prologA id z m f.cd = anM id m A0 1 1 := by unfold prologA; rw [if_neg (by rw [c4]; decide), if_neg u3, if_neg u5, if_neg (or_f g0 c9), if_pos c11]
                    refine retA rfl (ResOk.blk h13 0 rfl Try.underlying39 rfl inf39 rfl rfl) ⟨F, none, 0, Le.refl F, by rw [hv] <;> rfl, by rw [hv]; exact .inl rfl, ((h13.drop 0).drop 0)⟩
                · try simp only [dt, df, nt, nf, ba, il, ie] at c11
                  first
                  | (exfalso; omega)
                  | skip
                    refine WC.skip (WN.blk (WN.thn (WC.seq ?_)))
                    refine WC.eregK h8 h8 (fun s_ => ([9] : List Nat).any (Nat.beq s_)) mixed (by kernel_rfl) (fun hx => ?_)
                    intro w14 h14
                    refine WE.p0 hx 0 (by rfl) (fun w_ => Runs.move rfl) rfl ?_
                    refine WE.p0 hx 1 (by rfl) (fun w_ => Runs.move rfl) rfl ?_
                    refine WE.p0 hx 2 (by rfl) (fun w_ => Runs.fld fld47_2 rfl) rfl ?_
                    refine WE.p0 hx 5 (by rfl) (fun w_ => Runs.fld fld47_2 rfl) rfl ?_
                    refine WE.v0 12 hx 3 (by rfl) (fun w_ hE_ => Runs.load1 Try.underlying3 rfl rfl (hE_.ocell (i := 1) rfl rfl)) rfl ?_
                    refine WE.v0 12 hx 6 (by rfl) (fun w_ hE_ => Runs.load1 Try.underlying3 rfl rfl (hE_.ocell (i := 1) rfl rfl)) rfl ?_
                    refine WE.p0 hx 7 (by rfl) (fun w_ => Runs.min rfl rfl) rfl ?_
                    refine WE.op (.inr h14) (i := 4) (by rfl) (by kernel_rfl) ?_
                    refine WL.call can46 rfl rfl (write_c _ hX0 0 f.cd h14) ?_
                    rintro _ w15 ⟨rfl, h15⟩
                    refine ⟨_, rfl, ?_⟩
                    refine WL.nil (WE.next ?_)
                    refine WE.op (.inr h15) (i := 8) (by rfl) (by kernel_rfl) ?_
                    refine WL.call can45 rfl rfl ((show Calls _ _ #[_, .agg (acv none 0 (wrM m 0 f.cd)), _, _] _ _ from answer_c _ hX0 (a := (wrM m 0 f.cd)) 1 (mn1 f.cd) h15)) ?_
                    rintro _ w16 ⟨rfl, h16⟩
                    refine ⟨_, rfl, ?_⟩
                    refine WL.nil (WE.next ?_)
                    refine WE.op (.inr h16) (i := 9) (by rfl) (by kernel_rfl) ?_
                    refine WL.storeAll h16 0 rfl rfl rfl inf39 rfl rfl rfl (Free.zero _) ?_
                    intro  w17 h17
                    try simp only [lz, ls, ez, es'] at h17
                    refine WL.nil (WE.next ?_)
                    refine WE.fin (.inl ⟨9, rfl, by kernel_rfl⟩) (by kernel_rfl) ?_
                    refine WN.thn (WC.ret ?_)
                    have hv : prologA id z m f.cd = anM id m (wrM m 0 f.cd) 1 (mn1 f.cd) := by unfold prologA; rw [if_neg (by rw [c4]; decide), if_neg u3, if_neg u5, if_neg (or_f g0 c9), if_neg (by rw [c11]; decide)]
                    refine retA rfl (ResOk.blk h17 0 rfl Try.underlying39 rfl inf39 rfl rfl) ⟨F, none, 0, Le.refl F, by rw [hv] <;> rfl, by rw [hv]; exact .inl rfl, ((h17.drop 0).drop 0)⟩
        · have u5 : ¬ (hasJ z m && decide (phJ z m = 2)) = true := hj_f (fun hh => p1 hh.2)
          refine WC.reg ?_
          refine WL.v (Runs.move rfl) rfl ?_
          refine WL.v (Runs.nilCheckP rfl) rfl ?_
          refine WL.v (Runs.fld fld85_4 rfl) rfl ?_
          refine WL.v (Runs.boolT (c := true) (Runs.load1 Try.underlying4 rfl rfl (h3.cell (cellB hfzx rfl))) p0) rfl ?_
          refine WL.v (Runs.move rfl) rfl ?_
          refine WL.gon rfl rfl rfl ?_
          refine WL.v (Runs.move rfl) rfl ?_
          refine WL.gon rfl rfl rfl ?_
          refine WL.v (Runs.nilCheckP rfl) rfl ?_
          refine WL.gon rfl rfl rfl ?_
          refine WL.v (Runs.fld fld85_3 rfl) rfl ?_
          refine WL.gon rfl rfl rfl ?_
          refine WL.v (Runs.fld fld77_2 rfl) rfl ?_
          refine WL.gon rfl rfl rfl ?_
          refine WL.v (Runs.load1 Try.underlying3 rfl rfl (h3.cell (cellB hfzx rfl))) rfl ?_
          refine WL.gon rfl rfl rfl ?_
          refine WL.v (Runs.boolT (c := false) (Runs.eql rfl rfl) (decide_eq_false p1)) rfl ?_
          refine WL.v (Runs.pick rfl rfl rfl) rfl ?_
          refine WL.v (Runs.assign rfl) rfl ?_
          refine WL.nil (WN.thn ?_)
          refine WC.condF rfl (rfl) ?_
          refine WC.seq ?_
          rcases Bool.eq_false_or_eq_true (hasJ z m) with g0 | g0
          · skip
            refine WC.reg ?_
            refine WL.v (Runs.move rfl) rfl ?_
            refine WL.v (Runs.nilCheckP rfl) rfl ?_
            refine WL.v (Runs.fld fld85_4 rfl) rfl ?_
            refine WL.v (Runs.boolT (c := true) (Runs.load1 Try.underlying4 rfl rfl (h3.cell (cellB hfzx rfl))) g0) rfl ?_
            refine WL.v (Runs.move rfl) rfl ?_
            refine WL.goff rfl rfl rfl rfl ?_
            refine WL.goff rfl rfl rfl rfl ?_
            refine WL.v (Runs.pick rfl rfl rfl) rfl ?_
            refine WL.v (Runs.assign rfl) rfl ?_
            refine WL.nil (WN.thn ?_)
            refine WC.condT rfl (rfl) ?_
            refine WC.seq (WC.reg ?_)
            refine WL.v (Runs.build (vs := []) (cells := #[.bool false, Vi 0, Vi 0, Vi 0, Vi 0, Vi 0, .slice none 0 0, .bool false, Vi 0, Vi 0, Vi 0, Vi 0, Vi 0, Vi 0, Vi 0, .string ⟨#[]⟩, .bool false, .bool false, .bool false]) rfl (by kernel_rfl)) rfl ?_
            refine WL.storeAll h3 0 rfl rfl rfl inf39 rfl rfl rfl (Free.zero _) ?_
            intro  w18 h18
            try simp only [lz, ls, ez, es'] at h18
            refine WL.nil (WN.thn (WC.ret ?_))
            have hv : prologA id z m f.cd = A0 := by unfold prologA; rw [if_neg (by rw [c4]; decide), if_neg u3, if_neg u5, if_pos (by rw [g0]; rfl)]
            refine retA rfl (ResOk.blk h18 0 rfl Try.underlying39 rfl inf39 rfl rfl) ⟨F, none, 0, Le.refl F, by rw [hv] <;> rfl, by rw [hv]; exact .inl rfl, ((h18.drop 0).drop 0)⟩
          · skip
            refine WC.reg ?_
            refine WL.v (Runs.move rfl) rfl ?_
            refine WL.v (Runs.nilCheckP rfl) rfl ?_
            refine WL.v (Runs.fld fld85_4 rfl) rfl ?_
            refine WL.v (Runs.boolT (c := false) (Runs.load1 Try.underlying4 rfl rfl (h3.cell (cellB hfzx rfl))) g0) rfl ?_
            refine WL.v (Runs.move rfl) rfl ?_
            refine WL.gon rfl rfl rfl ?_
            refine WL.v (Runs.move rfl) rfl ?_
            refine WL.gon rfl rfl rfl ?_
            refine WL.call can56 rfl rfl (nwer_c _ hX0 hz h3) ?_
            rintro _ w19 ⟨rfl, h19⟩
            refine ⟨_, rfl, ?_⟩
            refine WL.v (Runs.pick rfl rfl rfl) rfl ?_
            refine WL.v (Runs.assign rfl) rfl ?_
            refine WL.nil (WN.thn ?_)
            refine WC.cond rfl (fun c20 => ?_) (fun c20 => ?_)
            · try simp only [dt, df, nt, nf, ba, il, ie] at c20
              first
              | (exfalso; omega)
              | skip
                refine WC.seq (WC.reg ?_)
                refine WL.v (Runs.build (vs := []) (cells := #[.bool false, Vi 0, Vi 0, Vi 0, Vi 0, Vi 0, .slice none 0 0, .bool false, Vi 0, Vi 0, Vi 0, Vi 0, Vi 0, Vi 0, Vi 0, .string ⟨#[]⟩, .bool false, .bool false, .bool false]) rfl (by kernel_rfl)) rfl ?_
                refine WL.storeAll h19 0 rfl rfl rfl inf39 rfl rfl rfl (Free.zero _) ?_
                intro  w21 h21
                try simp only [lz, ls, ez, es'] at h21
                refine WL.nil (WN.thn (WC.ret ?_))
                have hv : prologA id z m f.cd = A0 := by unfold prologA; rw [if_neg (by rw [c4]; decide), if_neg u3, if_neg u5, if_pos (by rw [c20]; simp)]
                refine retA rfl (ResOk.blk h21 0 rfl Try.underlying39 rfl inf39 rfl rfl) ⟨F, none, 0, Le.refl F, by rw [hv] <;> rfl, by rw [hv]; exact .inl rfl, ((h21.drop 0).drop 0)⟩
            · try simp only [dt, df, nt, nf, ba, il, ie] at c20
              first
              | (exfalso; omega)
              | skip
                refine WC.seq (WC.reg ?_)
                refine WL.v (Runs.move rfl) rfl ?_
                refine WL.v (Runs.nilCheckP rfl) rfl ?_
                refine WL.v (Runs.fld fld85_2 rfl) rfl ?_
                refine WL.v (Runs.fld fld45_2 rfl) rfl ?_
                refine WL.v (Runs.load1 Try.underlying4 rfl rfl (h19.cell (cellB hfzx rfl))) rfl ?_
                refine WL.v (Runs.assign rfl) rfl ?_
                refine WL.nil (WN.thn ?_)
                refine WC.cond rfl (fun c22 => ?_) (fun c22 => ?_)
                · try simp only [dt, df, nt, nf, ba, il, ie] at c22
                  first
                  | (exfalso; omega)
                  | skip
                    refine WC.seq (WC.reg ?_)
                    refine WL.v (Runs.move rfl) rfl ?_
                    refine WL.v (Runs.build (vs := []) (cells := #[.bool false, Vi 0, Vi 0, Vi 0, Vi 0, Vi 0, .slice none 0 0, .bool false, Vi 0, Vi 0, Vi 0, Vi 0, Vi 0, Vi 0, Vi 0, .string ⟨#[]⟩, .bool false, .bool false, .bool false]) rfl (by kernel_rfl)) rfl ?_
                    refine WL.call can45 rfl rfl ((show Calls _ _ #[_, .agg (acv none 0 A0), _, _] _ _ from answer_c _ hX0 (a := A0) 1 1 h19)) ?_
                    rintro _ w23 ⟨rfl, h23⟩
                    refine ⟨_, rfl, ?_⟩
                    refine WL.storeAll h23 0 rfl rfl rfl inf39 rfl rfl rfl (Free.zero _) ?_
                    intro  w24 h24
                    try simp only [lz, ls, ez, es'] at h24
                    refine WL.nil (WN.thn (WC.ret ?_))
                    have hv : prologA id z m f.cd = anM id m A0 1 1 := by unfold prologA; rw [if_neg (by rw [c4]; decide), if_neg u3, if_neg u5, if_neg (or_f g0 c20), if_pos c22]
                    refine retA rfl (ResOk.blk h24 0 rfl Try.underlying39 rfl inf39 rfl rfl) ⟨F, none, 0, Le.refl F, by rw [hv] <;> rfl, by rw [hv]; exact .inl rfl, ((h24.drop 0).drop 0)⟩
                · try simp only [dt, df, nt, nf, ba, il, ie] at c22
                  first
                  | (exfalso; omega)
                  | skip
                    refine WC.skip (WN.blk (WN.thn (WC.seq ?_)))
                    refine WC.eregK h19 h19 (fun s_ => ([9] : List Nat).any (Nat.beq s_)) mixed (by kernel_rfl) (fun hx => ?_)
                    intro w25 h25
                    refine WE.p0 hx 0 (by rfl) (fun w_ => Runs.move rfl) rfl ?_
                    refine WE.p0 hx 1 (by rfl) (fun w_ => Runs.move rfl) rfl ?_
                    refine WE.p0 hx 2 (by rfl) (fun w_ => Runs.fld fld47_2 rfl) rfl ?_
                    refine WE.p0 hx 5 (by rfl) (fun w_ => Runs.fld fld47_2 rfl) rfl ?_
                    refine WE.v0 12 hx 3 (by rfl) (fun w_ hE_ => Runs.load1 Try.underlying3 rfl rfl (hE_.ocell (i := 1) rfl rfl)) rfl ?_
                    refine WE.v0 12 hx 6 (by rfl) (fun w_ hE_ => Runs.load1 Try.underlying3 rfl rfl (hE_.ocell (i := 1) rfl rfl)) rfl ?_
                    refine WE.p0 hx 7 (by rfl) (fun w_ => Runs.min rfl rfl) rfl ?_
                    refine WE.op (.inr h25) (i := 4) (by rfl) (by kernel_rfl) ?_
                    refine WL.call can46 rfl rfl (write_c _ hX0 0 f.cd h25) ?_
                    rintro _ w26 ⟨rfl, h26⟩
                    refine ⟨_, rfl, ?_⟩
                    refine WL.nil (WE.next ?_)
                    refine WE.op (.inr h26) (i := 8) (by rfl) (by kernel_rfl) ?_
                    refine WL.call can45 rfl rfl ((show Calls _ _ #[_, .agg (acv none 0 (wrM m 0 f.cd)), _, _] _ _ from answer_c _ hX0 (a := (wrM m 0 f.cd)) 1 (mn1 f.cd) h26)) ?_
                    rintro _ w27 ⟨rfl, h27⟩
                    refine ⟨_, rfl, ?_⟩
                    refine WL.nil (WE.next ?_)
                    refine WE.op (.inr h27) (i := 9) (by rfl) (by kernel_rfl) ?_
                    refine WL.storeAll h27 0 rfl rfl rfl inf39 rfl rfl rfl (Free.zero _) ?_
                    intro  w28 h28
                    try simp only [lz, ls, ez, es'] at h28
                    refine WL.nil (WE.next ?_)
                    refine WE.fin (.inl ⟨9, rfl, by kernel_rfl⟩) (by kernel_rfl) ?_
                    refine WN.thn (WC.ret ?_)
                    have hv : prologA id z m f.cd = anM id m (wrM m 0 f.cd) 1 (mn1 f.cd) := by unfold prologA; rw [if_neg (by rw [c4]; decide), if_neg u3, if_neg u5, if_neg (or_f g0 c20), if_neg (by rw [c22]; decide)]
                    refine retA rfl (ResOk.blk h28 0 rfl Try.underlying39 rfl inf39 rfl rfl) ⟨F, none, 0, Le.refl F, by rw [hv] <;> rfl, by rw [hv]; exact .inl rfl, ((h28.drop 0).drop 0)⟩
        · have u5 : (hasJ z m && decide (phJ z m = 2)) = true := hj_t p0 p1
          refine WC.reg ?_
          refine WL.v (Runs.move rfl) rfl ?_
          refine WL.v (Runs.nilCheckP rfl) rfl ?_
          refine WL.v (Runs.fld fld85_4 rfl) rfl ?_
          refine WL.v (Runs.boolT (c := true) (Runs.load1 Try.underlying4 rfl rfl (h3.cell (cellB hfzx rfl))) p0) rfl ?_
          refine WL.v (Runs.move rfl) rfl ?_
          refine WL.gon rfl rfl rfl ?_
          refine WL.v (Runs.move rfl) rfl ?_
          refine WL.gon rfl rfl rfl ?_
          refine WL.v (Runs.nilCheckP rfl) rfl ?_
          refine WL.gon rfl rfl rfl ?_
          refine WL.v (Runs.fld fld85_3 rfl) rfl ?_
          refine WL.gon rfl rfl rfl ?_
          refine WL.v (Runs.fld fld77_2 rfl) rfl ?_
          refine WL.gon rfl rfl rfl ?_
          refine WL.v (Runs.load1 Try.underlying3 rfl rfl (h3.cell (cellB hfzx rfl))) rfl ?_
          refine WL.gon rfl rfl rfl ?_
          refine WL.v (Runs.boolT (c := true) (Runs.eql rfl rfl) (decide_eq_true p1)) rfl ?_
          refine WL.v (Runs.pick rfl rfl rfl) rfl ?_
          refine WL.v (Runs.assign rfl) rfl ?_
          refine WL.nil (WN.thn ?_)
          refine WC.condT rfl (rfl) ?_
          refine WC.seq (WC.reg ?_)
          refine WL.v (Runs.move rfl) rfl ?_
          refine WL.v (Runs.build (vs := []) (cells := #[.bool false, Vi 0, Vi 0, Vi 0, Vi 0, Vi 0, .slice none 0 0, .bool false, Vi 0, Vi 0, Vi 0, Vi 0, Vi 0, Vi 0, Vi 0, .string ⟨#[]⟩, .bool false, .bool false, .bool false]) rfl (by kernel_rfl)) rfl ?_
          refine WL.call can45 rfl rfl ((show Calls _ _ #[_, .agg (acv none 0 A0), _, _] _ _ from answer_c _ hX0 (a := A0) 9 0 h3)) ?_
          rintro _ w29 ⟨rfl, h29⟩
          refine ⟨_, rfl, ?_⟩
          refine WL.storeAll h29 0 rfl rfl rfl inf39 rfl rfl rfl (Free.zero _) ?_
          intro  w30 h30
          try simp only [lz, ls, ez, es'] at h30
          refine WL.nil (WN.thn (WC.ret ?_))
          have hv : prologA id z m f.cd = anM id m A0 9 0 := by unfold prologA; rw [if_neg (by rw [c4]; decide), if_neg u3, if_pos u5]
          refine retA rfl (ResOk.blk h30 0 rfl Try.underlying39 rfl inf39 rfl rfl) ⟨F, none, 0, Le.refl F, by rw [hv] <;> rfl, by rw [hv]; exact .inl rfl, ((h30.drop 0).drop 0)⟩
      · have u3 : ¬ (hasJ z m && decide (phJ z m = 1)) = true := hj_f (fun hh => p1 hh.2)
        refine WC.reg ?_
        refine WL.v (Runs.move rfl) rfl ?_
        refine WL.v (Runs.nilCheckP rfl) rfl ?_
        refine WL.v (Runs.fld fld85_4 rfl) rfl ?_
        refine WL.v (Runs.boolT (c := true) (Runs.load1 Try.underlying4 rfl rfl (h3.cell (cellB hfzx rfl))) p0) rfl ?_
        refine WL.v (Runs.move rfl) rfl ?_
        refine WL.gon rfl rfl rfl ?_
        refine WL.v (Runs.move rfl) rfl ?_
        refine WL.gon rfl rfl rfl ?_
        refine WL.v (Runs.nilCheckP rfl) rfl ?_
        refine WL.gon rfl rfl rfl ?_
        refine WL.v (Runs.fld fld85_3 rfl) rfl ?_
        refine WL.gon rfl rfl rfl ?_
        refine WL.v (Runs.fld fld77_2 rfl) rfl ?_
        refine WL.gon rfl rfl rfl ?_
        refine WL.v (Runs.load1 Try.underlying3 rfl rfl (h3.cell (cellB hfzx rfl))) rfl ?_
        refine WL.gon rfl rfl rfl ?_
        refine WL.v (Runs.boolT (c := false) (Runs.eql rfl rfl) (decide_eq_false p1)) rfl ?_
        refine WL.v (Runs.pick rfl rfl rfl) rfl ?_
        refine WL.v (Runs.assign rfl) rfl ?_
        refine WL.nil (WN.thn ?_)
        refine WC.condF rfl (rfl) ?_
        refine WC.seq ?_
        rcases two (hasJ z m = true) (phJ z m = 2) with p0 | ⟨p0, p1⟩ | ⟨p0, p1⟩
        · have u5 : ¬ (hasJ z m && decide (phJ z m = 2)) = true := hj_f (fun hh => p0 hh.1)
          refine WC.reg ?_
          refine WL.v (Runs.move rfl) rfl ?_
          refine WL.v (Runs.nilCheckP rfl) rfl ?_
          refine WL.v (Runs.fld fld85_4 rfl) rfl ?_
          refine WL.v (Runs.boolT (c := false) (Runs.load1 Try.underlying4 rfl rfl (h3.cell (cellB hfzx rfl))) (Bool.eq_false_iff.2 p0)) rfl ?_
          refine WL.v (Runs.move rfl) rfl ?_
          refine WL.goff rfl rfl rfl rfl ?_
          refine WL.goff rfl rfl rfl rfl ?_
          refine WL.goff rfl rfl rfl rfl ?_
          refine WL.goff rfl rfl rfl rfl ?_
          refine WL.goff rfl rfl rfl rfl ?_
          refine WL.goff rfl rfl rfl rfl ?_
          refine WL.v (Runs.pick rfl rfl rfl) rfl ?_
          refine WL.v (Runs.assign rfl) rfl ?_
          refine WL.nil (WN.thn ?_)
          refine WC.condF rfl (rfl) ?_
          refine WC.seq ?_
          rcases Bool.eq_false_or_eq_true (hasJ z m) with g0 | g0
          · skip
            refine WC.reg ?_
            refine WL.v (Runs.move rfl) rfl ?_
            refine WL.v (Runs.nilCheckP rfl) rfl ?_
            refine WL.v (Runs.fld fld85_4 rfl) rfl ?_
            refine WL.v (Runs.boolT (c := true) (Runs.load1 Try.underlying4 rfl rfl (h3.cell (cellB hfzx rfl))) g0) rfl ?_
            refine WL.v (Runs.move rfl) rfl ?_
            refine WL.goff rfl rfl rfl rfl ?_
            refine WL.goff rfl rfl rfl rfl ?_
            refine WL.v (Runs.pick rfl rfl rfl) rfl ?_
            refine WL.v (Runs.assign rfl) rfl ?_
            refine WL.nil (WN.thn ?_)
            refine WC.condT rfl (rfl) ?_
            refine WC.seq (WC.reg ?_)
            refine WL.v (Runs.build (vs := []) (cells := #[.bool false, Vi 0, Vi 0, Vi 0, Vi 0, Vi 0, .slice none 0 0, .bool false, Vi 0, Vi 0, Vi 0, Vi 0, Vi 0, Vi 0, Vi 0, .string ⟨#[]⟩, .bool false, .bool false, .bool false]) rfl (by kernel_rfl)) rfl ?_
            refine WL.storeAll h3 0 rfl rfl rfl inf39 rfl rfl rfl (Free.zero _) ?_
            intro  w31 h31
            try simp only [lz, ls, ez, es'] at h31
            refine WL.nil (WN.thn (WC.ret ?_))
            have hv : prologA id z m f.cd = A0 := by unfold prologA; rw [if_neg (by rw [c4]; decide), if_neg u3, if_neg u5, if_pos (by rw [g0]; rfl)]
            refine retA rfl (ResOk.blk h31 0 rfl Try.underlying39 rfl inf39 rfl rfl) ⟨F, none, 0, Le.refl F, by rw [hv] <;> rfl, by rw [hv]; exact .inl rfl, ((h31.drop 0).drop 0)⟩
          · skip
            refine WC.reg ?_
            refine WL.v (Runs.move rfl) rfl ?_
            refine WL.v (Runs.nilCheckP rfl) rfl ?_
            refine WL.v (Runs.fld fld85_4 rfl) rfl ?_
            refine WL.v (Runs.boolT (c := false) (Runs.load1 Try.underlying4 rfl rfl (h3.cell (cellB hfzx rfl))) g0) rfl ?_
            refine WL.v (Runs.move rfl) rfl ?_
            refine WL.gon rfl rfl rfl ?_
            refine WL.v (Runs.move rfl) rfl ?_
            refine WL.gon rfl rfl rfl ?_
            refine WL.call can56 rfl rfl (nwer_c _ hX0 hz h3) ?_
            rintro _ w32 ⟨rfl, h32⟩
            refine ⟨_, rfl, ?_⟩
            refine WL.v (Runs.pick rfl rfl rfl) rfl ?_
            refine WL.v (Runs.assign rfl) rfl ?_
            refine WL.nil (WN.thn ?_)
            refine WC.cond rfl (fun c33 => ?_) (fun c33 => ?_)
            · try simp only [dt, df, nt, nf, ba, il, ie] at c33
              first
              | (exfalso; omega)
              | skip
                refine WC.seq (WC.reg ?_)
                refine WL.v (Runs.build (vs := []) (cells := #[.bool false, Vi 0, Vi 0, Vi 0, Vi 0, Vi 0, .slice none 0 0, .bool false, Vi 0, Vi 0, Vi 0, Vi 0, Vi 0, Vi 0, Vi 0, .string ⟨#[]⟩, .bool false, .bool false, .bool false]) rfl (by kernel_rfl)) rfl ?_
                refine WL.storeAll h32 0 rfl rfl rfl inf39 rfl rfl rfl (Free.zero _) ?_
                intro  w34 h34
                try simp only [lz, ls, ez, es'] at h34
                refine WL.nil (WN.thn (WC.ret ?_))
                have hv : prologA id z m f.cd = A0 := by unfold prologA; rw [if_neg (by rw [c4]; decide), if_neg u3, if_neg u5, if_pos (by rw [c33]; simp)]
                refine retA rfl (ResOk.blk h34 0 rfl Try.underlying39 rfl inf39 rfl rfl) ⟨F, none, 0, Le.refl F, by rw [hv] <;> rfl, by rw [hv]; exact .inl rfl, ((h34.drop 0).drop 0)⟩
            · try simp only [dt, df, nt, nf, ba, il, ie] at c33
              first
              | (exfalso; omega)
              | skip
                refine WC.seq (WC.reg ?_)
                refine WL.v (Runs.move rfl) rfl ?_
                refine WL.v (Runs.nilCheckP rfl) rfl ?_
                refine WL.v (Runs.fld fld85_2 rfl) rfl ?_
                refine WL.v (Runs.fld fld45_2 rfl) rfl ?_
                refine WL.v (Runs.load1 Try.underlying4 rfl rfl (h32.cell (cellB hfzx rfl))) rfl ?_
                refine WL.v (Runs.assign rfl) rfl ?_
                refine WL.nil (WN.thn ?_)
                refine WC.cond rfl (fun c35 => ?_) (fun c35 => ?_)
                · try simp only [dt, df, nt, nf, ba, il, ie] at c35
                  first
                  | (exfalso; omega)
                  | skip
                    refine WC.seq (WC.reg ?_)
                    refine WL.v (Runs.move rfl) rfl ?_
                    refine WL.v (Runs.build (vs := []) (cells := #[.bool false, Vi 0, Vi 0, Vi 0, Vi 0, Vi 0, .slice none 0 0, .bool false, Vi 0, Vi 0, Vi 0, Vi 0, Vi 0, Vi 0, Vi 0, .string ⟨#[]⟩, .bool false, .bool false, .bool false]) rfl (by kernel_rfl)) rfl ?_
                    refine WL.call can45 rfl rfl ((show Calls _ _ #[_, .agg (acv none 0 A0), _, _] _ _ from answer_c _ hX0 (a := A0) 1 1 h32)) ?_
                    rintro _ w36 ⟨rfl, h36⟩
                    refine ⟨_, rfl, ?_⟩
                    refine WL.storeAll h36 0 rfl rfl rfl inf39 rfl rfl rfl (Free.zero _) ?_
                    intro  w37 h37
                    try simp only [lz, ls, ez, es'] at h37
                    refine WL.nil (WN.thn (WC.ret ?_))
                    have hv : prologA id z m f.cd = anM id m A0 1 1 := by unfold prologA; rw [if_neg (by rw [c4]; decide), if_neg u3, if_neg u5, if_neg (or_f g0 c33), if_pos c35]
                    refine retA rfl (ResOk.blk h37 0 rfl Try.underlying39 rfl inf39 rfl rfl) ⟨F, none, 0, Le.refl F, by rw [hv] <;> rfl, by rw [hv]; exact .inl rfl, ((h37.drop 0).drop 0)⟩
                · try simp only [dt, df, nt, nf, ba, il, ie] at c35
                  first
                  | (exfalso; omega)
                  | skip
                    refine WC.skip (WN.blk (WN.thn (WC.seq ?_)))
                    refine WC.eregK h32 h32 (fun s_ => ([9] : List Nat).any (Nat.beq s_)) mixed (by kernel_rfl) (fun hx => ?_)
                    intro w38 h38
                    refine WE.p0 hx 0 (by rfl) (fun w_ => Runs.move rfl) rfl ?_
                    refine WE.p0 hx 1 (by rfl) (fun w_ => Runs.move rfl) rfl ?_
                    refine WE.p0 hx 2 (by rfl) (fun w_ => Runs.fld fld47_2 rfl) rfl ?_
                    refine WE.p0 hx 5 (by rfl) (fun w_ => Runs.fld fld47_2 rfl) rfl ?_
                    refine WE.v0 12 hx 3 (by rfl) (fun w_ hE_ => Runs.load1 Try.underlying3 rfl rfl (hE_.ocell (i := 1) rfl rfl)) rfl ?_
                    refine WE.v0 12 hx 6 (by rfl) (fun w_ hE_ => Runs.load1 Try.underlying3 rfl rfl (hE_.ocell (i := 1) rfl rfl)) rfl ?_
                    refine WE.p0 hx 7 (by rfl) (fun w_ => Runs.min rfl rfl) rfl ?_
                    refine WE.op (.inr h38) (i := 4) (by rfl) (by kernel_rfl) ?_
                    refine WL.call can46 rfl rfl (write_c _ hX0 0 f.cd h38) ?_
                    rintro _ w39 ⟨rfl, h39⟩
                    refine ⟨_, rfl, ?_⟩
                    refine WL.nil (WE.next ?_)
                    refine WE.op (.inr h39) (i := 8) (by rfl) (by kernel_rfl) ?_
                    refine WL.call can45 rfl rfl ((show Calls _ _ #[_, .agg (acv none 0 (wrM m 0 f.cd)), _, _] _ _ from answer_c _ hX0 (a := (wrM m 0 f.cd)) 1 (mn1 f.cd) h39)) ?_
                    rintro _ w40 ⟨rfl, h40⟩
                    refine ⟨_, rfl, ?_⟩
                    refine WL.nil (WE.next ?_)
                    refine WE.op (.inr h40) (i := 9) (by rfl) (by kernel_rfl) ?_
                    refine WL.storeAll h40 0 rfl rfl rfl inf39 rfl rfl rfl (Free.zero _) ?_
                    intro  w41 h41
                    try simp only [lz, ls, ez, es'] at h41
                    refine WL.nil (WE.next ?_)
                    refine WE.fin (.inl ⟨9, rfl, by kernel_rfl⟩) (by kernel_rfl) ?_
                    refine WN.thn (WC.ret ?_)
                    have hv : prologA id z m f.cd = anM id m (wrM m 0 f.cd) 1 (mn1 f.cd) := by unfold prologA; rw [if_neg (by rw [c4]; decide), if_neg u3, if_neg u5, if_neg (or_f g0 c33), if_neg (by rw [c35]; decide)]
                    refine retA rfl (ResOk.blk h41 0 rfl Try.underlying39 rfl inf39 rfl rfl) ⟨F, none, 0, Le.refl F, by rw [hv] <;> rfl, by rw [hv]; exact .inl rfl, ((h41.drop 0).drop 0)⟩
        · have u5 : ¬ (hasJ z m && decide (phJ z m = 2)) = true := hj_f (fun hh => p1 hh.2)
          refine WC.reg ?_
          refine WL.v (Runs.move rfl) rfl ?_
          refine WL.v (Runs.nilCheckP rfl) rfl ?_
          refine WL.v (Runs.fld fld85_4 rfl) rfl ?_
          refine WL.v (Runs.boolT (c := true) (Runs.load1 Try.underlying4 rfl rfl (h3.cell (cellB hfzx rfl))) p0) rfl ?_
          refine WL.v (Runs.move rfl) rfl ?_
          refine WL.gon rfl rfl rfl ?_
          refine WL.v (Runs.move rfl) rfl ?_
          refine WL.gon rfl rfl rfl ?_
          refine WL.v (Runs.nilCheckP rfl) rfl ?_
          refine WL.gon rfl rfl rfl ?_
          refine WL.v (Runs.fld fld85_3 rfl) rfl ?_
          refine WL.gon rfl rfl rfl ?_
          refine WL.v (Runs.fld fld77_2 rfl) rfl ?_
          refine WL.gon rfl rfl rfl ?_
          refine WL.v (Runs.load1 Try.underlying3 rfl rfl (h3.cell (cellB hfzx rfl))) rfl ?_
          refine WL.gon rfl rfl rfl ?_
          refine WL.v (Runs.boolT (c := false) (Runs.eql rfl rfl) (decide_eq_false p1)) rfl ?_
          refine WL.v (Runs.pick rfl rfl rfl) rfl ?_
          refine WL.v (Runs.assign rfl) rfl ?_
          refine WL.nil (WN.thn ?_)
          refine WC.condF rfl (rfl) ?_
          refine WC.seq ?_
          rcases Bool.eq_false_or_eq_true (hasJ z m) with g0 | g0
          · skip
            refine WC.reg ?_
            refine WL.v (Runs.move rfl) rfl ?_
            refine WL.v (Runs.nilCheckP rfl) rfl ?_
            refine WL.v (Runs.fld fld85_4 rfl) rfl ?_
            refine WL.v (Runs.boolT (c := true) (Runs.load1 Try.underlying4 rfl rfl (h3.cell (cellB hfzx rfl))) g0) rfl ?_
            refine WL.v (Runs.move rfl) rfl ?_
            refine WL.goff rfl rfl rfl rfl ?_
            refine WL.goff rfl rfl rfl rfl ?_
            refine WL.v (Runs.pick rfl rfl rfl) rfl ?_
            refine WL.v (Runs.assign rfl) rfl ?_
            refine WL.nil (WN.thn ?_)
            refine WC.condT rfl (rfl) ?_
            refine WC.seq (WC.reg ?_)
            refine WL.v (Runs.build (vs := []) (cells := #[.bool false, Vi 0, Vi 0, Vi 0, Vi 0, Vi 0, .slice none 0 0, .bool false, Vi 0, Vi 0, Vi 0, Vi 0, Vi 0, Vi 0, Vi 0, .string ⟨#[]⟩, .bool false, .bool false, .bool false]) rfl (by kernel_rfl)) rfl ?_
            refine WL.storeAll h3 0 rfl rfl rfl inf39 rfl rfl rfl (Free.zero _) ?_
            intro  w42 h42
            try simp only [lz, ls, ez, es'] at h42
            refine WL.nil (WN.thn (WC.ret ?_))
            have hv : prologA id z m f.cd = A0 := by unfold prologA; rw [if_neg (by rw [c4]; decide), if_neg u3, if_neg u5, if_pos (by rw [g0]; rfl)]
            refine retA rfl (ResOk.blk h42 0 rfl Try.underlying39 rfl inf39 rfl rfl) ⟨F, none, 0, Le.refl F, by rw [hv] <;> rfl, by rw [hv]; exact .inl rfl, ((h42.drop 0).drop 0)⟩
          · skip
            refine WC.reg ?_
            refine WL.v (Runs.move rfl) rfl ?_
            refine WL.v (Runs.nilCheckP rfl) rfl ?_
            refine WL.v (Runs.fld fld85_4 rfl) rfl ?_
            refine WL.v (Runs.boolT (c := false) (Runs.load1 Try.underlying4 rfl rfl (h3.cell (cellB hfzx rfl))) g0) rfl ?_
            refine WL.v (Runs.move rfl) rfl ?_
            refine WL.gon rfl rfl rfl ?_
            refine WL.v (Runs.move rfl) rfl ?_
            refine WL.gon rfl rfl rfl ?_
            refine WL.call can56 rfl rfl (nwer_c _ hX0 hz h3) ?_
            rintro _ w43 ⟨rfl, h43⟩
            refine ⟨_, rfl, ?_⟩
            refine WL.v (Runs.pick rfl rfl rfl) rfl ?_
            refine WL.v (Runs.assign rfl) rfl ?_
            refine WL.nil (WN.thn ?_)
            refine WC.cond rfl (fun c44 => ?_) (fun c44 => ?_)
            · try simp only [dt, df, nt, nf, ba, il, ie] at c44
              first
              | (exfalso; omega)
              | skip
                refine WC.seq (WC.reg ?_)
                refine WL.v (Runs.build (vs := []) (cells := #[.bool false, Vi 0, Vi 0, Vi 0, Vi 0, Vi 0, .slice none 0 0, .bool false, Vi 0, Vi 0, Vi 0, Vi 0, Vi 0, Vi 0, Vi 0, .string ⟨#[]⟩, .bool false, .bool false, .bool false]) rfl (by kernel_rfl)) rfl ?_
                refine WL.storeAll h43 0 rfl rfl rfl inf39 rfl rfl rfl (Free.zero _) ?_
                intro  w45 h45
                try simp only [lz, ls, ez, es'] at h45
                refine WL.nil (WN.thn (WC.ret ?_))
                have hv : prologA id z m f.cd = A0 := by unfold prologA; rw [if_neg (by rw [c4]; decide), if_neg u3, if_neg u5, if_pos (by rw [c44]; simp)]
                refine retA rfl (ResOk.blk h45 0 rfl Try.underlying39 rfl inf39 rfl rfl) ⟨F, none, 0, Le.refl F, by rw [hv] <;> rfl, by rw [hv]; exact .inl rfl, ((h45.drop 0).drop 0)⟩
            · try simp only [dt, df, nt, nf, ba, il, ie] at c44
              first
              | (exfalso; omega)
              | skip
                refine WC.seq (WC.reg ?_)
                refine WL.v (Runs.move rfl) rfl ?_
                refine WL.v (Runs.nilCheckP rfl) rfl ?_
                refine WL.v (Runs.fld fld85_2 rfl) rfl ?_
                refine WL.v (Runs.fld fld45_2 rfl) rfl ?_
                refine WL.v (Runs.load1 Try.underlying4 rfl rfl (h43.cell (cellB hfzx rfl))) rfl ?_
                refine WL.v (Runs.assign rfl) rfl ?_
                refine WL.nil (WN.thn ?_)
                refine WC.cond rfl (fun c46 => ?_) (fun c46 => ?_)
                · try simp only [dt, df, nt, nf, ba, il, ie] at c46
                  first
                  | (exfalso; omega)
                  | skip
                    refine WC.seq (WC.reg ?_)
                    refine WL.v (Runs.move rfl) rfl ?_
                    refine WL.v (Runs.build (vs := []) (cells := #[.bool false, Vi 0, Vi 0, Vi 0, Vi 0, Vi 0, .slice none 0 0, .bool false, Vi 0, Vi 0, Vi 0, Vi 0, Vi 0, Vi 0, Vi 0, .string ⟨#[]⟩, .bool false, .bool false, .bool false]) rfl (by kernel_rfl)) rfl ?_
                    refine WL.call can45 rfl rfl ((show Calls _ _ #[_, .agg (acv none 0 A0), _, _] _ _ from answer_c _ hX0 (a := A0) 1 1 h43)) ?_
                    rintro _ w47 ⟨rfl, h47⟩
                    refine ⟨_, rfl, ?_⟩
                    refine WL.storeAll h47 0 rfl rfl rfl inf39 rfl rfl rfl (Free.zero _) ?_
                    intro  w48 h48
                    try simp only [lz, ls, ez, es'] at h48
                    refine WL.nil (WN.thn (WC.ret ?_))
                    have hv : prologA id z m f.cd = anM id m A0 1 1 := by unfold prologA; rw [if_neg (by rw [c4]; decide), if_neg u3, if_neg u5, if_neg (or_f g0 c44), if_pos c46]
                    refine retA rfl (ResOk.blk h48 0 rfl Try.underlying39 rfl inf39 rfl rfl) ⟨F, none, 0, Le.refl F, by rw [hv] <;> rfl, by rw [hv]; exact .inl rfl, ((h48.drop 0).drop 0)⟩
                · try simp only [dt, df, nt, nf, ba, il, ie] at c46
                  first
                  | (exfalso; omega)
                  | skip
                    refine WC.skip (WN.blk (WN.thn (WC.seq ?_)))
                    refine WC.eregK h43 h43 (fun s_ => ([9] : List Nat).any (Nat.beq s_)) mixed (by kernel_rfl) (fun hx => ?_)
                    intro w49 h49
                    refine WE.p0 hx 0 (by rfl) (fun w_ => Runs.move rfl) rfl ?_
                    refine WE.p0 hx 1 (by rfl) (fun w_ => Runs.move rfl) rfl ?_
                    refine WE.p0 hx 2 (by rfl) (fun w_ => Runs.fld fld47_2 rfl) rfl ?_
                    refine WE.p0 hx 5 (by rfl) (fun w_ => Runs.fld fld47_2 rfl) rfl ?_
                    refine WE.v0 12 hx 3 (by rfl) (fun w_ hE_ => Runs.load1 Try.underlying3 rfl rfl (hE_.ocell (i := 1) rfl rfl)) rfl ?_
                    refine WE.v0 12 hx 6 (by rfl) (fun w_ hE_ => Runs.load1 Try.underlying3 rfl rfl (hE_.ocell (i := 1) rfl rfl)) rfl ?_
                    refine WE.p0 hx 7 (by rfl) (fun w_ => Runs.min rfl rfl) rfl ?_
                    refine WE.op (.inr h49) (i := 4) (by rfl) (by kernel_rfl) ?_
                    refine WL.call can46 rfl rfl (write_c _ hX0 0 f.cd h49) ?_
                    rintro _ w50 ⟨rfl, h50⟩
                    refine ⟨_, rfl, ?_⟩
                    refine WL.nil (WE.next ?_)
                    refine WE.op (.inr h50) (i := 8) (by rfl) (by kernel_rfl) ?_
                    refine WL.call can45 rfl rfl ((show Calls _ _ #[_, .agg (acv none 0 (wrM m 0 f.cd)), _, _] _ _ from answer_c _ hX0 (a := (wrM m 0 f.cd)) 1 (mn1 f.cd) h50)) ?_
                    rintro _ w51 ⟨rfl, h51⟩
                    refine ⟨_, rfl, ?_⟩
                    refine WL.nil (WE.next ?_)
                    refine WE.op (.inr h51) (i := 9) (by rfl) (by kernel_rfl) ?_
                    refine WL.storeAll h51 0 rfl rfl rfl inf39 rfl rfl rfl (Free.zero _) ?_
                    intro  w52 h52
                    try simp only [lz, ls, ez, es'] at h52
                    refine WL.nil (WE.next ?_)
                    refine WE.fin (.inl ⟨9, rfl, by kernel_rfl⟩) (by kernel_rfl) ?_
                    refine WN.thn (WC.ret ?_)
                    have hv : prologA id z m f.cd = anM id m (wrM m 0 f.cd) 1 (mn1 f.cd) := by unfold prologA; rw [if_neg (by rw [c4]; decide), if_neg u3, if_neg u5, if_neg (or_f g0 c44), if_neg (by rw [c46]; decide)]
                    refine retA rfl (ResOk.blk h52 0 rfl Try.underlying39 rfl inf39 rfl rfl) ⟨F, none, 0, Le.refl F, by rw [hv] <;> rfl, by rw [hv]; exact .inl rfl, ((h52.drop 0).drop 0)⟩
        · have u5 : (hasJ z m && decide (phJ z m = 2)) = true := hj_t p0 p1
          refine WC.reg ?_
          refine WL.v (Runs.move rfl) rfl ?_
          refine WL.v (Runs.nilCheckP rfl) rfl ?_
          refine WL.v (Runs.fld fld85_4 rfl) rfl ?_
          refine WL.v (Runs.boolT (c := true) (Runs.load1 Try.underlying4 rfl rfl (h3.cell (cellB hfzx rfl))) p0) rfl ?_
          refine WL.v (Runs.move rfl) rfl ?_
          refine WL.gon rfl rfl rfl ?_
          refine WL.v (Runs.move rfl) rfl ?_
          refine WL.gon rfl rfl rfl ?_
          refine WL.v (Runs.nilCheckP rfl) rfl ?_
          refine WL.gon rfl rfl rfl ?_
          refine WL.v (Runs.fld fld85_3 rfl) rfl ?_
          refine WL.gon rfl rfl rfl ?_
          refine WL.v (Runs.fld fld77_2 rfl) rfl ?_
          refine WL.gon rfl rfl rfl ?_
          refine WL.v (Runs.load1 Try.underlying3 rfl rfl (h3.cell (cellB hfzx rfl))) rfl ?_
          refine WL.gon rfl rfl rfl ?_
          refine WL.v (Runs.boolT (c := true) (Runs.eql rfl rfl) (decide_eq_true p1)) rfl ?_
          refine WL.v (Runs.pick rfl rfl rfl) rfl ?_
          refine WL.v (Runs.assign rfl) rfl ?_
          refine WL.nil (WN.thn ?_)
          refine WC.condT rfl (rfl) ?_
          refine WC.seq (WC.reg ?_)
          refine WL.v (Runs.move rfl) rfl ?_
          refine WL.v (Runs.build (vs := []) (cells := #[.bool false, Vi 0, Vi 0, Vi 0, Vi 0, Vi 0, .slice none 0 0, .bool false, Vi 0, Vi 0, Vi 0, Vi 0, Vi 0, Vi 0, Vi 0, .string ⟨#[]⟩, .bool false, .bool false, .bool false]) rfl (by kernel_rfl)) rfl ?_
          refine WL.call can45 rfl rfl ((show Calls _ _ #[_, .agg (acv none 0 A0), _, _] _ _ from answer_c _ hX0 (a := A0) 9 0 h3)) ?_
          rintro _ w53 ⟨rfl, h53⟩
          refine ⟨_, rfl, ?_⟩
          refine WL.storeAll h53 0 rfl rfl rfl inf39 rfl rfl rfl (Free.zero _) ?_
          intro  w54 h54
          try simp only [lz, ls, ez, es'] at h54
          refine WL.nil (WN.thn (WC.ret ?_))
          have hv : prologA id z m f.cd = anM id m A0 9 0 := by unfold prologA; rw [if_neg (by rw [c4]; decide), if_neg u3, if_pos u5]
          refine retA rfl (ResOk.blk h54 0 rfl Try.underlying39 rfl inf39 rfl rfl) ⟨F, none, 0, Le.refl F, by rw [hv] <;> rfl, by rw [hv]; exact .inl rfl, ((h54.drop 0).drop 0)⟩
      · have u3 : (hasJ z m && decide (phJ z m = 1)) = true := hj_t p0 p1
        refine WC.reg ?_
        refine WL.v (Runs.move rfl) rfl ?_
        refine WL.v (Runs.nilCheckP rfl) rfl ?_
        refine WL.v (Runs.fld fld85_4 rfl) rfl ?_
        refine WL.v (Runs.boolT (c := true) (Runs.load1 Try.underlying4 rfl rfl (h3.cell (cellB hfzx rfl))) p0) rfl ?_
        refine WL.v (Runs.move rfl) rfl ?_
        refine WL.gon rfl rfl rfl ?_
        refine WL.v (Runs.move rfl) rfl ?_
        refine WL.gon rfl rfl rfl ?_
        refine WL.v (Runs.nilCheckP rfl) rfl ?_
        refine WL.gon rfl rfl rfl ?_
        refine WL.v (Runs.fld fld85_3 rfl) rfl ?_
        refine WL.gon rfl rfl rfl ?_
        refine WL.v (Runs.fld fld77_2 rfl) rfl ?_
        refine WL.gon rfl rfl rfl ?_
        refine WL.v (Runs.load1 Try.underlying3 rfl rfl (h3.cell (cellB hfzx rfl))) rfl ?_
        refine WL.gon rfl rfl rfl ?_
        refine WL.v (Runs.boolT (c := true) (Runs.eql rfl rfl) (decide_eq_true p1)) rfl ?_
        refine WL.v (Runs.pick rfl rfl rfl) rfl ?_
        refine WL.v (Runs.assign rfl) rfl ?_
        refine WL.nil (WN.thn ?_)
        refine WC.condT rfl (rfl) ?_
        refine WC.seq (WC.reg ?_)
        refine WL.v (Runs.move rfl) rfl ?_
        refine WL.v (Runs.build (vs := []) (cells := #[.bool false, Vi 0, Vi 0, Vi 0, Vi 0, Vi 0, .slice none 0 0, .bool false, Vi 0, Vi 0, Vi 0, Vi 0, Vi 0, Vi 0, Vi 0, .string ⟨#[]⟩, .bool false, .bool false, .bool false]) rfl (by kernel_rfl)) rfl ?_
        refine WL.call can45 rfl rfl ((show Calls _ _ #[_, .agg (acv none 0 A0), _, _] _ _ from answer_c _ hX0 (a := A0) 1 1 h3)) ?_
        rintro _ w55 ⟨rfl, h55⟩
        refine ⟨_, rfl, ?_⟩
        refine WL.storeAll h55 0 rfl rfl rfl inf39 rfl rfl rfl (Free.zero _) ?_
        intro  w56 h56
        try simp only [lz, ls, ez, es'] at h56
        refine WL.nil (WN.thn (WC.ret ?_))
        have hv : prologA id z m f.cd = anM id m A0 1 1 := by unfold prologA; rw [if_neg (by rw [c4]; decide), if_pos u3]
        refine retA rfl (ResOk.blk h56 0 rfl Try.underlying39 rfl inf39 rfl rfl) ⟨F, none, 0, Le.refl F, by rw [hv] <;> rfl, by rw [hv]; exact .inl rfl, ((h56.drop 0).drop 0)⟩
end Rc
end Go.Proofs.Ytanlminnobonnaa
