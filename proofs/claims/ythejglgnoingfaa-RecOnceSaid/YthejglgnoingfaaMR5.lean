/- Walks of package rec: Void, Prolog, Epilog. -/
import Derived.Test.YthejglgnoingfaaProg
import Derived.KernelRfl
import Derived.Test.YthejglgnoingfaaMBaseAH
import Derived.Test.YthejglgnoingfaaMR4
namespace Go.Proofs.Ythejglgnoingfaa
open Go Go.RowKit B
set_option linter.unusedVariables false
set_option linter.unusedSimpArgs false
namespace Rc

theorem inf4 : Inf Try.prog 4 (.bool false) 1 1 := by unfold Inf; kernel_rfl
theorem inf24 : Inf Try.prog 24 (.agg #[.int .i64 0, .int .i64 0, .int .i64 0, .int .i64 0, .int .i64 0, .slice none 0 0]) 6 64 := by unfold Inf; kernel_rfl
theorem inf37 : Inf Try.prog 37 (.slice none 0 0) 1 24 := by unfold Inf; kernel_rfl
theorem fld47_2 : fldB Try.prog 47 2 2 = true := by kernel_rfl
theorem can86 : B.Can Try.prog 86 := ⟨_, Try.func86, by kernel_rfl, rfl⟩   -- (roundhouse/rec.State).newer
set_option maxRecDepth 100000 in
set_option maxHeartbeats 4000000 in
theorem void_c {W : World} {F : Snap} {cs : List Res} (w : World) {rj rs : Res} {AJ AS : Option Addr} {cj cS bs : Nat} {z : Z} {Al : Option Addr} {cl : Nat} {r : R} (hl : RdS (Kd.one Vi) F Al r.ls) (hn : r.ls.length ≤ 100000) (hO : OS F rj rs AJ AS cj cS z) (hz : few z) (h : St W F (sbk bs AJ AS cj cS z :: rj :: rs :: cs) w) : Calls Try.prog 76 #[.pointer (some ⟨bs, 0, none⟩), .agg #[Vi r.kd, Vi r.jb, Vi r.ep, Vi r.st, Vi r.ar, .slice Al r.ls.length cl]] w fun e w' => Did W F cs bs (voidM z r) e w'  := by
  refine enter (P := Try.prog) (args := [.pointer (some ⟨bs, 0, none⟩), .agg #[Vi r.kd, Vi r.jb, Vi r.ep, Vi r.st, Vi r.ar, .slice Al r.ls.length cl]]) Try.func76 rfl rfl rfl ?_
  refine WC.seq (WC.reg ?_)
  refine WL.box rfl h rfl ?_
  intro b3 w1 h1
  refine WL.v (Runs.assign rfl) rfl ?_
  refine WL.nil (WN.thn (WC.seq (WC.seq ?_)))
  refine WC.eregK h1 (h1.drop 2) (fun s_ => ([] : List Nat).any (Nat.beq s_)) mixed (by kernel_rfl) (fun hx => ?_)
  intro w2 h2
  refine WE.p0 hx 0 (by rfl) (fun w_ => Runs.move rfl) rfl ?_
  refine WE.p0 hx 1 (by rfl) (fun w_ => Runs.nilCheckP rfl) rfl ?_
  refine WE.v0 12 hx 2 (by rfl) (fun w_ hE_ => Runs.loadAll hE_ 1 rfl Try.underlying40 rfl inf40 rfl rfl) rfl ?_
  refine WE.v0 12 hx 3 (by rfl) (fun w_ hE_ => Runs.loadAll hE_ 0 rfl Try.underlying24 rfl inf24 rfl rfl) rfl ?_
  refine WE.op (.inr (h2.drop 2)) (i := 4) (by rfl) (by kernel_rfl) ?_
  refine WL.call can86 rfl rfl (newer_c _ h2 (hO.rdJ (i := 2) rfl) (by have := hz.j; omega)) ?_
  rintro _ w3 ⟨rfl, h3⟩
  refine ⟨_, rfl, ?_⟩
  refine WL.nil (WE.next ?_)
  refine WE.fin (.inr (h3.drop 2)) (by kernel_rfl) ?_
  refine WN.thn ?_
  refine WC.cond rfl (fun c4 => ?_) (fun c4 => ?_)
  · try simp only [dt, df, nt, nf, ba, il, ie] at c4
    first
    | (exfalso; omega)
    | skip
      refine WC.seq (WC.reg ?_)
      refine WL.v (Runs.assign rfl) rfl ?_
      refine WL.nil (WN.thn (WC.ret ?_))
      refine ret1 rfl rfl ?_
      rw [show voidM z r = (z, 14) from if_pos c4]
      exact ⟨F, rj, rs, AJ, AS, cj, cS, Le.refl F, rfl, hO, (h3.drop 0)⟩
  · try simp only [dt, df, nt, nf, ba, il, ie] at c4
    first
    | (exfalso; omega)
    | skip
      refine WC.skip (WN.thn (WC.seq ?_))
      have hzj := hz.j
      refine WC.eregK h3 (h3.drop 2) (fun s_ => ([14] : List Nat).any (Nat.beq s_)) mixed (by kernel_rfl) (fun hx => ?_)
      intro w5 h5
      refine WE.p0 hx 0 (by rfl) (fun w_ => Runs.move rfl) rfl ?_
      refine WE.p0 hx 1 (by rfl) (fun w_ => Runs.move rfl) rfl ?_
      refine WE.p0 hx 2 (by rfl) (fun w_ => Runs.nilCheckP rfl) rfl ?_
      refine WE.p0 hx 3 (by rfl) (fun w_ => Runs.fld fld40_0 rfl) rfl ?_
      refine WE.p0 hx 5 (by rfl) (fun w_ => Runs.fld fld24_1 rfl) rfl ?_
      refine WE.p0 hx 7 (by rfl) (fun w_ => Runs.fld fld24_2 rfl) rfl ?_
      refine WE.v0 12 hx 4 (by rfl) (fun w_ hE_ => Runs.load1 Try.underlying37 rfl rfl (hE_.ocell (i := 1) rfl rfl)) rfl ?_
      refine WE.v0 12 hx 6 (by rfl) (fun w_ hE_ => Runs.load1 Try.underlying3 rfl rfl (hE_.ocell (i := 0) rfl rfl)) rfl ?_
      refine WE.v0 12 hx 8 (by rfl) (fun w_ hE_ => Runs.load1 Try.underlying3 rfl rfl (hE_.ocell (i := 0) rfl rfl)) rfl ?_
      refine WE.p0 hx 9 (by rfl) (fun w_ => Runs.build (vs := [(0, Vi r.jb), (1, Vi r.ep), (2, Vi 2)]) (cells := #[Vi r.jb, Vi r.ep, Vi 2]) rfl (by kernel_rfl)) rfl ?_
      refine WE.op (.inr (h5.drop 2)) (i := 10) (by rfl) (by kernel_rfl) ?_
      refine WL.buildSlice (vs := [JV ⟨r.jb, r.ep, 2⟩]) h5 rfl Try.underlying37 (inf47.elem rfl rfl) rfl rfl rfl (by decide) ?_
      intro lit20 w6 h6
      try simp only [lz, ls, ez, es'] at h6
      refine WL.nil (WE.next ?_)
      refine WE.op (.inr ((h6.drop 3).drop 0)) (i := 11) (by rfl) (by kernel_rfl) ?_
      refine WL.appM (f := jc) (ys := [⟨r.jb, r.ep, 2⟩]) 3 h6 rfl rfl rfl rfl Try.underlying37 Try.underlying37 (.inr ⟨_, rfl⟩) (inf47.elem rfl rfl) hO.J (Src.litM h6 0 rfl rfl rfl) rfl (by first | omega | (simp; done) | (simp; omega) | (simp only [List.length_nil]; omega)) (by first | omega | (simp; done) | (simp; omega) | (simp only [List.length_nil]; omega)) ?_
      intro r7 v7 w8 hr7 h8
      simp only [lz, ls] at h8
      replace h8 := h8.drop 0
      simp only [ez, es'] at h8
      obtain ⟨A7, cap7, rfl, hcap7⟩ := hr7.val
      refine WL.nil (WE.next ?_)
      refine WE.p0 hx 12 (by rfl) (fun w_ => Runs.nilCheckP rfl) rfl ?_
      refine WE.p0 hx 13 (by rfl) (fun w_ => Runs.fld fld40_0 rfl) rfl ?_
      refine WE.op (.inr (h8.drop 2)) (i := 14) (by rfl) (by kernel_rfl) ?_
      refine WL.store' h8 1 rfl rfl rfl inf37 rfl rfl (Free.zero _) (Nat.le_of_ble_eq_true rfl) ?_
      intro  w9 h9
      try simp only [lz, ls, ez, es'] at h9
      refine WL.nil (WE.next ?_)
      refine WE.fin (.inl ⟨14, rfl, by kernel_rfl⟩) (by kernel_rfl) ?_
      refine WN.thn (WC.seq (WC.reg ?_))
      refine WL.v (Runs.assign rfl) rfl ?_
      refine WL.nil (WN.thn (WC.ret ?_))
      refine ret1 rfl rfl ?_
      rw [show voidM z r = ({ z with js := z.js ++ [⟨r.jb, r.ep, 2⟩] }, 0) from if_neg (by simpa using c4)]
      exact ⟨F, _, rs, _, AS, _, cS, Le.refl F, rfl, ⟨hr7, hO.S⟩, h9.drop 0⟩
set_option maxRecDepth 100000 in
set_option maxHeartbeats 4000000 in
theorem prolog_c {W : World} {F : Snap} {cs : List Res} (w : World) {rj rs : Res} {AJ AS : Option Addr} {cj cS bs : Nat} {z : Z} {Al : Option Addr} {cl : Nat} {r : R} (hl : RdS (Kd.one Vi) F Al r.ls) (hn : r.ls.length ≤ 100000) (hO : OS F rj rs AJ AS cj cS z) (hz : few z) (h : St W F (sbk bs AJ AS cj cS z :: rj :: rs :: cs) w) : Calls Try.prog 72 #[.pointer (some ⟨bs, 0, none⟩), .agg #[Vi r.kd, Vi r.jb, Vi r.ep, Vi r.st, Vi r.ar, .slice Al r.ls.length cl]] w fun e w' => Did W F cs bs (prologM z r) e w'  := by
  refine enter (P := Try.prog) (args := [.pointer (some ⟨bs, 0, none⟩), .agg #[Vi r.kd, Vi r.jb, Vi r.ep, Vi r.st, Vi r.ar, .slice Al r.ls.length cl]]) Try.func72 rfl rfl rfl ?_
  refine WC.seq (WC.reg ?_)
  refine WL.box rfl h rfl ?_
  intro b3 w1 h1
  refine WL.v (Runs.assign rfl) rfl ?_
  refine WL.nil (WN.thn (WC.seq (WC.block (WC.seq ?_))))
  refine WC.eregK h1 (h1.drop 2) (fun s_ => ([] : List Nat).any (Nat.beq s_)) mixed (by kernel_rfl) (fun hx => ?_)
  intro w2 h2
  refine WE.p0 hx 0 (by rfl) (fun w_ => Runs.move rfl) rfl ?_
  refine WE.p0 hx 1 (by rfl) (fun w_ => Runs.nilCheckP rfl) rfl ?_
  refine WE.v0 12 hx 2 (by rfl) (fun w_ hE_ => Runs.loadAll hE_ 1 rfl Try.underlying40 rfl inf40 rfl rfl) rfl ?_
  refine WE.v0 12 hx 3 (by rfl) (fun w_ hE_ => Runs.loadAll hE_ 0 rfl Try.underlying24 rfl inf24 rfl rfl) rfl ?_
  refine WE.op (.inr (h2.drop 2)) (i := 4) (by rfl) (by kernel_rfl) ?_
  refine WL.call can86 rfl rfl (newer_c _ h2 (hO.rdJ (i := 2) rfl) (by have := hz.j; omega)) ?_
  rintro _ w3 ⟨rfl, h3⟩
  refine ⟨_, rfl, ?_⟩
  refine WL.nil (WE.next ?_)
  refine WE.p0 hx 5 (by rfl) (fun w_ => Runs.assign rfl) rfl ?_
  refine WE.fin (.inr (h3.drop 2)) (by kernel_rfl) ?_
  refine WN.thn ?_
  refine WC.cond rfl (fun c4 => ?_) (fun c4 => ?_)
  · try simp only [dt, df, nt, nf, ba, il, ie] at c4
    first
    | (exfalso; omega)
    | skip
      refine WC.seq (WC.reg ?_)
      refine WL.v (Runs.assign rfl) rfl ?_
      refine WL.nil (WN.thn (WC.ret ?_))
      refine ret1 rfl rfl ?_
      rw [show prologM z r = (z, 14) from if_pos c4]
      exact ⟨F, rj, rs, AJ, AS, cj, cS, Le.refl F, rfl, hO, (h3.drop 0)⟩
  · try simp only [dt, df, nt, nf, ba, il, ie] at c4
    first
    | (exfalso; omega)
    | skip
      refine WC.seq (WC.reg ?_)
      refine WL.v (Runs.move rfl) rfl ?_
      refine WL.v (Runs.nilCheckP rfl) rfl ?_
      refine WL.v (Runs.fld fld40_2 rfl) rfl ?_
      refine WL.v (Runs.load1 Try.underlying4 rfl rfl (h3.ocell (i := 1) rfl rfl)) rfl ?_
      refine WL.v (Runs.assign rfl) rfl ?_
      refine WL.nil (WN.thn ?_)
      refine WC.cond rfl (fun c5 => ?_) (fun c5 => ?_)
      · try simp only [dt, df, nt, nf, ba, il, ie] at c5
        first
        | (exfalso; omega)
        | skip
          refine WC.seq (WC.reg ?_)
          refine WL.v (Runs.assign rfl) rfl ?_
          refine WL.nil (WN.thn (WC.ret ?_))
          refine ret1 rfl rfl ?_
          rw [show prologM z r = (z, 16) from (if_neg (by simpa using c4)).trans (if_pos c5)]
          exact ⟨F, rj, rs, AJ, AS, cj, cS, Le.refl F, rfl, hO, (h3.drop 0)⟩
      · try simp only [dt, df, nt, nf, ba, il, ie] at c5
        first
        | (exfalso; omega)
        | skip
          refine WC.skip (WN.blk (WN.thn (WC.seq (WC.reg ?_))))
          refine WL.v (Runs.fld fld24_1 rfl) rfl ?_
          refine WL.v (Runs.load1 Try.underlying3 rfl rfl (h3.ocell (i := 0) rfl rfl)) rfl ?_
          refine WL.v (Runs.fld fld24_2 rfl) rfl ?_
          refine WL.v (Runs.load1 Try.underlying3 rfl rfl (h3.ocell (i := 0) rfl rfl)) rfl ?_
          refine WL.v (Runs.build (vs := [(0, Vi r.jb), (1, Vi r.ep), (2, Vi 0)]) (cells := #[Vi r.jb, Vi r.ep, Vi 0]) rfl (by kernel_rfl)) rfl ?_
          refine WL.alloc' rfl h3 inf47 ?_
          intro b5 w6 h6
          refine WL.storeAll h6 0 rfl rfl rfl inf47 rfl rfl rfl (Free.zero _) ?_
          intro  w7 h7
          try simp only [lz, ls, ez, es'] at h7
          refine WL.nil (WN.thn (WC.seq (WC.seq (WC.reg ?_))))
          refine WL.v (Runs.fld fld24_4 rfl) rfl ?_
          refine WL.v (Runs.load1 Try.underlying3 rfl rfl (h7.ocell (i := 1) rfl rfl)) rfl ?_
          refine WL.v (Runs.neq rfl rfl) rfl ?_
          refine WL.nil (WN.thn ?_)
          refine WC.cond rfl (fun c8 => ?_) (fun c8 => ?_)
          · try simp only [dt, df, nt, nf, ba, il, ie] at c8
            first
            | (exfalso; omega)
            | skip
              refine WC.reg ?_
              refine WL.v (Runs.move rfl) rfl ?_
              refine WL.v (Runs.fld fld47_2 rfl) rfl ?_
              refine WL.store' h7 0 rfl rfl rfl inf3 rfl rfl (Free.zero _) (Nat.le_of_ble_eq_true rfl) ?_
              intro  w9 h9
              try simp only [lz, ls, ez, es'] at h9
              refine WL.v (Runs.nilCheckP rfl) rfl ?_
              refine WL.v (Runs.fld fld40_2 rfl) rfl ?_
              refine WL.store' h9 2 rfl rfl rfl inf4 rfl rfl (Free.zero _) (Nat.le_of_ble_eq_true rfl) ?_
              intro  w10 h10
              try simp only [lz, ls, ez, es'] at h10
              refine WL.nil (WN.thn (WC.seq ?_))
              have hzj := hz.j
              refine WC.eregK h10 (h10.drop 3) (fun s_ => ([10] : List Nat).any (Nat.beq s_)) mixed (by kernel_rfl) (fun hx => ?_)
              intro w11 h11
              refine WE.p0 hx 0 (by rfl) (fun w_ => Runs.move rfl) rfl ?_
              refine WE.p0 hx 1 (by rfl) (fun w_ => Runs.move rfl) rfl ?_
              refine WE.p0 hx 2 (by rfl) (fun w_ => Runs.nilCheckP rfl) rfl ?_
              refine WE.p0 hx 3 (by rfl) (fun w_ => Runs.fld fld40_0 rfl) rfl ?_
              refine WE.v0 12 hx 4 (by rfl) (fun w_ hE_ => Runs.load1 Try.underlying37 rfl rfl (hE_.ocell (i := 2) rfl rfl)) rfl ?_
              refine WE.v0 12 hx 5 (by rfl) (fun w_ hE_ => Runs.loadAll hE_ 0 rfl Try.underlying47 rfl inf47 rfl rfl) rfl ?_
              refine WE.op (.inr (h11.drop 3)) (i := 6) (by rfl) (by kernel_rfl) ?_
              refine WL.buildSlice (vs := [JV ⟨r.jb, r.ep, 1⟩]) h11 rfl Try.underlying37 (inf47.elem rfl rfl) rfl rfl rfl (by decide) ?_
              intro lit35 w12 h12
              try simp only [lz, ls, ez, es'] at h12
              refine WL.nil (WE.next ?_)
              refine WE.op (.inr ((h12.drop 4).drop 0)) (i := 7) (by rfl) (by kernel_rfl) ?_
              refine WL.appM (f := jc) (ys := [⟨r.jb, r.ep, 1⟩]) 4 h12 rfl rfl rfl rfl Try.underlying37 Try.underlying37 (.inr ⟨_, rfl⟩) (inf47.elem rfl rfl) hO.J (Src.litM h12 0 rfl rfl rfl) rfl (by first | omega | (simp; done) | (simp; omega) | (simp only [List.length_nil]; omega)) (by first | omega | (simp; done) | (simp; omega) | (simp only [List.length_nil]; omega)) ?_
              intro r13 v13 w14 hr13 h14
              simp only [lz, ls] at h14
              replace h14 := h14.drop 0
              simp only [ez, es'] at h14
              obtain ⟨A13, cap13, rfl, hcap13⟩ := hr13.val
              refine WL.nil (WE.next ?_)
              refine WE.p0 hx 8 (by rfl) (fun w_ => Runs.nilCheckP rfl) rfl ?_
              refine WE.p0 hx 9 (by rfl) (fun w_ => Runs.fld fld40_0 rfl) rfl ?_
              refine WE.op (.inr (h14.drop 3)) (i := 10) (by rfl) (by kernel_rfl) ?_
              refine WL.store' h14 2 rfl rfl rfl inf37 rfl rfl (Free.zero _) (Nat.le_of_ble_eq_true rfl) ?_
              intro  w15 h15
              try simp only [lz, ls, ez, es'] at h15
              refine WL.nil (WE.next ?_)
              refine WE.fin (.inl ⟨10, rfl, by kernel_rfl⟩) (by kernel_rfl) ?_
              refine WN.thn (WC.seq (WC.reg ?_))
              refine WL.v (Runs.assign rfl) rfl ?_
              refine WL.nil (WN.thn (WC.ret ?_))
              refine ret1 rfl rfl ?_
              rw [show prologM z r = ({ z with js := z.js ++ [⟨r.jb, r.ep, 1⟩], dr := true }, 0) from by unfold prologM; rw [if_neg (by simpa using c4), if_neg (by simpa using c5)]; simp [c8]]
              exact ⟨F, _, rs, _, AS, _, cS, Le.refl F, rfl, ⟨hr13, hO.S⟩, (h15.drop 0).drop 0⟩
          · try simp only [dt, df, nt, nf, ba, il, ie] at c8
            first
            | (exfalso; omega)
            | skip
              refine WC.skip (WN.thn (WC.seq ?_))
              have hzj := hz.j
              refine WC.eregK h7 (h7.drop 3) (fun s_ => ([10] : List Nat).any (Nat.beq s_)) mixed (by kernel_rfl) (fun hx => ?_)
              intro w16 h16
              refine WE.p0 hx 0 (by rfl) (fun w_ => Runs.move rfl) rfl ?_
              refine WE.p0 hx 1 (by rfl) (fun w_ => Runs.move rfl) rfl ?_
              refine WE.p0 hx 2 (by rfl) (fun w_ => Runs.nilCheckP rfl) rfl ?_
              refine WE.p0 hx 3 (by rfl) (fun w_ => Runs.fld fld40_0 rfl) rfl ?_
              refine WE.v0 12 hx 4 (by rfl) (fun w_ hE_ => Runs.load1 Try.underlying37 rfl rfl (hE_.ocell (i := 2) rfl rfl)) rfl ?_
              refine WE.v0 12 hx 5 (by rfl) (fun w_ hE_ => Runs.loadAll hE_ 0 rfl Try.underlying47 rfl inf47 rfl rfl) rfl ?_
              refine WE.op (.inr (h16.drop 3)) (i := 6) (by rfl) (by kernel_rfl) ?_
              refine WL.buildSlice (vs := [JV ⟨r.jb, r.ep, 0⟩]) h16 rfl Try.underlying37 (inf47.elem rfl rfl) rfl rfl rfl (by decide) ?_
              intro lit35 w17 h17
              try simp only [lz, ls, ez, es'] at h17
              refine WL.nil (WE.next ?_)
              refine WE.op (.inr ((h17.drop 4).drop 0)) (i := 7) (by rfl) (by kernel_rfl) ?_
              refine WL.appM (f := jc) (ys := [⟨r.jb, r.ep, 0⟩]) 4 h17 rfl rfl rfl rfl Try.underlying37 Try.underlying37 (.inr ⟨_, rfl⟩) (inf47.elem rfl rfl) hO.J (Src.litM h17 0 rfl rfl rfl) rfl (by first | omega | (simp; done) | (simp; omega) | (simp only [List.length_nil]; omega)) (by first | omega | (simp; done) | (simp; omega) | (simp only [List.length_nil]; omega)) ?_
              intro r18 v18 w19 hr18 h19
              simp only [lz, ls] at h19
              replace h19 := h19.drop 0
              simp only [ez, es'] at h19
              obtain ⟨A18, cap18, rfl, hcap18⟩ := hr18.val
              refine WL.nil (WE.next ?_)
              refine WE.p0 hx 8 (by rfl) (fun w_ => Runs.nilCheckP rfl) rfl ?_
              refine WE.p0 hx 9 (by rfl) (fun w_ => Runs.fld fld40_0 rfl) rfl ?_
              refine WE.op (.inr (h19.drop 3)) (i := 10) (by rfl) (by kernel_rfl) ?_
              refine WL.store' h19 2 rfl rfl rfl inf37 rfl rfl (Free.zero _) (Nat.le_of_ble_eq_true rfl) ?_
              intro  w20 h20
              try simp only [lz, ls, ez, es'] at h20
              refine WL.nil (WE.next ?_)
              refine WE.fin (.inl ⟨10, rfl, by kernel_rfl⟩) (by kernel_rfl) ?_
              refine WN.thn (WC.seq (WC.reg ?_))
              refine WL.v (Runs.assign rfl) rfl ?_
              refine WL.nil (WN.thn (WC.ret ?_))
              refine ret1 rfl rfl ?_
              rw [show prologM z r = ({ z with js := z.js ++ [⟨r.jb, r.ep, 0⟩], dr := z.dr }, 0) from by unfold prologM; rw [if_neg (by simpa using c4), if_neg (by simpa using c5)]; simp [c8]; simpa using c5]
              exact ⟨F, _, rs, _, AS, _, cS, Le.refl F, rfl, ⟨hr18, hO.S⟩, (h20.drop 0).drop 0⟩
end Rc
end Go.Proofs.Ythejglgnoingfaa
