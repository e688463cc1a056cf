/- Walks of package rec: a step begins. -/
import Derived.Test.YthejglgnoingfaaProg
import Derived.KernelRfl
import Derived.Test.YthejglgnoingfaaMBaseAH
import Derived.Test.YthejglgnoingfaaMR6
namespace Go.Proofs.Ythejglgnoingfaa
open Go Go.RowKit B
set_option linter.unusedVariables false
set_option linter.unusedSimpArgs false
namespace Rc

theorem inf38 : Inf Try.prog 38 (.slice none 0 0) 1 24 := by unfold Inf; kernel_rfl
theorem fld54_5 : fldB Try.prog 54 5 5 = true := by kernel_rfl
theorem can20 : B.Can Try.prog 20 := ⟨_, Try.func20, by kernel_rfl, rfl⟩   -- roundhouse/rec.Find
theorem can88 : B.Can Try.prog 88 := ⟨_, Try.func88, by kernel_rfl, rfl⟩   -- roundhouse/rec.begins$1$1
theorem can89 : B.Can Try.prog 89 := ⟨_, Try.func89, by kernel_rfl, rfl⟩   -- slices.ContainsFunc[[]int,int]
theorem can90 : B.Can Try.prog 90 := ⟨_, Try.func90, by kernel_rfl, rfl⟩   -- roundhouse/rec.begins$1$1$1
theorem can91 : B.Can Try.prog 91 := ⟨_, Try.func91, by kernel_rfl, rfl⟩   -- slices.Contains[[]int,int]
theorem can92 : B.Can Try.prog 92 := ⟨_, Try.func92, by kernel_rfl, rfl⟩   -- slices.Clone[[]int,int]
theorem four (P0 P1 P2 P3 : Prop) : (¬ P0) ∨ (P0 ∧ ¬ P1) ∨ (P0 ∧ P1 ∧ ¬ P2) ∨ (P0 ∧ P1 ∧ P2 ∧ ¬ P3) ∨ (P0 ∧ P1 ∧ P2 ∧ P3) := by
  by_cases h0 : P0
  · by_cases h1 : P1
    · by_cases h2 : P2
      · by_cases h3 : P3
        · exact .inr (.inr (.inr (.inr (⟨h0, h1, h2, h3⟩))))
        · exact .inr (.inr (.inr (.inl ⟨h0, h1, h2, h3⟩)))
      · exact .inr (.inr (.inl ⟨h0, h1, h2⟩))
    · exact .inr (.inl ⟨h0, h1⟩)
  · exact .inl h0

theorem begins_14 {z : Z} {r : R} {ph : Int} (h : (findM z r.jb r.ep).2 = false ∨ (findM z r.jb r.ep).1.ph ≠ 0 ∨ 0 ≤ sIx z r.jb r.ep r.st ∨ shareM z r.ls = true) : beginsM z r ph = (z, 14) := if_pos h
theorem begins_0 {z : Z} {r : R} {ph : Int} (h1 : ¬ (findM z r.jb r.ep).2 = false) (h2 : ¬ (findM z r.jb r.ep).1.ph ≠ 0) (h3 : ¬ 0 ≤ sIx z r.jb r.ep r.st) (h4 : shareM z r.ls = false) : beginsM z r ph = ({ z with ss := z.ss ++ [⟨r.jb, r.ep, r.st, ph, 0, r.ls⟩] }, 0) :=
  if_neg (by rintro (h | h | h | h); exact h1 h; exact h2 h; exact h3 h; rw [h4] at h; cases h)
theorem OS.addS {F : Snap} {rj rs rs' : Res} {AJ AS A : Option Addr} {cj cS cap : Nat} {z : Z} {es : List E} {e : E} (h : OS F rj rs AJ AS cj cS z) (hes : es.map (·.s) = z.ss) (hp : ∀ e ∈ es, RdS (Kd.one Vi) F e.A e.s.ps) (he : RdS (Kd.one Vi) F e.A e.s.ps)
    (hr : RowM 54 6 sc rs' (.slice A (es ++ [e]).length cap) (es ++ [e])) : OS F rj rs' AJ A cj cap { z with ss := z.ss ++ [e.s] } :=
  ⟨h.J, es ++ [e], by show RowM _ _ _ _ (.slice A (z.ss ++ [e.s]).length cap) _; rw [show (z.ss ++ [e.s]).length = (es ++ [e]).length by rw [← hes]; simp]; exact hr, by rw [List.map_append, hes]; rfl, fun x hx => by
    rcases List.mem_append.1 hx with hx | hx
    · exact hp x hx
    · rw [List.mem_singleton.1 hx]; exact he⟩
theorem sbk_ap {b : Nat} {AJ A : Option Addr} {cj cap : Nat} {z : Z} {es : List E} {e : E} (hes : es.map (·.s) = z.ss) : sbk b AJ A cj cap { z with ss := z.ss ++ [e.s] } = [(b, .cells #[.slice AJ z.js.length cj, .slice A (es ++ [e]).length cap, .bool z.dr] 40 (0, 0))] := by
  have : (z.ss ++ [e.s]).length = (es ++ [e]).length := by rw [← hes]; simp
  simp only [sbk, this]
set_option maxRecDepth 100000 in
set_option maxHeartbeats 1000000 in
theorem share2_c {W : World} {F : Snap} {cs : List Res} (w : World) {Al : Option Addr} {cl : Nat} {r : R} {br ibr : Nat} (n : Int) (h : St W F cs w) (hbr : cs[ibr]? = some [(br, .cells #[Vi r.kd, Vi r.jb, Vi r.ep, Vi r.st, Vi r.ar, .slice Al r.ls.length cl] 24 (0, 0))]) (hl : RdS (Kd.one Vi) F Al r.ls) (hn : r.ls.length ≤ 100000) : Calls Try.prog 90 #[Vi n, .pointer (some ⟨br, 0, none⟩)] w fun e_ w' => e_ = .returned (.bool (decide (n ∈ r.ls))) ∧ St W F cs w'  := by
  refine enter (P := Try.prog) (args := [Vi n, .pointer (some ⟨br, 0, none⟩)]) Try.func90 rfl rfl rfl ?_
  refine WC.seq (WC.reg ?_)
  refine WL.v (Runs.assign rfl) rfl ?_
  refine WL.nil (WN.thn (WC.seq (WC.reg ?_)))
  refine WL.v (Runs.fld fld24_5 rfl) rfl ?_
  refine WL.v (Runs.load1 Try.underlying22 rfl rfl (h.ocell (i := (ibr)) hbr rfl)) rfl ?_
  refine WL.v (Runs.move rfl) rfl ?_
  refine WL.call can91 rfl rfl (contains_c _ n h hl hn) ?_
  rintro _ w1 ⟨rfl, h1⟩
  refine ⟨_, rfl, ?_⟩
  refine WL.v (Runs.assign rfl) rfl ?_
  refine WL.nil (WN.thn (WC.ret ?_))
  exact ret1 rfl rfl ⟨rfl, h1⟩
set_option maxRecDepth 100000 in
set_option maxHeartbeats 1000000 in
theorem share1_c {W : World} {F : Snap} {cs : List Res} (w : World) {Al : Option Addr} {cl : Nat} {r : R} {A1 : Option Addr} {cap1 : Nat} {br ibr : Nat} (x : S) (h : St W F cs w) (hbr : cs[ibr]? = some [(br, .cells #[Vi r.kd, Vi r.jb, Vi r.ep, Vi r.st, Vi r.ar, .slice Al r.ls.length cl] 24 (0, 0))]) (hl : RdS (Kd.one Vi) F Al r.ls) (hn : r.ls.length ≤ 100000) (hp : RdS (Kd.one Vi) F A1 x.ps) (hx : x.ps.length ≤ 100000) : Calls Try.prog 88 #[SV A1 cap1 x, .pointer (some ⟨br, 0, none⟩)] w fun e_ w' => e_ = .returned (.bool (shareB r.ls x)) ∧ St W F cs w'  := by
  refine enter (P := Try.prog) (args := [SV A1 cap1 x, .pointer (some ⟨br, 0, none⟩)]) Try.func88 rfl rfl rfl ?_
  refine WC.seq (WC.reg ?_)
  refine WL.box rfl h rfl ?_
  intro b2 w1 h1
  refine WL.v (Runs.assign rfl) rfl ?_
  refine WL.nil (WN.thn (WC.seq (WC.reg ?_)))
  refine WL.v (Runs.fld fld54_5 rfl) rfl ?_
  refine WL.v (Runs.load1 Try.underlying22 rfl rfl (h1.ocell (i := 0) rfl rfl)) rfl ?_
  refine WL.v (Runs.makeFunc rfl rfl) rfl ?_
  refine WL.call can89 rfl rfl (cfI_c _ 90 [.pointer (some ⟨br, 0, none⟩)] (fun n => decide (n ∈ r.ls)) can90 h1 hp hx (fun w9 x9 _ h9 => share2_c (ibr := ibr + 1) w9 x9 h9 hbr hl hn)) ?_
  rintro _ w2 ⟨rfl, h2⟩
  refine ⟨_, rfl, ?_⟩
  refine WL.v (Runs.assign rfl) rfl ?_
  refine WL.nil (WN.thn (WC.ret ?_))
  exact ret1 rfl rfl ⟨rfl, h2.drop 0⟩
set_option maxRecDepth 100000 in
set_option maxHeartbeats 8000000 in
theorem begins_c {W : World} {F : Snap} {cs : List Res} (w : World) {rj rs : Res} {AJ AS : Option Addr} {cj cS bs : Nat} {z : Z} {Al : Option Addr} {cl : Nat} {r : R} (hl : RdS (Kd.one Vi) F Al r.ls) (hn : r.ls.length ≤ 100000) (hO : OS F rj rs AJ AS cj cS z) (hz : few z) (h : St W F (sbk bs AJ AS cj cS z :: rj :: rs :: cs) w) {bp : Nat} {ph : Int} (hfzbp : F bp = some (.cells #[Vi ph] 3 (0, 0))) : Calls Try.prog 87 #[.pointer (some ⟨bs, 0, none⟩), .agg #[Vi r.kd, Vi r.jb, Vi r.ep, Vi r.st, Vi r.ar, .slice Al r.ls.length cl], .pointer (some ⟨bp, 0, none⟩)] w fun e w' => Did W F cs bs (beginsM z r ph) e w'  := by
  refine enter (P := Try.prog) (args := [.pointer (some ⟨bs, 0, none⟩), .agg #[Vi r.kd, Vi r.jb, Vi r.ep, Vi r.st, Vi r.ar, .slice Al r.ls.length cl], .pointer (some ⟨bp, 0, none⟩)]) Try.func87 rfl rfl rfl ?_
  have hleF := Le.refl F
  refine WC.seq (WC.reg ?_)
  refine WL.box rfl h rfl ?_
  intro b4 w1 h1
  refine WL.v (Runs.assign rfl) rfl ?_
  refine WL.nil (WN.thn (WC.seq ?_))
  refine WC.eregK h1 (h1.drop 3) (fun s_ => ([12] : List Nat).any (Nat.beq s_)) mixed (by kernel_rfl) (fun hx => ?_)
  intro w2 h2
  refine WE.p0 hx 0 (by rfl) (fun w_ => Runs.move rfl) rfl ?_
  refine WE.p0 hx 1 (by rfl) (fun w_ => Runs.nilCheckP rfl) rfl ?_
  refine WE.p0 hx 3 (by rfl) (fun w_ => Runs.fld fld24_1 rfl) rfl ?_
  refine WE.p0 hx 5 (by rfl) (fun w_ => Runs.fld fld24_2 rfl) rfl ?_
  refine WE.v0 12 hx 2 (by rfl) (fun w_ hE_ => Runs.loadAll hE_ 1 rfl Try.underlying40 rfl inf40 rfl rfl) rfl ?_
  refine WE.v0 12 hx 4 (by rfl) (fun w_ hE_ => Runs.load1 Try.underlying3 rfl rfl (hE_.ocell (i := 0) rfl rfl)) rfl ?_
  refine WE.v0 12 hx 6 (by rfl) (fun w_ hE_ => Runs.load1 Try.underlying3 rfl rfl (hE_.ocell (i := 0) rfl rfl)) rfl ?_
  refine WE.op2 (.inr (h2.drop 3)) (i := 7) (j := 11) (by rfl) (by rfl) (by kernel_rfl) ?_ ?_
  · skip
    refine WL.call can20 rfl rfl (find_c _ r.jb r.ep h2 (hO.rdJ (i := 2) rfl) (by have := hz.j; omega)) ?_
    rintro _ w3 ⟨rfl, h3⟩
    refine ⟨_, rfl, ?_⟩
    refine WL.nil (WE.next ?_)
    refine WE.p0 hx 8 (by rfl) (fun w_ => Runs.move rfl) rfl ?_
    refine WE.p0 hx 9 (by rfl) (fun w_ => Runs.extract rfl rfl) rfl ?_
    refine WE.p0 hx 10 (by rfl) (fun w_ => Runs.extract rfl rfl) rfl ?_
    refine WE.op (.inr (h3.drop 3)) (i := 11) (by rfl) (by kernel_rfl) ?_
    refine WL.alloc' rfl h3 inf47 ?_
    intro b6 w4 h4
    refine WL.nil (WE.next ?_)
    refine WE.op (.inr ((h4.drop 4).drop 0)) (i := 12) (by rfl) (by kernel_rfl) ?_
    refine WL.storeAll h4 0 rfl rfl rfl inf47 rfl rfl rfl (Free.zero _) ?_
    intro  w5 h5
    try simp only [lz, ls, ez, es'] at h5
    refine WL.nil (WE.next ?_)
    refine WE.p0 hx 13 (by rfl) (fun w_ => Runs.assign rfl) rfl ?_
    refine WE.fin (.inl ⟨12, rfl, by kernel_rfl⟩) (by kernel_rfl) ?_
    refine WN.thn (WC.seq (WC.reg ?_))
    refine WL.v (Runs.makeFunc rfl rfl) rfl ?_
    refine WL.v (Runs.assign rfl) rfl ?_
    refine WL.nil (WN.thn (WC.seq (WC.seq ?_)))
    rcases three ((findM z r.jb r.ep).2 = true) ((findM z r.jb r.ep).1.ph = 0) (¬ 0 ≤ sIx z r.jb r.ep r.st) with q0 | ⟨q0, q1⟩ | ⟨q0, q1, q2⟩ | ⟨q0, q1, q2⟩
    · skip
      refine WC.eregK h5 (h5.drop 4) (fun s_ => ([] : List Nat).any (Nat.beq s_)) mixed (by kernel_rfl) (fun hx => ?_)
      intro w6 h6
      refine WE.p0 hx 0 (by rfl) (fun w_ => Runs.boolT (c := false) (Runs.move rfl) (Bool.eq_false_iff.2 q0)) rfl ?_
      refine WE.p0 hx 1 (by rfl) (fun w_ => Runs.not rfl) rfl ?_
      refine WE.p0 hx 2 (by rfl) (fun w_ => Runs.move rfl) rfl ?_
      refine WE.o1 (j := 2) (b := false) hx 3 (by rfl) ⟨_, _, rfl, rfl, .inr rfl⟩ rfl ?_
      refine WE.o1 (j := 2) (b := false) hx 4 (by rfl) ⟨_, _, rfl, rfl, .inr rfl⟩ rfl ?_
      refine WE.o1 (j := 2) (b := false) hx 5 (by rfl) ⟨_, _, rfl, rfl, .inr rfl⟩ rfl ?_
      refine WE.p0 hx 6 (by rfl) (fun w_ => Runs.pick rfl rfl rfl) rfl ?_
      refine WE.p0 hx 7 (by rfl) (fun w_ => Runs.move rfl) rfl ?_
      refine WE.o1 (j := 7) (b := false) hx 8 (by rfl) ⟨_, _, rfl, rfl, .inr rfl⟩ rfl ?_
      refine WE.o1 (j := 7) (b := false) hx 9 (by rfl) ⟨_, _, rfl, rfl, .inr rfl⟩ rfl ?_
      refine WE.o1 (j := 7) (b := false) hx 10 (by rfl) ⟨_, _, rfl, rfl, .inr rfl⟩ rfl ?_
      refine WE.o1 (j := 7) (b := false) hx 11 (by rfl) ⟨_, _, rfl, rfl, .inr rfl⟩ rfl ?_
      refine WE.o1 (j := 7) (b := false) hx 12 (by rfl) ⟨_, _, rfl, rfl, .inr rfl⟩ rfl ?_
      refine WE.o1 (j := 7) (b := false) hx 13 (by rfl) ⟨_, _, rfl, rfl, .inr rfl⟩ rfl ?_
      refine WE.o1 (j := 7) (b := false) hx 14 (by rfl) ⟨_, _, rfl, rfl, .inr rfl⟩ rfl ?_
      refine WE.o1 (j := 7) (b := false) hx 15 (by rfl) ⟨_, _, rfl, rfl, .inr rfl⟩ rfl ?_
      refine WE.o1 (j := 7) (b := false) hx 16 (by rfl) ⟨_, _, rfl, rfl, .inr rfl⟩ rfl ?_
      refine WE.o1 (j := 7) (b := false) hx 17 (by rfl) ⟨_, _, rfl, rfl, .inr rfl⟩ rfl ?_
      refine WE.o1 (j := 7) (b := false) hx 18 (by rfl) ⟨_, _, rfl, rfl, .inr rfl⟩ rfl ?_
      refine WE.p0 hx 19 (by rfl) (fun w_ => Runs.pick rfl rfl rfl) rfl ?_
      refine WE.p0 hx 20 (by rfl) (fun w_ => Runs.move rfl) rfl ?_
      refine WE.o1 (j := 20) (b := false) hx 21 (by rfl) ⟨_, _, rfl, rfl, .inr rfl⟩ rfl ?_
      refine WE.o1 (j := 20) (b := false) hx 22 (by rfl) ⟨_, _, rfl, rfl, .inr rfl⟩ rfl ?_
      refine WE.o1 (j := 20) (b := false) hx 23 (by rfl) ⟨_, _, rfl, rfl, .inr rfl⟩ rfl ?_
      refine WE.o1 (j := 20) (b := false) hx 24 (by rfl) ⟨_, _, rfl, rfl, .inr rfl⟩ rfl ?_
      refine WE.o1 (j := 20) (b := false) hx 25 (by rfl) ⟨_, _, rfl, rfl, .inr rfl⟩ rfl ?_
      refine WE.o1 (j := 20) (b := false) hx 26 (by rfl) ⟨_, _, rfl, rfl, .inr rfl⟩ rfl ?_
      refine WE.p0 hx 27 (by rfl) (fun w_ => Runs.pick rfl rfl rfl) rfl ?_
      refine WE.fin (.inr (h6.drop 4)) (by kernel_rfl) ?_
      refine WN.thn ?_
      refine WC.condT rfl (rfl) ?_
      refine WC.seq (WC.reg ?_)
      refine WL.v (Runs.assign rfl) rfl ?_
      refine WL.nil (WN.thn (WC.ret ?_))
      refine ret1 rfl rfl ?_
      rw [show beginsM z r ph = (z, 14) from begins_14 (.inl (Bool.eq_false_iff.2 q0))]
      exact ⟨F, rj, rs, AJ, AS, cj, cS, Le.refl F, rfl, hO, ((h6.drop 0).drop 0)⟩
    · skip
      refine WC.eregK h5 (h5.drop 4) (fun s_ => ([] : List Nat).any (Nat.beq s_)) mixed (by kernel_rfl) (fun hx => ?_)
      intro w7 h7
      refine WE.p0 hx 0 (by rfl) (fun w_ => Runs.boolT (c := true) (Runs.move rfl) q0) rfl ?_
      refine WE.p0 hx 1 (by rfl) (fun w_ => Runs.not rfl) rfl ?_
      refine WE.p0 hx 2 (by rfl) (fun w_ => Runs.move rfl) rfl ?_
      refine WE.p1 (j := 2) (b := false) hx 3 (by rfl) ⟨_, _, rfl, rfl, rfl⟩ (fun w_ => Runs.fld fld47_2 rfl) rfl ?_
      refine WE.v1 (j := 2) (b := false) 12 hx 4 (by rfl) ⟨_, _, rfl, rfl, rfl⟩ (fun w_ hE_ => Runs.load1 Try.underlying3 rfl rfl (hE_.ocell (i := 0) rfl rfl)) rfl ?_
      refine WE.p1 (j := 2) (b := false) hx 5 (by rfl) ⟨_, _, rfl, rfl, rfl⟩ (fun w_ => Runs.boolT (c := true) (Runs.neq rfl rfl) (by rw [decide_eq_false q1]; rfl)) rfl ?_
      refine WE.p0 hx 6 (by rfl) (fun w_ => Runs.pick rfl rfl rfl) rfl ?_
      refine WE.p0 hx 7 (by rfl) (fun w_ => Runs.move rfl) rfl ?_
      refine WE.o1 (j := 7) (b := false) hx 8 (by rfl) ⟨_, _, rfl, rfl, .inr rfl⟩ rfl ?_
      refine WE.o1 (j := 7) (b := false) hx 9 (by rfl) ⟨_, _, rfl, rfl, .inr rfl⟩ rfl ?_
      refine WE.o1 (j := 7) (b := false) hx 10 (by rfl) ⟨_, _, rfl, rfl, .inr rfl⟩ rfl ?_
      refine WE.o1 (j := 7) (b := false) hx 11 (by rfl) ⟨_, _, rfl, rfl, .inr rfl⟩ rfl ?_
      refine WE.o1 (j := 7) (b := false) hx 12 (by rfl) ⟨_, _, rfl, rfl, .inr rfl⟩ rfl ?_
      refine WE.o1 (j := 7) (b := false) hx 13 (by rfl) ⟨_, _, rfl, rfl, .inr rfl⟩ rfl ?_
      refine WE.o1 (j := 7) (b := false) hx 14 (by rfl) ⟨_, _, rfl, rfl, .inr rfl⟩ rfl ?_
      refine WE.o1 (j := 7) (b := false) hx 15 (by rfl) ⟨_, _, rfl, rfl, .inr rfl⟩ rfl ?_
      refine WE.o1 (j := 7) (b := false) hx 16 (by rfl) ⟨_, _, rfl, rfl, .inr rfl⟩ rfl ?_
      refine WE.o1 (j := 7) (b := false) hx 17 (by rfl) ⟨_, _, rfl, rfl, .inr rfl⟩ rfl ?_
      refine WE.o1 (j := 7) (b := false) hx 18 (by rfl) ⟨_, _, rfl, rfl, .inr rfl⟩ rfl ?_
      refine WE.p0 hx 19 (by rfl) (fun w_ => Runs.pick rfl rfl rfl) rfl ?_
      refine WE.p0 hx 20 (by rfl) (fun w_ => Runs.move rfl) rfl ?_
      refine WE.o1 (j := 20) (b := false) hx 21 (by rfl) ⟨_, _, rfl, rfl, .inr rfl⟩ rfl ?_
      refine WE.o1 (j := 20) (b := false) hx 22 (by rfl) ⟨_, _, rfl, rfl, .inr rfl⟩ rfl ?_
      refine WE.o1 (j := 20) (b := false) hx 23 (by rfl) ⟨_, _, rfl, rfl, .inr rfl⟩ rfl ?_
      refine WE.o1 (j := 20) (b := false) hx 24 (by rfl) ⟨_, _, rfl, rfl, .inr rfl⟩ rfl ?_
      refine WE.o1 (j := 20) (b := false) hx 25 (by rfl) ⟨_, _, rfl, rfl, .inr rfl⟩ rfl ?_
      refine WE.o1 (j := 20) (b := false) hx 26 (by rfl) ⟨_, _, rfl, rfl, .inr rfl⟩ rfl ?_
      refine WE.p0 hx 27 (by rfl) (fun w_ => Runs.pick rfl rfl rfl) rfl ?_
      refine WE.fin (.inr (h7.drop 4)) (by kernel_rfl) ?_
      refine WN.thn ?_
      refine WC.condT rfl (rfl) ?_
      refine WC.seq (WC.reg ?_)
      refine WL.v (Runs.assign rfl) rfl ?_
      refine WL.nil (WN.thn (WC.ret ?_))
      refine ret1 rfl rfl ?_
      rw [show beginsM z r ph = (z, 14) from begins_14 (.inr (.inl q1))]
      exact ⟨F, rj, rs, AJ, AS, cj, cS, Le.refl F, rfl, hO, ((h7.drop 0).drop 0)⟩
    · skip
      refine WC.eregK h5 (h5.drop 4) (fun s_ => ([] : List Nat).any (Nat.beq s_)) mixed (by kernel_rfl) (fun hx => ?_)
      intro w8 h8
      refine WE.p0 hx 0 (by rfl) (fun w_ => Runs.boolT (c := true) (Runs.move rfl) q0) rfl ?_
      refine WE.p0 hx 1 (by rfl) (fun w_ => Runs.not rfl) rfl ?_
      refine WE.p0 hx 2 (by rfl) (fun w_ => Runs.move rfl) rfl ?_
      refine WE.p1 (j := 2) (b := false) hx 3 (by rfl) ⟨_, _, rfl, rfl, rfl⟩ (fun w_ => Runs.fld fld47_2 rfl) rfl ?_
      refine WE.v1 (j := 2) (b := false) 12 hx 4 (by rfl) ⟨_, _, rfl, rfl, rfl⟩ (fun w_ hE_ => Runs.load1 Try.underlying3 rfl rfl (hE_.ocell (i := 0) rfl rfl)) rfl ?_
      refine WE.p1 (j := 2) (b := false) hx 5 (by rfl) ⟨_, _, rfl, rfl, rfl⟩ (fun w_ => Runs.boolT (c := false) (Runs.neq rfl rfl) (by rw [decide_eq_true q1]; rfl)) rfl ?_
      refine WE.p0 hx 6 (by rfl) (fun w_ => Runs.pick rfl rfl rfl) rfl ?_
      refine WE.p0 hx 7 (by rfl) (fun w_ => Runs.move rfl) rfl ?_
      refine WE.p1 (j := 7) (b := false) hx 8 (by rfl) ⟨_, _, rfl, rfl, rfl⟩ (fun w_ => Runs.move rfl) rfl ?_
      refine WE.p1 (j := 7) (b := false) hx 9 (by rfl) ⟨_, _, rfl, rfl, rfl⟩ (fun w_ => Runs.nilCheckP rfl) rfl ?_
      refine WE.p1 (j := 7) (b := false) hx 11 (by rfl) ⟨_, _, rfl, rfl, rfl⟩ (fun w_ => Runs.fld fld24_1 rfl) rfl ?_
      refine WE.p1 (j := 7) (b := false) hx 13 (by rfl) ⟨_, _, rfl, rfl, rfl⟩ (fun w_ => Runs.fld fld24_2 rfl) rfl ?_
      refine WE.p1 (j := 7) (b := false) hx 15 (by rfl) ⟨_, _, rfl, rfl, rfl⟩ (fun w_ => Runs.fld fld24_3 rfl) rfl ?_
      refine WE.v1 (j := 7) (b := false) 12 hx 10 (by rfl) ⟨_, _, rfl, rfl, rfl⟩ (fun w_ hE_ => Runs.loadAll hE_ 2 rfl Try.underlying40 rfl inf40 rfl rfl) rfl ?_
      refine WE.v1 (j := 7) (b := false) 12 hx 12 (by rfl) ⟨_, _, rfl, rfl, rfl⟩ (fun w_ hE_ => Runs.load1 Try.underlying3 rfl rfl (hE_.ocell (i := 1) rfl rfl)) rfl ?_
      refine WE.v1 (j := 7) (b := false) 12 hx 14 (by rfl) ⟨_, _, rfl, rfl, rfl⟩ (fun w_ hE_ => Runs.load1 Try.underlying3 rfl rfl (hE_.ocell (i := 1) rfl rfl)) rfl ?_
      refine WE.v1 (j := 7) (b := false) 12 hx 16 (by rfl) ⟨_, _, rfl, rfl, rfl⟩ (fun w_ hE_ => Runs.load1 Try.underlying3 rfl rfl (hE_.ocell (i := 1) rfl rfl)) rfl ?_
      refine WE.op (.inr (h8.drop 4)) (i := 17) (by rfl) (by kernel_rfl) ?_
      refine WL.gon rfl rfl rfl ?_
      refine WL.call can54 rfl rfl (step_c _ r.jb r.ep r.st h8 (hO.rdS (i := 4) rfl) (by have := hz.s; omega)) ?_
      rintro _ w9 ⟨rfl, h9⟩
      refine ⟨_, rfl, ?_⟩
      refine WL.nil (WE.next ?_)
      refine WE.p1 (j := 7) (b := false) hx 18 (by rfl) ⟨_, _, rfl, rfl, rfl⟩ (fun w_ => Runs.boolT (c := true) (Runs.geq rfl rfl) (decide_eq_true (Classical.not_not.1 q2))) rfl ?_
      refine WE.p0 hx 19 (by rfl) (fun w_ => Runs.pick rfl rfl rfl) rfl ?_
      refine WE.p0 hx 20 (by rfl) (fun w_ => Runs.move rfl) rfl ?_
      refine WE.o1 (j := 20) (b := false) hx 21 (by rfl) ⟨_, _, rfl, rfl, .inr rfl⟩ rfl ?_
      refine WE.o1 (j := 20) (b := false) hx 22 (by rfl) ⟨_, _, rfl, rfl, .inr rfl⟩ rfl ?_
      refine WE.o1 (j := 20) (b := false) hx 23 (by rfl) ⟨_, _, rfl, rfl, .inr rfl⟩ rfl ?_
      refine WE.o1 (j := 20) (b := false) hx 24 (by rfl) ⟨_, _, rfl, rfl, .inr rfl⟩ rfl ?_
      refine WE.o1 (j := 20) (b := false) hx 25 (by rfl) ⟨_, _, rfl, rfl, .inr rfl⟩ rfl ?_
      refine WE.o1 (j := 20) (b := false) hx 26 (by rfl) ⟨_, _, rfl, rfl, .inr rfl⟩ rfl ?_
      refine WE.p0 hx 27 (by rfl) (fun w_ => Runs.pick rfl rfl rfl) rfl ?_
      refine WE.fin (.inr (h9.drop 4)) (by kernel_rfl) ?_
      refine WN.thn ?_
      refine WC.condT rfl (rfl) ?_
      refine WC.seq (WC.reg ?_)
      refine WL.v (Runs.assign rfl) rfl ?_
      refine WL.nil (WN.thn (WC.ret ?_))
      refine ret1 rfl rfl ?_
      rw [show beginsM z r ph = (z, 14) from begins_14 (.inr (.inr (.inl (Classical.not_not.1 q2))))]
      exact ⟨F, rj, rs, AJ, AS, cj, cS, Le.refl F, rfl, hO, ((h9.drop 0).drop 0)⟩
    · skip
      refine WC.eregK h5 (h5.drop 4) (fun s_ => ([] : List Nat).any (Nat.beq s_)) mixed (by kernel_rfl) (fun hx => ?_)
      intro w10 h10
      refine WE.p0 hx 0 (by rfl) (fun w_ => Runs.boolT (c := true) (Runs.move rfl) q0) rfl ?_
      refine WE.p0 hx 1 (by rfl) (fun w_ => Runs.not rfl) rfl ?_
      refine WE.p0 hx 2 (by rfl) (fun w_ => Runs.move rfl) rfl ?_
      refine WE.p1 (j := 2) (b := false) hx 3 (by rfl) ⟨_, _, rfl, rfl, rfl⟩ (fun w_ => Runs.fld fld47_2 rfl) rfl ?_
      refine WE.v1 (j := 2) (b := false) 12 hx 4 (by rfl) ⟨_, _, rfl, rfl, rfl⟩ (fun w_ hE_ => Runs.load1 Try.underlying3 rfl rfl (hE_.ocell (i := 0) rfl rfl)) rfl ?_
      refine WE.p1 (j := 2) (b := false) hx 5 (by rfl) ⟨_, _, rfl, rfl, rfl⟩ (fun w_ => Runs.boolT (c := false) (Runs.neq rfl rfl) (by rw [decide_eq_true q1]; rfl)) rfl ?_
      refine WE.p0 hx 6 (by rfl) (fun w_ => Runs.pick rfl rfl rfl) rfl ?_
      refine WE.p0 hx 7 (by rfl) (fun w_ => Runs.move rfl) rfl ?_
      refine WE.p1 (j := 7) (b := false) hx 8 (by rfl) ⟨_, _, rfl, rfl, rfl⟩ (fun w_ => Runs.move rfl) rfl ?_
      refine WE.p1 (j := 7) (b := false) hx 9 (by rfl) ⟨_, _, rfl, rfl, rfl⟩ (fun w_ => Runs.nilCheckP rfl) rfl ?_
      refine WE.p1 (j := 7) (b := false) hx 11 (by rfl) ⟨_, _, rfl, rfl, rfl⟩ (fun w_ => Runs.fld fld24_1 rfl) rfl ?_
      refine WE.p1 (j := 7) (b := false) hx 13 (by rfl) ⟨_, _, rfl, rfl, rfl⟩ (fun w_ => Runs.fld fld24_2 rfl) rfl ?_
      refine WE.p1 (j := 7) (b := false) hx 15 (by rfl) ⟨_, _, rfl, rfl, rfl⟩ (fun w_ => Runs.fld fld24_3 rfl) rfl ?_
      refine WE.v1 (j := 7) (b := false) 12 hx 10 (by rfl) ⟨_, _, rfl, rfl, rfl⟩ (fun w_ hE_ => Runs.loadAll hE_ 2 rfl Try.underlying40 rfl inf40 rfl rfl) rfl ?_
      refine WE.v1 (j := 7) (b := false) 12 hx 12 (by rfl) ⟨_, _, rfl, rfl, rfl⟩ (fun w_ hE_ => Runs.load1 Try.underlying3 rfl rfl (hE_.ocell (i := 1) rfl rfl)) rfl ?_
      refine WE.v1 (j := 7) (b := false) 12 hx 14 (by rfl) ⟨_, _, rfl, rfl, rfl⟩ (fun w_ hE_ => Runs.load1 Try.underlying3 rfl rfl (hE_.ocell (i := 1) rfl rfl)) rfl ?_
      refine WE.v1 (j := 7) (b := false) 12 hx 16 (by rfl) ⟨_, _, rfl, rfl, rfl⟩ (fun w_ hE_ => Runs.load1 Try.underlying3 rfl rfl (hE_.ocell (i := 1) rfl rfl)) rfl ?_
      refine WE.op (.inr (h10.drop 4)) (i := 17) (by rfl) (by kernel_rfl) ?_
      refine WL.gon rfl rfl rfl ?_
      refine WL.call can54 rfl rfl (step_c _ r.jb r.ep r.st h10 (hO.rdS (i := 4) rfl) (by have := hz.s; omega)) ?_
      rintro _ w11 ⟨rfl, h11⟩
      refine ⟨_, rfl, ?_⟩
      refine WL.nil (WE.next ?_)
      refine WE.p1 (j := 7) (b := false) hx 18 (by rfl) ⟨_, _, rfl, rfl, rfl⟩ (fun w_ => Runs.boolT (c := false) (Runs.geq rfl rfl) (decide_eq_false q2)) rfl ?_
      refine WE.p0 hx 19 (by rfl) (fun w_ => Runs.pick rfl rfl rfl) rfl ?_
      refine WE.p0 hx 20 (by rfl) (fun w_ => Runs.move rfl) rfl ?_
      refine WE.p1 (j := 20) (b := false) hx 21 (by rfl) ⟨_, _, rfl, rfl, rfl⟩ (fun w_ => Runs.move rfl) rfl ?_
      refine WE.p1 (j := 20) (b := false) hx 22 (by rfl) ⟨_, _, rfl, rfl, rfl⟩ (fun w_ => Runs.nilCheckP rfl) rfl ?_
      refine WE.p1 (j := 20) (b := false) hx 23 (by rfl) ⟨_, _, rfl, rfl, rfl⟩ (fun w_ => Runs.fld fld40_1 rfl) rfl ?_
      refine WE.p1 (j := 20) (b := false) hx 25 (by rfl) ⟨_, _, rfl, rfl, rfl⟩ (fun w_ => Runs.move rfl) rfl ?_
      refine WE.v1 (j := 20) (b := false) 12 hx 24 (by rfl) ⟨_, _, rfl, rfl, rfl⟩ (fun w_ hE_ => Runs.load1 Try.underlying38 rfl rfl (hE_.ocell (i := 2) rfl rfl)) rfl ?_
      refine WE.op (.inr (h11.drop 4)) (i := 26) (by rfl) (by kernel_rfl) ?_
      refine WL.gon rfl rfl rfl ?_
      refine WL.call can55 rfl rfl (cfS_c _ 88 [.pointer (some ⟨b4, 0, none⟩)] (shareB r.ls) can88 h11 (hO.rdS (i := 4) rfl) (by have := hz.s; omega) (fun w9 x9 A9 c9 hx9 hp9 h9 => share1_c (ibr := 1) w9 x9 h9 rfl hl hn hp9 (hz.p x9 hx9))) ?_
      rintro _ w12 ⟨rfl, h12⟩
      refine ⟨_, rfl, ?_⟩
      refine WL.nil (WE.next ?_)
      refine WE.p0 hx 27 (by rfl) (fun w_ => Runs.pick rfl rfl rfl) rfl ?_
      refine WE.fin (.inr (h12.drop 4)) (by kernel_rfl) ?_
      refine WN.thn ?_
      refine WC.cond rfl (fun c13 => ?_) (fun c13 => ?_)
      · try simp only [dt, df, nt, nf, ba, il, ie] at c13
        first
        | (exfalso; omega)
        | skip
          refine WC.seq (WC.reg ?_)
          refine WL.v (Runs.assign rfl) rfl ?_
          refine WL.nil (WN.thn (WC.ret ?_))
          refine ret1 rfl rfl ?_
          rw [show beginsM z r ph = (z, 14) from begins_14 (.inr (.inr (.inr c13)))]
          exact ⟨F, rj, rs, AJ, AS, cj, cS, Le.refl F, rfl, hO, ((h12.drop 0).drop 0)⟩
      · try simp only [dt, df, nt, nf, ba, il, ie] at c13
        first
        | (exfalso; omega)
        | skip
          refine WC.skip (WN.thn (WC.seq ?_))
          
          refine WC.eregK h12 (h12.drop 4) (fun s_ => ([20] : List Nat).any (Nat.beq s_)) mixed (by kernel_rfl) (fun hx => ?_)
          intro w14 h14
          refine WE.p0 hx 0 (by rfl) (fun w_ => Runs.move rfl) rfl ?_
          refine WE.p0 hx 1 (by rfl) (fun w_ => Runs.move rfl) rfl ?_
          refine WE.p0 hx 2 (by rfl) (fun w_ => Runs.nilCheckP rfl) rfl ?_
          refine WE.p0 hx 3 (by rfl) (fun w_ => Runs.fld fld40_1 rfl) rfl ?_
          refine WE.p0 hx 5 (by rfl) (fun w_ => Runs.fld fld24_1 rfl) rfl ?_
          refine WE.p0 hx 7 (by rfl) (fun w_ => Runs.fld fld24_2 rfl) rfl ?_
          refine WE.p0 hx 9 (by rfl) (fun w_ => Runs.fld fld24_3 rfl) rfl ?_
          refine WE.p0 hx 12 (by rfl) (fun w_ => Runs.fld fld24_5 rfl) rfl ?_
          refine WE.v0 12 hx 4 (by rfl) (fun w_ hE_ => Runs.load1 Try.underlying38 rfl rfl (hE_.ocell (i := 2) rfl rfl)) rfl ?_
          refine WE.v0 12 hx 6 (by rfl) (fun w_ hE_ => Runs.load1 Try.underlying3 rfl rfl (hE_.ocell (i := 1) rfl rfl)) rfl ?_
          refine WE.v0 12 hx 8 (by rfl) (fun w_ hE_ => Runs.load1 Try.underlying3 rfl rfl (hE_.ocell (i := 1) rfl rfl)) rfl ?_
          refine WE.v0 12 hx 10 (by rfl) (fun w_ hE_ => Runs.load1 Try.underlying3 rfl rfl (hE_.ocell (i := 1) rfl rfl)) rfl ?_
          refine WE.v0 12 hx 11 (by rfl) (fun w_ hE_ => Runs.load1 Try.underlying3 rfl rfl (hE_.cell (cellB hfzbp rfl))) rfl ?_
          refine WE.v0 12 hx 13 (by rfl) (fun w_ hE_ => Runs.load1 Try.underlying22 rfl rfl (hE_.ocell (i := 1) rfl rfl)) rfl ?_
          refine WE.op (.inr (h14.drop 4)) (i := 14) (by rfl) (by kernel_rfl) ?_
          refine WL.call can92 rfl rfl (cloneI_c _ h14 hl hn) ?_
          rintro _ w15 ⟨G15, A15, cap15, hG15, rfl, hcap15, hrd15, h15⟩
          refine ⟨_, rfl, ?_⟩
          replace hleF := Le.trans hleF hG15
          replace hO := hO.mono hG15
          replace hl := hl.mono hG15
          replace hfzbp := hG15 _ _ hfzbp
          obtain ⟨es, hS, hes, hps⟩ := hO.S
          have hel : es.length = z.ss.length := by rw [← hes, List.length_map]
          have hzs := hz.s
          refine WL.nil (WE.next ?_)
          refine WE.p0 hx 15 (by rfl) (fun w_ => Runs.build (vs := [(0, Vi r.jb), (1, Vi r.ep), (2, Vi r.st), (3, Vi ph), (5, .slice A15 r.ls.length cap15)]) (cells := #[Vi r.jb, Vi r.ep, Vi r.st, Vi ph, Vi 0, .slice A15 r.ls.length cap15]) rfl (by kernel_rfl)) rfl ?_
          refine WE.op (.inr ((h15.weak hG15).drop 4)) (i := 16) (by rfl) (by kernel_rfl) ?_
          refine WL.buildSlice (vs := [SV A15 cap15 ⟨r.jb, r.ep, r.st, ph, 0, r.ls⟩]) h15 rfl Try.underlying38 (inf54.elem rfl rfl) rfl rfl rfl (by decide) ?_
          intro lit65 w16 h16
          try simp only [lz, ls, ez, es'] at h16
          refine WL.nil (WE.next ?_)
          refine WE.op (.inr (((h16.weak hG15).drop 5).drop 0)) (i := 17) (by rfl) (by kernel_rfl) ?_
          refine WL.appM (f := sc) (ys := [{ s := ⟨r.jb, r.ep, r.st, ph, 0, r.ls⟩, A := A15, cap := cap15 }]) 5 h16 rfl rfl rfl rfl Try.underlying38 Try.underlying38 (.inr ⟨_, rfl⟩) (inf54.elem rfl rfl) hS (Src.litM h16 0 rfl rfl rfl) rfl (by first | omega | (simp; done) | (simp; omega) | (simp only [List.length_nil]; omega)) (by first | omega | (simp; done) | (simp; omega) | (simp only [List.length_nil]; omega)) ?_
          intro r17 v17 w18 hr17 h18
          simp only [lz, ls] at h18
          replace h18 := h18.drop 0
          simp only [ez, es'] at h18
          obtain ⟨A17, cap17, rfl, hcap17⟩ := hr17.val
          refine WL.nil (WE.next ?_)
          refine WE.p0 hx 18 (by rfl) (fun w_ => Runs.nilCheckP rfl) rfl ?_
          refine WE.p0 hx 19 (by rfl) (fun w_ => Runs.fld fld40_1 rfl) rfl ?_
          refine WE.op (.inr ((h18.weak hG15).drop 4)) (i := 20) (by rfl) (by kernel_rfl) ?_
          refine WL.store' h18 2 rfl rfl rfl inf38 rfl rfl (Free.zero _) (Nat.le_of_ble_eq_true rfl) ?_
          intro  w19 h19
          try simp only [lz, ls, ez, es'] at h19
          refine WL.nil (WE.next ?_)
          refine WE.fin (.inl ⟨20, rfl, by kernel_rfl⟩) (by kernel_rfl) ?_
          refine WN.thn (WC.seq (WC.reg ?_))
          refine WL.v (Runs.assign rfl) rfl ?_
          refine WL.nil (WN.thn (WC.ret ?_))
          refine ret1 rfl rfl ?_
          rw [begins_0 (by rw [q0]; decide) (fun hh => hh q1) q2 c13]
          exact ⟨_, rj, _, AJ, _, cj, _, hleF, rfl, hO.addS hes hps (e := { s := ⟨r.jb, r.ep, r.st, ph, 0, r.ls⟩, A := A15, cap := cap15 }) hrd15 hr17, by rw [sbk_ap hes (e := { s := ⟨r.jb, r.ep, r.st, ph, 0, r.ls⟩, A := A15, cap := cap15 })]; exact (h19.drop 0).drop 0⟩
  · skip
    refine WL.alloc' rfl h2 inf47 ?_
    intro b6 w20 h20
    refine WL.nil (WE.next ?_)
    refine WE.op (.inr ((h20.drop 4).drop 0)) (i := 7) (by rfl) (by kernel_rfl) ?_
    refine WL.call can20 rfl rfl (find_c _ r.jb r.ep h20 (hO.rdJ (i := 3) rfl) (by have := hz.j; omega)) ?_
    rintro _ w21 ⟨rfl, h21⟩
    refine ⟨_, rfl, ?_⟩
    refine WL.nil (WE.next ?_)
    refine WE.p0 hx 8 (by rfl) (fun w_ => Runs.move rfl) rfl ?_
    refine WE.p0 hx 9 (by rfl) (fun w_ => Runs.extract rfl rfl) rfl ?_
    refine WE.p0 hx 10 (by rfl) (fun w_ => Runs.extract rfl rfl) rfl ?_
    refine WE.op (.inr ((h21.drop 4).drop 0)) (i := 12) (by rfl) (by kernel_rfl) ?_
    refine WL.storeAll h21 0 rfl rfl rfl inf47 rfl rfl rfl (Free.zero _) ?_
    intro  w22 h22
    try simp only [lz, ls, ez, es'] at h22
    refine WL.nil (WE.next ?_)
    refine WE.p0 hx 13 (by rfl) (fun w_ => Runs.assign rfl) rfl ?_
    refine WE.fin (.inl ⟨12, rfl, by kernel_rfl⟩) (by kernel_rfl) ?_
    refine WN.thn (WC.seq (WC.reg ?_))
    refine WL.v (Runs.makeFunc rfl rfl) rfl ?_
    refine WL.v (Runs.assign rfl) rfl ?_
    refine WL.nil (WN.thn (WC.seq (WC.seq ?_)))
    rcases three ((findM z r.jb r.ep).2 = true) ((findM z r.jb r.ep).1.ph = 0) (¬ 0 ≤ sIx z r.jb r.ep r.st) with q0 | ⟨q0, q1⟩ | ⟨q0, q1, q2⟩ | ⟨q0, q1, q2⟩
    · skip
      refine WC.eregK h22 (h22.drop 4) (fun s_ => ([] : List Nat).any (Nat.beq s_)) mixed (by kernel_rfl) (fun hx => ?_)
      intro w23 h23
      refine WE.p0 hx 0 (by rfl) (fun w_ => Runs.boolT (c := false) (Runs.move rfl) (Bool.eq_false_iff.2 q0)) rfl ?_
      refine WE.p0 hx 1 (by rfl) (fun w_ => Runs.not rfl) rfl ?_
      refine WE.p0 hx 2 (by rfl) (fun w_ => Runs.move rfl) rfl ?_
      refine WE.o1 (j := 2) (b := false) hx 3 (by rfl) ⟨_, _, rfl, rfl, .inr rfl⟩ rfl ?_
      refine WE.o1 (j := 2) (b := false) hx 4 (by rfl) ⟨_, _, rfl, rfl, .inr rfl⟩ rfl ?_
      refine WE.o1 (j := 2) (b := false) hx 5 (by rfl) ⟨_, _, rfl, rfl, .inr rfl⟩ rfl ?_
      refine WE.p0 hx 6 (by rfl) (fun w_ => Runs.pick rfl rfl rfl) rfl ?_
      refine WE.p0 hx 7 (by rfl) (fun w_ => Runs.move rfl) rfl ?_
      refine WE.o1 (j := 7) (b := false) hx 8 (by rfl) ⟨_, _, rfl, rfl, .inr rfl⟩ rfl ?_
      refine WE.o1 (j := 7) (b := false) hx 9 (by rfl) ⟨_, _, rfl, rfl, .inr rfl⟩ rfl ?_
      refine WE.o1 (j := 7) (b := false) hx 10 (by rfl) ⟨_, _, rfl, rfl, .inr rfl⟩ rfl ?_
      refine WE.o1 (j := 7) (b := false) hx 11 (by rfl) ⟨_, _, rfl, rfl, .inr rfl⟩ rfl ?_
      refine WE.o1 (j := 7) (b := false) hx 12 (by rfl) ⟨_, _, rfl, rfl, .inr rfl⟩ rfl ?_
      refine WE.o1 (j := 7) (b := false) hx 13 (by rfl) ⟨_, _, rfl, rfl, .inr rfl⟩ rfl ?_
      refine WE.o1 (j := 7) (b := false) hx 14 (by rfl) ⟨_, _, rfl, rfl, .inr rfl⟩ rfl ?_
      refine WE.o1 (j := 7) (b := false) hx 15 (by rfl) ⟨_, _, rfl, rfl, .inr rfl⟩ rfl ?_
      refine WE.o1 (j := 7) (b := false) hx 16 (by rfl) ⟨_, _, rfl, rfl, .inr rfl⟩ rfl ?_
      refine WE.o1 (j := 7) (b := false) hx 17 (by rfl) ⟨_, _, rfl, rfl, .inr rfl⟩ rfl ?_
      refine WE.o1 (j := 7) (b := false) hx 18 (by rfl) ⟨_, _, rfl, rfl, .inr rfl⟩ rfl ?_
      refine WE.p0 hx 19 (by rfl) (fun w_ => Runs.pick rfl rfl rfl) rfl ?_
      refine WE.p0 hx 20 (by rfl) (fun w_ => Runs.move rfl) rfl ?_
      refine WE.o1 (j := 20) (b := false) hx 21 (by rfl) ⟨_, _, rfl, rfl, .inr rfl⟩ rfl ?_
      refine WE.o1 (j := 20) (b := false) hx 22 (by rfl) ⟨_, _, rfl, rfl, .inr rfl⟩ rfl ?_
      refine WE.o1 (j := 20) (b := false) hx 23 (by rfl) ⟨_, _, rfl, rfl, .inr rfl⟩ rfl ?_
      refine WE.o1 (j := 20) (b := false) hx 24 (by rfl) ⟨_, _, rfl, rfl, .inr rfl⟩ rfl ?_
      refine WE.o1 (j := 20) (b := false) hx 25 (by rfl) ⟨_, _, rfl, rfl, .inr rfl⟩ rfl ?_
      refine WE.o1 (j := 20) (b := false) hx 26 (by rfl) ⟨_, _, rfl, rfl, .inr rfl⟩ rfl ?_
      refine WE.p0 hx 27 (by rfl) (fun w_ => Runs.pick rfl rfl rfl) rfl ?_
      refine WE.fin (.inr (h23.drop 4)) (by kernel_rfl) ?_
      refine WN.thn ?_
      refine WC.condT rfl (rfl) ?_
      refine WC.seq (WC.reg ?_)
      refine WL.v (Runs.assign rfl) rfl ?_
      refine WL.nil (WN.thn (WC.ret ?_))
      refine ret1 rfl rfl ?_
      rw [show beginsM z r ph = (z, 14) from begins_14 (.inl (Bool.eq_false_iff.2 q0))]
      exact ⟨F, rj, rs, AJ, AS, cj, cS, Le.refl F, rfl, hO, ((h23.drop 0).drop 0)⟩
    · skip
      refine WC.eregK h22 (h22.drop 4) (fun s_ => ([] : List Nat).any (Nat.beq s_)) mixed (by kernel_rfl) (fun hx => ?_)
      intro w24 h24
      refine WE.p0 hx 0 (by rfl) (fun w_ => Runs.boolT (c := true) (Runs.move rfl) q0) rfl ?_
      refine WE.p0 hx 1 (by rfl) (fun w_ => Runs.not rfl) rfl ?_
      refine WE.p0 hx 2 (by rfl) (fun w_ => Runs.move rfl) rfl ?_
      refine WE.p1 (j := 2) (b := false) hx 3 (by rfl) ⟨_, _, rfl, rfl, rfl⟩ (fun w_ => Runs.fld fld47_2 rfl) rfl ?_
      refine WE.v1 (j := 2) (b := false) 12 hx 4 (by rfl) ⟨_, _, rfl, rfl, rfl⟩ (fun w_ hE_ => Runs.load1 Try.underlying3 rfl rfl (hE_.ocell (i := 0) rfl rfl)) rfl ?_
      refine WE.p1 (j := 2) (b := false) hx 5 (by rfl) ⟨_, _, rfl, rfl, rfl⟩ (fun w_ => Runs.boolT (c := true) (Runs.neq rfl rfl) (by rw [decide_eq_false q1]; rfl)) rfl ?_
      refine WE.p0 hx 6 (by rfl) (fun w_ => Runs.pick rfl rfl rfl) rfl ?_
      refine WE.p0 hx 7 (by rfl) (fun w_ => Runs.move rfl) rfl ?_
      refine WE.o1 (j := 7) (b := false) hx 8 (by rfl) ⟨_, _, rfl, rfl, .inr rfl⟩ rfl ?_
      refine WE.o1 (j := 7) (b := false) hx 9 (by rfl) ⟨_, _, rfl, rfl, .inr rfl⟩ rfl ?_
      refine WE.o1 (j := 7) (b := false) hx 10 (by rfl) ⟨_, _, rfl, rfl, .inr rfl⟩ rfl ?_
      refine WE.o1 (j := 7) (b := false) hx 11 (by rfl) ⟨_, _, rfl, rfl, .inr rfl⟩ rfl ?_
      refine WE.o1 (j := 7) (b := false) hx 12 (by rfl) ⟨_, _, rfl, rfl, .inr rfl⟩ rfl ?_
      refine WE.o1 (j := 7) (b := false) hx 13 (by rfl) ⟨_, _, rfl, rfl, .inr rfl⟩ rfl ?_
      refine WE.o1 (j := 7) (b := false) hx 14 (by rfl) ⟨_, _, rfl, rfl, .inr rfl⟩ rfl ?_
      refine WE.o1 (j := 7) (b := false) hx 15 (by rfl) ⟨_, _, rfl, rfl, .inr rfl⟩ rfl ?_
      refine WE.o1 (j := 7) (b := false) hx 16 (by rfl) ⟨_, _, rfl, rfl, .inr rfl⟩ rfl ?_
      refine WE.o1 (j := 7) (b := false) hx 17 (by rfl) ⟨_, _, rfl, rfl, .inr rfl⟩ rfl ?_
      refine WE.o1 (j := 7) (b := false) hx 18 (by rfl) ⟨_, _, rfl, rfl, .inr rfl⟩ rfl ?_
      refine WE.p0 hx 19 (by rfl) (fun w_ => Runs.pick rfl rfl rfl) rfl ?_
      refine WE.p0 hx 20 (by rfl) (fun w_ => Runs.move rfl) rfl ?_
      refine WE.o1 (j := 20) (b := false) hx 21 (by rfl) ⟨_, _, rfl, rfl, .inr rfl⟩ rfl ?_
      refine WE.o1 (j := 20) (b := false) hx 22 (by rfl) ⟨_, _, rfl, rfl, .inr rfl⟩ rfl ?_
      refine WE.o1 (j := 20) (b := false) hx 23 (by rfl) ⟨_, _, rfl, rfl, .inr rfl⟩ rfl ?_
      refine WE.o1 (j := 20) (b := false) hx 24 (by rfl) ⟨_, _, rfl, rfl, .inr rfl⟩ rfl ?_
      refine WE.o1 (j := 20) (b := false) hx 25 (by rfl) ⟨_, _, rfl, rfl, .inr rfl⟩ rfl ?_
      refine WE.o1 (j := 20) (b := false) hx 26 (by rfl) ⟨_, _, rfl, rfl, .inr rfl⟩ rfl ?_
      refine WE.p0 hx 27 (by rfl) (fun w_ => Runs.pick rfl rfl rfl) rfl ?_
      refine WE.fin (.inr (h24.drop 4)) (by kernel_rfl) ?_
      refine WN.thn ?_
      refine WC.condT rfl (rfl) ?_
      refine WC.seq (WC.reg ?_)
      refine WL.v (Runs.assign rfl) rfl ?_
      refine WL.nil (WN.thn (WC.ret ?_))
      refine ret1 rfl rfl ?_
      rw [show beginsM z r ph = (z, 14) from begins_14 (.inr (.inl q1))]
      exact ⟨F, rj, rs, AJ, AS, cj, cS, Le.refl F, rfl, hO, ((h24.drop 0).drop 0)⟩
    · skip
      refine WC.eregK h22 (h22.drop 4) (fun s_ => ([] : List Nat).any (Nat.beq s_)) mixed (by kernel_rfl) (fun hx => ?_)
      intro w25 h25
      refine WE.p0 hx 0 (by rfl) (fun w_ => Runs.boolT (c := true) (Runs.move rfl) q0) rfl ?_
      refine WE.p0 hx 1 (by rfl) (fun w_ => Runs.not rfl) rfl ?_
      refine WE.p0 hx 2 (by rfl) (fun w_ => Runs.move rfl) rfl ?_
      refine WE.p1 (j := 2) (b := false) hx 3 (by rfl) ⟨_, _, rfl, rfl, rfl⟩ (fun w_ => Runs.fld fld47_2 rfl) rfl ?_
      refine WE.v1 (j := 2) (b := false) 12 hx 4 (by rfl) ⟨_, _, rfl, rfl, rfl⟩ (fun w_ hE_ => Runs.load1 Try.underlying3 rfl rfl (hE_.ocell (i := 0) rfl rfl)) rfl ?_
      refine WE.p1 (j := 2) (b := false) hx 5 (by rfl) ⟨_, _, rfl, rfl, rfl⟩ (fun w_ => Runs.boolT (c := false) (Runs.neq rfl rfl) (by rw [decide_eq_true q1]; rfl)) rfl ?_
      refine WE.p0 hx 6 (by rfl) (fun w_ => Runs.pick rfl rfl rfl) rfl ?_
      refine WE.p0 hx 7 (by rfl) (fun w_ => Runs.move rfl) rfl ?_
      refine WE.p1 (j := 7) (b := false) hx 8 (by rfl) ⟨_, _, rfl, rfl, rfl⟩ (fun w_ => Runs.move rfl) rfl ?_
      refine WE.p1 (j := 7) (b := false) hx 9 (by rfl) ⟨_, _, rfl, rfl, rfl⟩ (fun w_ => Runs.nilCheckP rfl) rfl ?_
      refine WE.p1 (j := 7) (b := false) hx 11 (by rfl) ⟨_, _, rfl, rfl, rfl⟩ (fun w_ => Runs.fld fld24_1 rfl) rfl ?_
      refine WE.p1 (j := 7) (b := false) hx 13 (by rfl) ⟨_, _, rfl, rfl, rfl⟩ (fun w_ => Runs.fld fld24_2 rfl) rfl ?_
      refine WE.p1 (j := 7) (b := false) hx 15 (by rfl) ⟨_, _, rfl, rfl, rfl⟩ (fun w_ => Runs.fld fld24_3 rfl) rfl ?_
      refine WE.v1 (j := 7) (b := false) 12 hx 10 (by rfl) ⟨_, _, rfl, rfl, rfl⟩ (fun w_ hE_ => Runs.loadAll hE_ 2 rfl Try.underlying40 rfl inf40 rfl rfl) rfl ?_
      refine WE.v1 (j := 7) (b := false) 12 hx 12 (by rfl) ⟨_, _, rfl, rfl, rfl⟩ (fun w_ hE_ => Runs.load1 Try.underlying3 rfl rfl (hE_.ocell (i := 1) rfl rfl)) rfl ?_
      refine WE.v1 (j := 7) (b := false) 12 hx 14 (by rfl) ⟨_, _, rfl, rfl, rfl⟩ (fun w_ hE_ => Runs.load1 Try.underlying3 rfl rfl (hE_.ocell (i := 1) rfl rfl)) rfl ?_
      refine WE.v1 (j := 7) (b := false) 12 hx 16 (by rfl) ⟨_, _, rfl, rfl, rfl⟩ (fun w_ hE_ => Runs.load1 Try.underlying3 rfl rfl (hE_.ocell (i := 1) rfl rfl)) rfl ?_
      refine WE.op (.inr (h25.drop 4)) (i := 17) (by rfl) (by kernel_rfl) ?_
      refine WL.gon rfl rfl rfl ?_
      refine WL.call can54 rfl rfl (step_c _ r.jb r.ep r.st h25 (hO.rdS (i := 4) rfl) (by have := hz.s; omega)) ?_
      rintro _ w26 ⟨rfl, h26⟩
      refine ⟨_, rfl, ?_⟩
      refine WL.nil (WE.next ?_)
      refine WE.p1 (j := 7) (b := false) hx 18 (by rfl) ⟨_, _, rfl, rfl, rfl⟩ (fun w_ => Runs.boolT (c := true) (Runs.geq rfl rfl) (decide_eq_true (Classical.not_not.1 q2))) rfl ?_
      refine WE.p0 hx 19 (by rfl) (fun w_ => Runs.pick rfl rfl rfl) rfl ?_
      refine WE.p0 hx 20 (by rfl) (fun w_ => Runs.move rfl) rfl ?_
      refine WE.o1 (j := 20) (b := false) hx 21 (by rfl) ⟨_, _, rfl, rfl, .inr rfl⟩ rfl ?_
      refine WE.o1 (j := 20) (b := false) hx 22 (by rfl) ⟨_, _, rfl, rfl, .inr rfl⟩ rfl ?_
      refine WE.o1 (j := 20) (b := false) hx 23 (by rfl) ⟨_, _, rfl, rfl, .inr rfl⟩ rfl ?_
      refine WE.o1 (j := 20) (b := false) hx 24 (by rfl) ⟨_, _, rfl, rfl, .inr rfl⟩ rfl ?_
      refine WE.o1 (j := 20) (b := false) hx 25 (by rfl) ⟨_, _, rfl, rfl, .inr rfl⟩ rfl ?_
      refine WE.o1 (j := 20) (b := false) hx 26 (by rfl) ⟨_, _, rfl, rfl, .inr rfl⟩ rfl ?_
      refine WE.p0 hx 27 (by rfl) (fun w_ => Runs.pick rfl rfl rfl) rfl ?_
      refine WE.fin (.inr (h26.drop 4)) (by kernel_rfl) ?_
      refine WN.thn ?_
      refine WC.condT rfl (rfl) ?_
      refine WC.seq (WC.reg ?_)
      refine WL.v (Runs.assign rfl) rfl ?_
      refine WL.nil (WN.thn (WC.ret ?_))
      refine ret1 rfl rfl ?_
      rw [show beginsM z r ph = (z, 14) from begins_14 (.inr (.inr (.inl (Classical.not_not.1 q2))))]
      exact ⟨F, rj, rs, AJ, AS, cj, cS, Le.refl F, rfl, hO, ((h26.drop 0).drop 0)⟩
    · skip
      refine WC.eregK h22 (h22.drop 4) (fun s_ => ([] : List Nat).any (Nat.beq s_)) mixed (by kernel_rfl) (fun hx => ?_)
      intro w27 h27
      refine WE.p0 hx 0 (by rfl) (fun w_ => Runs.boolT (c := true) (Runs.move rfl) q0) rfl ?_
      refine WE.p0 hx 1 (by rfl) (fun w_ => Runs.not rfl) rfl ?_
      refine WE.p0 hx 2 (by rfl) (fun w_ => Runs.move rfl) rfl ?_
      refine WE.p1 (j := 2) (b := false) hx 3 (by rfl) ⟨_, _, rfl, rfl, rfl⟩ (fun w_ => Runs.fld fld47_2 rfl) rfl ?_
      refine WE.v1 (j := 2) (b := false) 12 hx 4 (by rfl) ⟨_, _, rfl, rfl, rfl⟩ (fun w_ hE_ => Runs.load1 Try.underlying3 rfl rfl (hE_.ocell (i := 0) rfl rfl)) rfl ?_
      refine WE.p1 (j := 2) (b := false) hx 5 (by rfl) ⟨_, _, rfl, rfl, rfl⟩ (fun w_ => Runs.boolT (c := false) (Runs.neq rfl rfl) (by rw [decide_eq_true q1]; rfl)) rfl ?_
      refine WE.p0 hx 6 (by rfl) (fun w_ => Runs.pick rfl rfl rfl) rfl ?_
      refine WE.p0 hx 7 (by rfl) (fun w_ => Runs.move rfl) rfl ?_
      refine WE.p1 (j := 7) (b := false) hx 8 (by rfl) ⟨_, _, rfl, rfl, rfl⟩ (fun w_ => Runs.move rfl) rfl ?_
      refine WE.p1 (j := 7) (b := false) hx 9 (by rfl) ⟨_, _, rfl, rfl, rfl⟩ (fun w_ => Runs.nilCheckP rfl) rfl ?_
      refine WE.p1 (j := 7) (b := false) hx 11 (by rfl) ⟨_, _, rfl, rfl, rfl⟩ (fun w_ => Runs.fld fld24_1 rfl) rfl ?_
      refine WE.p1 (j := 7) (b := false) hx 13 (by rfl) ⟨_, _, rfl, rfl, rfl⟩ (fun w_ => Runs.fld fld24_2 rfl) rfl ?_
      refine WE.p1 (j := 7) (b := false) hx 15 (by rfl) ⟨_, _, rfl, rfl, rfl⟩ (fun w_ => Runs.fld fld24_3 rfl) rfl ?_
      refine WE.v1 (j := 7) (b := false) 12 hx 10 (by rfl) ⟨_, _, rfl, rfl, rfl⟩ (fun w_ hE_ => Runs.loadAll hE_ 2 rfl Try.underlying40 rfl inf40 rfl rfl) rfl ?_
      refine WE.v1 (j := 7) (b := false) 12 hx 12 (by rfl) ⟨_, _, rfl, rfl, rfl⟩ (fun w_ hE_ => Runs.load1 Try.underlying3 rfl rfl (hE_.ocell (i := 1) rfl rfl)) rfl ?_
      refine WE.v1 (j := 7) (b := false) 12 hx 14 (by rfl) ⟨_, _, rfl, rfl, rfl⟩ (fun w_ hE_ => Runs.load1 Try.underlying3 rfl rfl (hE_.ocell (i := 1) rfl rfl)) rfl ?_
      refine WE.v1 (j := 7) (b := false) 12 hx 16 (by rfl) ⟨_, _, rfl, rfl, rfl⟩ (fun w_ hE_ => Runs.load1 Try.underlying3 rfl rfl (hE_.ocell (i := 1) rfl rfl)) rfl ?_
      refine WE.op (.inr (h27.drop 4)) (i := 17) (by rfl) (by kernel_rfl) ?_
      refine WL.gon rfl rfl rfl ?_
      refine WL.call can54 rfl rfl (step_c _ r.jb r.ep r.st h27 (hO.rdS (i := 4) rfl) (by have := hz.s; omega)) ?_
      rintro _ w28 ⟨rfl, h28⟩
      refine ⟨_, rfl, ?_⟩
      refine WL.nil (WE.next ?_)
      refine WE.p1 (j := 7) (b := false) hx 18 (by rfl) ⟨_, _, rfl, rfl, rfl⟩ (fun w_ => Runs.boolT (c := false) (Runs.geq rfl rfl) (decide_eq_false q2)) rfl ?_
      refine WE.p0 hx 19 (by rfl) (fun w_ => Runs.pick rfl rfl rfl) rfl ?_
      refine WE.p0 hx 20 (by rfl) (fun w_ => Runs.move rfl) rfl ?_
      refine WE.p1 (j := 20) (b := false) hx 21 (by rfl) ⟨_, _, rfl, rfl, rfl⟩ (fun w_ => Runs.move rfl) rfl ?_
      refine WE.p1 (j := 20) (b := false) hx 22 (by rfl) ⟨_, _, rfl, rfl, rfl⟩ (fun w_ => Runs.nilCheckP rfl) rfl ?_
      refine WE.p1 (j := 20) (b := false) hx 23 (by rfl) ⟨_, _, rfl, rfl, rfl⟩ (fun w_ => Runs.fld fld40_1 rfl) rfl ?_
      refine WE.p1 (j := 20) (b := false) hx 25 (by rfl) ⟨_, _, rfl, rfl, rfl⟩ (fun w_ => Runs.move rfl) rfl ?_
      refine WE.v1 (j := 20) (b := false) 12 hx 24 (by rfl) ⟨_, _, rfl, rfl, rfl⟩ (fun w_ hE_ => Runs.load1 Try.underlying38 rfl rfl (hE_.ocell (i := 2) rfl rfl)) rfl ?_
      refine WE.op (.inr (h28.drop 4)) (i := 26) (by rfl) (by kernel_rfl) ?_
      refine WL.gon rfl rfl rfl ?_
      refine WL.call can55 rfl rfl (cfS_c _ 88 [.pointer (some ⟨b4, 0, none⟩)] (shareB r.ls) can88 h28 (hO.rdS (i := 4) rfl) (by have := hz.s; omega) (fun w9 x9 A9 c9 hx9 hp9 h9 => share1_c (ibr := 1) w9 x9 h9 rfl hl hn hp9 (hz.p x9 hx9))) ?_
      rintro _ w29 ⟨rfl, h29⟩
      refine ⟨_, rfl, ?_⟩
      refine WL.nil (WE.next ?_)
      refine WE.p0 hx 27 (by rfl) (fun w_ => Runs.pick rfl rfl rfl) rfl ?_
      refine WE.fin (.inr (h29.drop 4)) (by kernel_rfl) ?_
      refine WN.thn ?_
      refine WC.cond rfl (fun c30 => ?_) (fun c30 => ?_)
      · try simp only [dt, df, nt, nf, ba, il, ie] at c30
        first
        | (exfalso; omega)
        | skip
          refine WC.seq (WC.reg ?_)
          refine WL.v (Runs.assign rfl) rfl ?_
          refine WL.nil (WN.thn (WC.ret ?_))
          refine ret1 rfl rfl ?_
          rw [show beginsM z r ph = (z, 14) from begins_14 (.inr (.inr (.inr c30)))]
          exact ⟨F, rj, rs, AJ, AS, cj, cS, Le.refl F, rfl, hO, ((h29.drop 0).drop 0)⟩
      · try simp only [dt, df, nt, nf, ba, il, ie] at c30
        first
        | (exfalso; omega)
        | skip
          refine WC.skip (WN.thn (WC.seq ?_))
          
          refine WC.eregK h29 (h29.drop 4) (fun s_ => ([20] : List Nat).any (Nat.beq s_)) mixed (by kernel_rfl) (fun hx => ?_)
          intro w31 h31
          refine WE.p0 hx 0 (by rfl) (fun w_ => Runs.move rfl) rfl ?_
          refine WE.p0 hx 1 (by rfl) (fun w_ => Runs.move rfl) rfl ?_
          refine WE.p0 hx 2 (by rfl) (fun w_ => Runs.nilCheckP rfl) rfl ?_
          refine WE.p0 hx 3 (by rfl) (fun w_ => Runs.fld fld40_1 rfl) rfl ?_
          refine WE.p0 hx 5 (by rfl) (fun w_ => Runs.fld fld24_1 rfl) rfl ?_
          refine WE.p0 hx 7 (by rfl) (fun w_ => Runs.fld fld24_2 rfl) rfl ?_
          refine WE.p0 hx 9 (by rfl) (fun w_ => Runs.fld fld24_3 rfl) rfl ?_
          refine WE.p0 hx 12 (by rfl) (fun w_ => Runs.fld fld24_5 rfl) rfl ?_
          refine WE.v0 12 hx 4 (by rfl) (fun w_ hE_ => Runs.load1 Try.underlying38 rfl rfl (hE_.ocell (i := 2) rfl rfl)) rfl ?_
          refine WE.v0 12 hx 6 (by rfl) (fun w_ hE_ => Runs.load1 Try.underlying3 rfl rfl (hE_.ocell (i := 1) rfl rfl)) rfl ?_
          refine WE.v0 12 hx 8 (by rfl) (fun w_ hE_ => Runs.load1 Try.underlying3 rfl rfl (hE_.ocell (i := 1) rfl rfl)) rfl ?_
          refine WE.v0 12 hx 10 (by rfl) (fun w_ hE_ => Runs.load1 Try.underlying3 rfl rfl (hE_.ocell (i := 1) rfl rfl)) rfl ?_
          refine WE.v0 12 hx 11 (by rfl) (fun w_ hE_ => Runs.load1 Try.underlying3 rfl rfl (hE_.cell (cellB hfzbp rfl))) rfl ?_
          refine WE.v0 12 hx 13 (by rfl) (fun w_ hE_ => Runs.load1 Try.underlying22 rfl rfl (hE_.ocell (i := 1) rfl rfl)) rfl ?_
          refine WE.op (.inr (h31.drop 4)) (i := 14) (by rfl) (by kernel_rfl) ?_
          refine WL.call can92 rfl rfl (cloneI_c _ h31 hl hn) ?_
          rintro _ w32 ⟨G32, A32, cap32, hG32, rfl, hcap32, hrd32, h32⟩
          refine ⟨_, rfl, ?_⟩
          replace hleF := Le.trans hleF hG32
          replace hO := hO.mono hG32
          replace hl := hl.mono hG32
          replace hfzbp := hG32 _ _ hfzbp
          obtain ⟨es, hS, hes, hps⟩ := hO.S
          have hel : es.length = z.ss.length := by rw [← hes, List.length_map]
          have hzs := hz.s
          refine WL.nil (WE.next ?_)
          refine WE.p0 hx 15 (by rfl) (fun w_ => Runs.build (vs := [(0, Vi r.jb), (1, Vi r.ep), (2, Vi r.st), (3, Vi ph), (5, .slice A32 r.ls.length cap32)]) (cells := #[Vi r.jb, Vi r.ep, Vi r.st, Vi ph, Vi 0, .slice A32 r.ls.length cap32]) rfl (by kernel_rfl)) rfl ?_
          refine WE.op (.inr ((h32.weak hG32).drop 4)) (i := 16) (by rfl) (by kernel_rfl) ?_
          refine WL.buildSlice (vs := [SV A32 cap32 ⟨r.jb, r.ep, r.st, ph, 0, r.ls⟩]) h32 rfl Try.underlying38 (inf54.elem rfl rfl) rfl rfl rfl (by decide) ?_
          intro lit65 w33 h33
          try simp only [lz, ls, ez, es'] at h33
          refine WL.nil (WE.next ?_)
          refine WE.op (.inr (((h33.weak hG32).drop 5).drop 0)) (i := 17) (by rfl) (by kernel_rfl) ?_
          refine WL.appM (f := sc) (ys := [{ s := ⟨r.jb, r.ep, r.st, ph, 0, r.ls⟩, A := A32, cap := cap32 }]) 5 h33 rfl rfl rfl rfl Try.underlying38 Try.underlying38 (.inr ⟨_, rfl⟩) (inf54.elem rfl rfl) hS (Src.litM h33 0 rfl rfl rfl) rfl (by first | omega | (simp; done) | (simp; omega) | (simp only [List.length_nil]; omega)) (by first | omega | (simp; done) | (simp; omega) | (simp only [List.length_nil]; omega)) ?_
          intro r34 v34 w35 hr34 h35
          simp only [lz, ls] at h35
          replace h35 := h35.drop 0
          simp only [ez, es'] at h35
          obtain ⟨A34, cap34, rfl, hcap34⟩ := hr34.val
          refine WL.nil (WE.next ?_)
          refine WE.p0 hx 18 (by rfl) (fun w_ => Runs.nilCheckP rfl) rfl ?_
          refine WE.p0 hx 19 (by rfl) (fun w_ => Runs.fld fld40_1 rfl) rfl ?_
          refine WE.op (.inr ((h35.weak hG32).drop 4)) (i := 20) (by rfl) (by kernel_rfl) ?_
          refine WL.store' h35 2 rfl rfl rfl inf38 rfl rfl (Free.zero _) (Nat.le_of_ble_eq_true rfl) ?_
          intro  w36 h36
          try simp only [lz, ls, ez, es'] at h36
          refine WL.nil (WE.next ?_)
          refine WE.fin (.inl ⟨20, rfl, by kernel_rfl⟩) (by kernel_rfl) ?_
          refine WN.thn (WC.seq (WC.reg ?_))
          refine WL.v (Runs.assign rfl) rfl ?_
          refine WL.nil (WN.thn (WC.ret ?_))
          refine ret1 rfl rfl ?_
          rw [begins_0 (by rw [q0]; decide) (fun hh => hh q1) q2 c30]
          exact ⟨_, rj, _, AJ, _, cj, _, hleF, rfl, hO.addS hes hps (e := { s := ⟨r.jb, r.ep, r.st, ph, 0, r.ls⟩, A := A32, cap := cap32 }) hrd32 hr34, by rw [sbk_ap hes (e := { s := ⟨r.jb, r.ep, r.st, ph, 0, r.ls⟩, A := A32, cap := cap32 })]; exact (h36.drop 0).drop 0⟩
end Rc
end Go.Proofs.Ythejglgnoingfaa
