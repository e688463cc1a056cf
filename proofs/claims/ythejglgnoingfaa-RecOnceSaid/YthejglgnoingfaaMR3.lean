/- Walks of package rec: jobs and steps of a state. -/
import Derived.Test.YthejglgnoingfaaProg
import Derived.KernelRfl
import Derived.Test.YthejglgnoingfaaMBaseAH
import Derived.Test.YthejglgnoingfaaMR2
namespace Go.Proofs.Ythejglgnoingfaa
open Go Go.RowKit B
set_option linter.unusedVariables false
set_option linter.unusedSimpArgs false
namespace Rc

theorem inf40 : Inf Try.prog 40 (.agg #[.slice none 0 0, .slice none 0 0, .bool false]) 3 56 := by unfold Inf; kernel_rfl
theorem fld40_0 : fldB Try.prog 40 0 0 = true := by kernel_rfl
theorem fld40_1 : fldB Try.prog 40 1 1 = true := by kernel_rfl
theorem fld47_0 : fldB Try.prog 47 0 0 = true := by kernel_rfl
theorem fld47_1 : fldB Try.prog 47 1 1 = true := by kernel_rfl
theorem fld54_0 : fldB Try.prog 54 0 0 = true := by kernel_rfl
theorem fld54_1 : fldB Try.prog 54 1 1 = true := by kernel_rfl
theorem fld54_2 : fldB Try.prog 54 2 2 = true := by kernel_rfl
theorem fld54_3 : fldB Try.prog 54 3 3 = true := by kernel_rfl
theorem can52 : B.Can Try.prog 52 := ⟨_, Try.func52, by kernel_rfl, rfl⟩   -- (roundhouse/rec.State).job
theorem can54 : B.Can Try.prog 54 := ⟨_, Try.func54, by kernel_rfl, rfl⟩   -- (roundhouse/rec.State).step
theorem can55 : B.Can Try.prog 55 := ⟨_, Try.func55, by kernel_rfl, rfl⟩   -- slices.ContainsFunc[[]roundhouse/rec.Step,roundhouse/rec.Step]
theorem can56 : B.Can Try.prog 56 := ⟨_, Try.func56, by kernel_rfl, rfl⟩   -- roundhouse/rec.Alive$1
theorem can79 : B.Can Try.prog 79 := ⟨_, Try.func79, by kernel_rfl, rfl⟩   -- (roundhouse/rec.State).job$1
theorem can81 : B.Can Try.prog 81 := ⟨_, Try.func81, by kernel_rfl, rfl⟩   -- (roundhouse/rec.State).step$1
theorem can95 : B.Can Try.prog 95 := ⟨_, Try.func95, by kernel_rfl, rfl⟩   -- slices.ContainsFunc[[]roundhouse/rec.Job,roundhouse/rec.Job]
theorem can96 : B.Can Try.prog 96 := ⟨_, Try.func96, by kernel_rfl, rfl⟩   -- (roundhouse/rec.State).newer$1
theorem three (P0 P1 P2 : Prop) : (¬ P0) ∨ (P0 ∧ ¬ P1) ∨ (P0 ∧ P1 ∧ ¬ P2) ∨ (P0 ∧ P1 ∧ P2) := by
  by_cases h0 : P0
  · by_cases h1 : P1
    · by_cases h2 : P2
      · exact .inr (.inr (.inr (⟨h0, h1, h2⟩)))
      · exact .inr (.inr (.inl ⟨h0, h1, h2⟩))
    · exact .inr (.inl ⟨h0, h1⟩)
  · exact .inl h0

theorem RdK.push3 {α : Type} {d : Kd α} {W : World} {F : Snap} {cs : List Res} {A : Option Addr} {xs : List α} {r1 r2 r3 : Res} (h : RdK d W F cs A xs) : RdK d W F (r1 :: r2 :: r3 :: cs) A xs := h.push.push.push
theorem findM_t {z : Z} {jb ep : Int} {i : Nat} (h : jIx z jb ep = (i : Int)) : findM z jb ep = (z.js.getD i J0, true) := by
  unfold findM
  rw [if_pos (by omega), h]; rfl
theorem findM_f {z : Z} {jb ep : Int} (h : jIx z jb ep = -1) : findM z jb ep = (J0, false) := by
  unfold findM
  rw [if_neg (by omega)]
theorem stepM_t {z : Z} {jb ep st : Int} {i : Nat} (h : sIx z jb ep st = (i : Int)) : stepM z jb ep st = (z.ss.getD i S0, true) := by
  unfold stepM
  rw [if_pos (by omega), h]; rfl
theorem stepM_f {z : Z} {jb ep st : Int} (h : sIx z jb ep st = -1) : stepM z jb ep st = (S0, false) := by
  unfold stepM
  rw [if_neg (by omega)]
set_option maxRecDepth 100000 in
set_option maxHeartbeats 1000000 in
theorem job1_c {W : World} {F : Snap} {cs : List Res} (w : World) {jb ep : Int} {bj be ibj ibe : Nat} (x : J) (h : St W F cs w) (hbj : cs[ibj]? = some [(bj, .cells #[Vi jb] 3 (0, 0))]) (hbe : cs[ibe]? = some [(be, .cells #[Vi ep] 3 (0, 0))]) : Calls Try.prog 79 #[JV x, .pointer (some ⟨bj, 0, none⟩), .pointer (some ⟨be, 0, none⟩)] w fun e_ w' => e_ = .returned (.bool (jAt jb ep x)) ∧ St W F cs w'  := by
  refine enter (P := Try.prog) (args := [JV x, .pointer (some ⟨bj, 0, none⟩), .pointer (some ⟨be, 0, none⟩)]) Try.func79 rfl rfl rfl ?_
  refine WC.seq (WC.reg ?_)
  refine WL.box rfl h rfl ?_
  intro b3 w1 h1
  refine WL.v (Runs.assign rfl) rfl ?_
  refine WL.nil (WN.thn (WC.seq ?_))
  rcases two (x.jb = jb) (x.ep = ep) with q0 | ⟨q0, q1⟩ | ⟨q0, q1⟩
  · skip
    refine WC.reg ?_
    refine WL.v (Runs.fld fld47_0 rfl) rfl ?_
    refine WL.v (Runs.load1 Try.underlying3 rfl rfl (h1.ocell (i := 0) rfl rfl)) rfl ?_
    refine WL.v (Runs.load1 Try.underlying3 rfl rfl (h1.ocell (i := (ibj + 1)) hbj rfl)) rfl ?_
    refine WL.v (Runs.boolT (c := false) (Runs.eql rfl rfl) (decide_eq_false q0)) rfl ?_
    refine WL.v (Runs.move rfl) rfl ?_
    refine WL.goff rfl rfl rfl rfl ?_
    refine WL.goff rfl rfl rfl rfl ?_
    refine WL.goff rfl rfl rfl rfl ?_
    refine WL.goff rfl rfl rfl rfl ?_
    refine WL.v (Runs.pick rfl rfl rfl) rfl ?_
    refine WL.v (Runs.assign rfl) rfl ?_
    refine WL.nil (WN.thn (WC.ret ?_))
    refine ret1 rfl rfl ⟨?_, h1.drop 0⟩
    unfold jAt
    rw [decide_eq_false q0] <;> rfl
  · skip
    refine WC.reg ?_
    refine WL.v (Runs.fld fld47_0 rfl) rfl ?_
    refine WL.v (Runs.load1 Try.underlying3 rfl rfl (h1.ocell (i := 0) rfl rfl)) rfl ?_
    refine WL.v (Runs.load1 Try.underlying3 rfl rfl (h1.ocell (i := (ibj + 1)) hbj rfl)) rfl ?_
    refine WL.v (Runs.boolT (c := true) (Runs.eql rfl rfl) (decide_eq_true q0)) rfl ?_
    refine WL.v (Runs.move rfl) rfl ?_
    refine WL.gon rfl rfl rfl ?_
    refine WL.v (Runs.fld fld47_1 rfl) rfl ?_
    refine WL.gon rfl rfl rfl ?_
    refine WL.v (Runs.load1 Try.underlying3 rfl rfl (h1.ocell (i := 0) rfl rfl)) rfl ?_
    refine WL.gon rfl rfl rfl ?_
    refine WL.v (Runs.load1 Try.underlying3 rfl rfl (h1.ocell (i := (ibe + 1)) hbe rfl)) rfl ?_
    refine WL.gon rfl rfl rfl ?_
    refine WL.v (Runs.boolT (c := false) (Runs.eql rfl rfl) (decide_eq_false q1)) rfl ?_
    refine WL.v (Runs.pick rfl rfl rfl) rfl ?_
    refine WL.v (Runs.assign rfl) rfl ?_
    refine WL.nil (WN.thn (WC.ret ?_))
    refine ret1 rfl rfl ⟨?_, h1.drop 0⟩
    unfold jAt
    rw [decide_eq_true q0, decide_eq_false q1] <;> rfl
  · skip
    refine WC.reg ?_
    refine WL.v (Runs.fld fld47_0 rfl) rfl ?_
    refine WL.v (Runs.load1 Try.underlying3 rfl rfl (h1.ocell (i := 0) rfl rfl)) rfl ?_
    refine WL.v (Runs.load1 Try.underlying3 rfl rfl (h1.ocell (i := (ibj + 1)) hbj rfl)) rfl ?_
    refine WL.v (Runs.boolT (c := true) (Runs.eql rfl rfl) (decide_eq_true q0)) rfl ?_
    refine WL.v (Runs.move rfl) rfl ?_
    refine WL.gon rfl rfl rfl ?_
    refine WL.v (Runs.fld fld47_1 rfl) rfl ?_
    refine WL.gon rfl rfl rfl ?_
    refine WL.v (Runs.load1 Try.underlying3 rfl rfl (h1.ocell (i := 0) rfl rfl)) rfl ?_
    refine WL.gon rfl rfl rfl ?_
    refine WL.v (Runs.load1 Try.underlying3 rfl rfl (h1.ocell (i := (ibe + 1)) hbe rfl)) rfl ?_
    refine WL.gon rfl rfl rfl ?_
    refine WL.v (Runs.boolT (c := true) (Runs.eql rfl rfl) (decide_eq_true q1)) rfl ?_
    refine WL.v (Runs.pick rfl rfl rfl) rfl ?_
    refine WL.v (Runs.assign rfl) rfl ?_
    refine WL.nil (WN.thn (WC.ret ?_))
    refine ret1 rfl rfl ⟨?_, h1.drop 0⟩
    unfold jAt
    rw [decide_eq_true q0, decide_eq_true q1] <;> rfl
set_option maxRecDepth 100000 in
set_option maxHeartbeats 1000000 in
theorem step1_c {W : World} {F : Snap} {cs : List Res} (w : World) {jb ep st : Int} {A1 : Option Addr} {cap1 : Nat} {bj be bs ibj ibe ibs : Nat} (x : S) (h : St W F cs w) (hbj : cs[ibj]? = some [(bj, .cells #[Vi jb] 3 (0, 0))]) (hbe : cs[ibe]? = some [(be, .cells #[Vi ep] 3 (0, 0))]) (hbs : cs[ibs]? = some [(bs, .cells #[Vi st] 3 (0, 0))]) : Calls Try.prog 81 #[SV A1 cap1 x, .pointer (some ⟨bj, 0, none⟩), .pointer (some ⟨be, 0, none⟩), .pointer (some ⟨bs, 0, none⟩)] w fun e_ w' => e_ = .returned (.bool (sAt jb ep st x)) ∧ St W F cs w'  := by
  refine enter (P := Try.prog) (args := [SV A1 cap1 x, .pointer (some ⟨bj, 0, none⟩), .pointer (some ⟨be, 0, none⟩), .pointer (some ⟨bs, 0, none⟩)]) Try.func81 rfl rfl rfl ?_
  refine WC.seq (WC.reg ?_)
  refine WL.box rfl h rfl ?_
  intro b4 w1 h1
  refine WL.v (Runs.assign rfl) rfl ?_
  refine WL.nil (WN.thn (WC.seq ?_))
  rcases three (x.jb = jb) (x.ep = ep) (x.st = st) with q0 | ⟨q0, q1⟩ | ⟨q0, q1, q2⟩ | ⟨q0, q1, q2⟩
  · skip
    refine WC.reg ?_
    refine WL.v (Runs.fld fld54_0 rfl) rfl ?_
    refine WL.v (Runs.load1 Try.underlying3 rfl rfl (h1.ocell (i := 0) rfl rfl)) rfl ?_
    refine WL.v (Runs.load1 Try.underlying3 rfl rfl (h1.ocell (i := (ibj + 1)) hbj rfl)) rfl ?_
    refine WL.v (Runs.boolT (c := false) (Runs.eql rfl rfl) (decide_eq_false q0)) rfl ?_
    refine WL.v (Runs.move rfl) rfl ?_
    refine WL.goff rfl rfl rfl rfl ?_
    refine WL.goff rfl rfl rfl rfl ?_
    refine WL.goff rfl rfl rfl rfl ?_
    refine WL.goff rfl rfl rfl rfl ?_
    refine WL.v (Runs.pick rfl rfl rfl) rfl ?_
    refine WL.v (Runs.move rfl) rfl ?_
    refine WL.goff rfl rfl rfl rfl ?_
    refine WL.goff rfl rfl rfl rfl ?_
    refine WL.goff rfl rfl rfl rfl ?_
    refine WL.goff rfl rfl rfl rfl ?_
    refine WL.v (Runs.pick rfl rfl rfl) rfl ?_
    refine WL.v (Runs.assign rfl) rfl ?_
    refine WL.nil (WN.thn (WC.ret ?_))
    refine ret1 rfl rfl ⟨?_, h1.drop 0⟩
    unfold sAt
    rw [decide_eq_false q0] <;> rfl
  · skip
    refine WC.reg ?_
    refine WL.v (Runs.fld fld54_0 rfl) rfl ?_
    refine WL.v (Runs.load1 Try.underlying3 rfl rfl (h1.ocell (i := 0) rfl rfl)) rfl ?_
    refine WL.v (Runs.load1 Try.underlying3 rfl rfl (h1.ocell (i := (ibj + 1)) hbj rfl)) rfl ?_
    refine WL.v (Runs.boolT (c := true) (Runs.eql rfl rfl) (decide_eq_true q0)) rfl ?_
    refine WL.v (Runs.move rfl) rfl ?_
    refine WL.gon rfl rfl rfl ?_
    refine WL.v (Runs.fld fld54_1 rfl) rfl ?_
    refine WL.gon rfl rfl rfl ?_
    refine WL.v (Runs.load1 Try.underlying3 rfl rfl (h1.ocell (i := 0) rfl rfl)) rfl ?_
    refine WL.gon rfl rfl rfl ?_
    refine WL.v (Runs.load1 Try.underlying3 rfl rfl (h1.ocell (i := (ibe + 1)) hbe rfl)) rfl ?_
    refine WL.gon rfl rfl rfl ?_
    refine WL.v (Runs.boolT (c := false) (Runs.eql rfl rfl) (decide_eq_false q1)) rfl ?_
    refine WL.v (Runs.pick rfl rfl rfl) rfl ?_
    refine WL.v (Runs.move rfl) rfl ?_
    refine WL.goff rfl rfl rfl rfl ?_
    refine WL.goff rfl rfl rfl rfl ?_
    refine WL.goff rfl rfl rfl rfl ?_
    refine WL.goff rfl rfl rfl rfl ?_
    refine WL.v (Runs.pick rfl rfl rfl) rfl ?_
    refine WL.v (Runs.assign rfl) rfl ?_
    refine WL.nil (WN.thn (WC.ret ?_))
    refine ret1 rfl rfl ⟨?_, h1.drop 0⟩
    unfold sAt
    rw [decide_eq_true q0, decide_eq_false q1] <;> rfl
  · skip
    refine WC.reg ?_
    refine WL.v (Runs.fld fld54_0 rfl) rfl ?_
    refine WL.v (Runs.load1 Try.underlying3 rfl rfl (h1.ocell (i := 0) rfl rfl)) rfl ?_
    refine WL.v (Runs.load1 Try.underlying3 rfl rfl (h1.ocell (i := (ibj + 1)) hbj rfl)) rfl ?_
    refine WL.v (Runs.boolT (c := true) (Runs.eql rfl rfl) (decide_eq_true q0)) rfl ?_
    refine WL.v (Runs.move rfl) rfl ?_
    refine WL.gon rfl rfl rfl ?_
    refine WL.v (Runs.fld fld54_1 rfl) rfl ?_
    refine WL.gon rfl rfl rfl ?_
    refine WL.v (Runs.load1 Try.underlying3 rfl rfl (h1.ocell (i := 0) rfl rfl)) rfl ?_
    refine WL.gon rfl rfl rfl ?_
    refine WL.v (Runs.load1 Try.underlying3 rfl rfl (h1.ocell (i := (ibe + 1)) hbe rfl)) rfl ?_
    refine WL.gon rfl rfl rfl ?_
    refine WL.v (Runs.boolT (c := true) (Runs.eql rfl rfl) (decide_eq_true q1)) rfl ?_
    refine WL.v (Runs.pick rfl rfl rfl) rfl ?_
    refine WL.v (Runs.move rfl) rfl ?_
    refine WL.gon rfl rfl rfl ?_
    refine WL.v (Runs.fld fld54_2 rfl) rfl ?_
    refine WL.gon rfl rfl rfl ?_
    refine WL.v (Runs.load1 Try.underlying3 rfl rfl (h1.ocell (i := 0) rfl rfl)) rfl ?_
    refine WL.gon rfl rfl rfl ?_
    refine WL.v (Runs.load1 Try.underlying3 rfl rfl (h1.ocell (i := (ibs + 1)) hbs rfl)) rfl ?_
    refine WL.gon rfl rfl rfl ?_
    refine WL.v (Runs.boolT (c := false) (Runs.eql rfl rfl) (decide_eq_false q2)) rfl ?_
    refine WL.v (Runs.pick rfl rfl rfl) rfl ?_
    refine WL.v (Runs.assign rfl) rfl ?_
    refine WL.nil (WN.thn (WC.ret ?_))
    refine ret1 rfl rfl ⟨?_, h1.drop 0⟩
    unfold sAt
    rw [decide_eq_true q0, decide_eq_true q1, decide_eq_false q2] <;> rfl
  · skip
    refine WC.reg ?_
    refine WL.v (Runs.fld fld54_0 rfl) rfl ?_
    refine WL.v (Runs.load1 Try.underlying3 rfl rfl (h1.ocell (i := 0) rfl rfl)) rfl ?_
    refine WL.v (Runs.load1 Try.underlying3 rfl rfl (h1.ocell (i := (ibj + 1)) hbj rfl)) rfl ?_
    refine WL.v (Runs.boolT (c := true) (Runs.eql rfl rfl) (decide_eq_true q0)) rfl ?_
    refine WL.v (Runs.move rfl) rfl ?_
    refine WL.gon rfl rfl rfl ?_
    refine WL.v (Runs.fld fld54_1 rfl) rfl ?_
    refine WL.gon rfl rfl rfl ?_
    refine WL.v (Runs.load1 Try.underlying3 rfl rfl (h1.ocell (i := 0) rfl rfl)) rfl ?_
    refine WL.gon rfl rfl rfl ?_
    refine WL.v (Runs.load1 Try.underlying3 rfl rfl (h1.ocell (i := (ibe + 1)) hbe rfl)) rfl ?_
    refine WL.gon rfl rfl rfl ?_
    refine WL.v (Runs.boolT (c := true) (Runs.eql rfl rfl) (decide_eq_true q1)) rfl ?_
    refine WL.v (Runs.pick rfl rfl rfl) rfl ?_
    refine WL.v (Runs.move rfl) rfl ?_
    refine WL.gon rfl rfl rfl ?_
    refine WL.v (Runs.fld fld54_2 rfl) rfl ?_
    refine WL.gon rfl rfl rfl ?_
    refine WL.v (Runs.load1 Try.underlying3 rfl rfl (h1.ocell (i := 0) rfl rfl)) rfl ?_
    refine WL.gon rfl rfl rfl ?_
    refine WL.v (Runs.load1 Try.underlying3 rfl rfl (h1.ocell (i := (ibs + 1)) hbs rfl)) rfl ?_
    refine WL.gon rfl rfl rfl ?_
    refine WL.v (Runs.boolT (c := true) (Runs.eql rfl rfl) (decide_eq_true q2)) rfl ?_
    refine WL.v (Runs.pick rfl rfl rfl) rfl ?_
    refine WL.v (Runs.assign rfl) rfl ?_
    refine WL.nil (WN.thn (WC.ret ?_))
    refine ret1 rfl rfl ⟨?_, h1.drop 0⟩
    unfold sAt
    rw [decide_eq_true q0, decide_eq_true q1, decide_eq_true q2] <;> rfl
set_option maxRecDepth 100000 in
set_option maxHeartbeats 1000000 in
theorem newer1_c {W : World} {F : Snap} {cs : List Res} (w : World) {Al : Option Addr} {cl : Nat} {r : R} {br ibr : Nat} (x : J) (h : St W F cs w) (hbr : cs[ibr]? = some [(br, .cells #[Vi r.kd, Vi r.jb, Vi r.ep, Vi r.st, Vi r.ar, .slice Al r.ls.length cl] 24 (0, 0))]) : Calls Try.prog 96 #[JV x, .pointer (some ⟨br, 0, none⟩)] w fun e_ w' => e_ = .returned (.bool (newB r.jb r.ep x)) ∧ St W F cs w'  := by
  refine enter (P := Try.prog) (args := [JV x, .pointer (some ⟨br, 0, none⟩)]) Try.func96 rfl rfl rfl ?_
  refine WC.seq (WC.reg ?_)
  refine WL.box rfl h rfl ?_
  intro b2 w1 h1
  refine WL.v (Runs.assign rfl) rfl ?_
  refine WL.nil (WN.thn (WC.seq ?_))
  rcases two (x.jb = r.jb) (x.ep ≥ r.ep) with q0 | ⟨q0, q1⟩ | ⟨q0, q1⟩
  · skip
    refine WC.reg ?_
    refine WL.v (Runs.fld fld47_0 rfl) rfl ?_
    refine WL.v (Runs.load1 Try.underlying3 rfl rfl (h1.ocell (i := 0) rfl rfl)) rfl ?_
    refine WL.v (Runs.fld fld24_1 rfl) rfl ?_
    refine WL.v (Runs.load1 Try.underlying3 rfl rfl (h1.ocell (i := (ibr + 1)) hbr rfl)) rfl ?_
    refine WL.v (Runs.boolT (c := false) (Runs.eql rfl rfl) (decide_eq_false q0)) rfl ?_
    refine WL.v (Runs.move rfl) rfl ?_
    refine WL.goff rfl rfl rfl rfl ?_
    refine WL.goff rfl rfl rfl rfl ?_
    refine WL.goff rfl rfl rfl rfl ?_
    refine WL.goff rfl rfl rfl rfl ?_
    refine WL.goff rfl rfl rfl rfl ?_
    refine WL.v (Runs.pick rfl rfl rfl) rfl ?_
    refine WL.v (Runs.assign rfl) rfl ?_
    refine WL.nil (WN.thn (WC.ret ?_))
    refine ret1 rfl rfl ⟨?_, h1.drop 0⟩
    unfold newB
    rw [decide_eq_false q0] <;> rfl
  · skip
    refine WC.reg ?_
    refine WL.v (Runs.fld fld47_0 rfl) rfl ?_
    refine WL.v (Runs.load1 Try.underlying3 rfl rfl (h1.ocell (i := 0) rfl rfl)) rfl ?_
    refine WL.v (Runs.fld fld24_1 rfl) rfl ?_
    refine WL.v (Runs.load1 Try.underlying3 rfl rfl (h1.ocell (i := (ibr + 1)) hbr rfl)) rfl ?_
    refine WL.v (Runs.boolT (c := true) (Runs.eql rfl rfl) (decide_eq_true q0)) rfl ?_
    refine WL.v (Runs.move rfl) rfl ?_
    refine WL.gon rfl rfl rfl ?_
    refine WL.v (Runs.fld fld47_1 rfl) rfl ?_
    refine WL.gon rfl rfl rfl ?_
    refine WL.v (Runs.load1 Try.underlying3 rfl rfl (h1.ocell (i := 0) rfl rfl)) rfl ?_
    refine WL.gon rfl rfl rfl ?_
    refine WL.v (Runs.fld fld24_2 rfl) rfl ?_
    refine WL.gon rfl rfl rfl ?_
    refine WL.v (Runs.load1 Try.underlying3 rfl rfl (h1.ocell (i := (ibr + 1)) hbr rfl)) rfl ?_
    refine WL.gon rfl rfl rfl ?_
    refine WL.v (Runs.boolT (c := false) (Runs.geq rfl rfl) (decide_eq_false q1)) rfl ?_
    refine WL.v (Runs.pick rfl rfl rfl) rfl ?_
    refine WL.v (Runs.assign rfl) rfl ?_
    refine WL.nil (WN.thn (WC.ret ?_))
    refine ret1 rfl rfl ⟨?_, h1.drop 0⟩
    unfold newB
    rw [decide_eq_true q0, decide_eq_false q1] <;> rfl
  · skip
    refine WC.reg ?_
    refine WL.v (Runs.fld fld47_0 rfl) rfl ?_
    refine WL.v (Runs.load1 Try.underlying3 rfl rfl (h1.ocell (i := 0) rfl rfl)) rfl ?_
    refine WL.v (Runs.fld fld24_1 rfl) rfl ?_
    refine WL.v (Runs.load1 Try.underlying3 rfl rfl (h1.ocell (i := (ibr + 1)) hbr rfl)) rfl ?_
    refine WL.v (Runs.boolT (c := true) (Runs.eql rfl rfl) (decide_eq_true q0)) rfl ?_
    refine WL.v (Runs.move rfl) rfl ?_
    refine WL.gon rfl rfl rfl ?_
    refine WL.v (Runs.fld fld47_1 rfl) rfl ?_
    refine WL.gon rfl rfl rfl ?_
    refine WL.v (Runs.load1 Try.underlying3 rfl rfl (h1.ocell (i := 0) rfl rfl)) rfl ?_
    refine WL.gon rfl rfl rfl ?_
    refine WL.v (Runs.fld fld24_2 rfl) rfl ?_
    refine WL.gon rfl rfl rfl ?_
    refine WL.v (Runs.load1 Try.underlying3 rfl rfl (h1.ocell (i := (ibr + 1)) hbr rfl)) rfl ?_
    refine WL.gon rfl rfl rfl ?_
    refine WL.v (Runs.boolT (c := true) (Runs.geq rfl rfl) (decide_eq_true q1)) rfl ?_
    refine WL.v (Runs.pick rfl rfl rfl) rfl ?_
    refine WL.v (Runs.assign rfl) rfl ?_
    refine WL.nil (WN.thn (WC.ret ?_))
    refine ret1 rfl rfl ⟨?_, h1.drop 0⟩
    unfold newB
    rw [decide_eq_true q0, decide_eq_true q1] <;> rfl
set_option maxRecDepth 100000 in
set_option maxHeartbeats 1000000 in
theorem alive1_c {W : World} {F : Snap} {cs : List Res} (w : World) {jb ep : Int} {A1 : Option Addr} {cap1 : Nat} {bj be ibj ibe : Nat} (x : S) (h : St W F cs w) (hbj : cs[ibj]? = some [(bj, .cells #[Vi jb] 3 (0, 0))]) (hbe : cs[ibe]? = some [(be, .cells #[Vi ep] 3 (0, 0))]) : Calls Try.prog 56 #[SV A1 cap1 x, .pointer (some ⟨bj, 0, none⟩), .pointer (some ⟨be, 0, none⟩)] w fun e_ w' => e_ = .returned (.bool (aliveB jb ep x)) ∧ St W F cs w'  := by
  refine enter (P := Try.prog) (args := [SV A1 cap1 x, .pointer (some ⟨bj, 0, none⟩), .pointer (some ⟨be, 0, none⟩)]) Try.func56 rfl rfl rfl ?_
  refine WC.seq (WC.reg ?_)
  refine WL.box rfl h rfl ?_
  intro b3 w1 h1
  refine WL.v (Runs.assign rfl) rfl ?_
  refine WL.nil (WN.thn (WC.seq ?_))
  rcases three (x.jb = jb) (x.ep = ep) (x.ph = 0) with q0 | ⟨q0, q1⟩ | ⟨q0, q1, q2⟩ | ⟨q0, q1, q2⟩
  · skip
    refine WC.reg ?_
    refine WL.v (Runs.fld fld54_0 rfl) rfl ?_
    refine WL.v (Runs.load1 Try.underlying3 rfl rfl (h1.ocell (i := 0) rfl rfl)) rfl ?_
    refine WL.v (Runs.load1 Try.underlying3 rfl rfl (h1.ocell (i := (ibj + 1)) hbj rfl)) rfl ?_
    refine WL.v (Runs.boolT (c := false) (Runs.eql rfl rfl) (decide_eq_false q0)) rfl ?_
    refine WL.v (Runs.move rfl) rfl ?_
    refine WL.goff rfl rfl rfl rfl ?_
    refine WL.goff rfl rfl rfl rfl ?_
    refine WL.goff rfl rfl rfl rfl ?_
    refine WL.goff rfl rfl rfl rfl ?_
    refine WL.v (Runs.pick rfl rfl rfl) rfl ?_
    refine WL.v (Runs.move rfl) rfl ?_
    refine WL.goff rfl rfl rfl rfl ?_
    refine WL.goff rfl rfl rfl rfl ?_
    refine WL.goff rfl rfl rfl rfl ?_
    refine WL.goff rfl rfl rfl rfl ?_
    refine WL.goffU rfl rfl rfl ?_
    refine WL.goffU rfl rfl rfl ?_
    refine WL.goffU rfl rfl rfl ?_
    refine WL.goff rfl rfl rfl rfl ?_
    refine WL.v (Runs.pick rfl rfl rfl) rfl ?_
    refine WL.v (Runs.assign rfl) rfl ?_
    refine WL.nil (WN.thn (WC.ret ?_))
    refine ret1 rfl rfl ⟨?_, h1.drop 0⟩
    unfold aliveB
    rw [decide_eq_false q0] <;> rfl
  · skip
    refine WC.reg ?_
    refine WL.v (Runs.fld fld54_0 rfl) rfl ?_
    refine WL.v (Runs.load1 Try.underlying3 rfl rfl (h1.ocell (i := 0) rfl rfl)) rfl ?_
    refine WL.v (Runs.load1 Try.underlying3 rfl rfl (h1.ocell (i := (ibj + 1)) hbj rfl)) rfl ?_
    refine WL.v (Runs.boolT (c := true) (Runs.eql rfl rfl) (decide_eq_true q0)) rfl ?_
    refine WL.v (Runs.move rfl) rfl ?_
    refine WL.gon rfl rfl rfl ?_
    refine WL.v (Runs.fld fld54_1 rfl) rfl ?_
    refine WL.gon rfl rfl rfl ?_
    refine WL.v (Runs.load1 Try.underlying3 rfl rfl (h1.ocell (i := 0) rfl rfl)) rfl ?_
    refine WL.gon rfl rfl rfl ?_
    refine WL.v (Runs.load1 Try.underlying3 rfl rfl (h1.ocell (i := (ibe + 1)) hbe rfl)) rfl ?_
    refine WL.gon rfl rfl rfl ?_
    refine WL.v (Runs.boolT (c := false) (Runs.eql rfl rfl) (decide_eq_false q1)) rfl ?_
    refine WL.v (Runs.pick rfl rfl rfl) rfl ?_
    refine WL.v (Runs.move rfl) rfl ?_
    refine WL.goff rfl rfl rfl rfl ?_
    refine WL.goff rfl rfl rfl rfl ?_
    refine WL.goff rfl rfl rfl rfl ?_
    refine WL.goff rfl rfl rfl rfl ?_
    refine WL.goffU rfl rfl rfl ?_
    refine WL.goffU rfl rfl rfl ?_
    refine WL.goffU rfl rfl rfl ?_
    refine WL.goff rfl rfl rfl rfl ?_
    refine WL.v (Runs.pick rfl rfl rfl) rfl ?_
    refine WL.v (Runs.assign rfl) rfl ?_
    refine WL.nil (WN.thn (WC.ret ?_))
    refine ret1 rfl rfl ⟨?_, h1.drop 0⟩
    unfold aliveB
    rw [decide_eq_true q0, decide_eq_false q1] <;> rfl
  · skip
    refine WC.reg ?_
    refine WL.v (Runs.fld fld54_0 rfl) rfl ?_
    refine WL.v (Runs.load1 Try.underlying3 rfl rfl (h1.ocell (i := 0) rfl rfl)) rfl ?_
    refine WL.v (Runs.load1 Try.underlying3 rfl rfl (h1.ocell (i := (ibj + 1)) hbj rfl)) rfl ?_
    refine WL.v (Runs.boolT (c := true) (Runs.eql rfl rfl) (decide_eq_true q0)) rfl ?_
    refine WL.v (Runs.move rfl) rfl ?_
    refine WL.gon rfl rfl rfl ?_
    refine WL.v (Runs.fld fld54_1 rfl) rfl ?_
    refine WL.gon rfl rfl rfl ?_
    refine WL.v (Runs.load1 Try.underlying3 rfl rfl (h1.ocell (i := 0) rfl rfl)) rfl ?_
    refine WL.gon rfl rfl rfl ?_
    refine WL.v (Runs.load1 Try.underlying3 rfl rfl (h1.ocell (i := (ibe + 1)) hbe rfl)) rfl ?_
    refine WL.gon rfl rfl rfl ?_
    refine WL.v (Runs.boolT (c := true) (Runs.eql rfl rfl) (decide_eq_true q1)) rfl ?_
    refine WL.v (Runs.pick rfl rfl rfl) rfl ?_
    refine WL.v (Runs.move rfl) rfl ?_
    refine WL.gon rfl rfl rfl ?_
    refine WL.v (Runs.fld fld54_3 rfl) rfl ?_
    refine WL.gon rfl rfl rfl ?_
    refine WL.v (Runs.load1 Try.underlying3 rfl rfl (h1.ocell (i := 0) rfl rfl)) rfl ?_
    refine WL.gon rfl rfl rfl ?_
    refine WL.v (Runs.boolT (c := false) (Runs.eql rfl rfl) (decide_eq_false q2)) rfl ?_
    refine WL.gon rfl rfl rfl ?_
    refine WL.v (Runs.move rfl) rfl ?_
    refine WL.gon rfl rfl rfl ?_
    refine WL.v (Runs.fld fld54_3 rfl) rfl ?_
    refine WL.gon rfl rfl rfl ?_
    refine WL.v (Runs.load1 Try.underlying3 rfl rfl (h1.ocell (i := 0) rfl rfl)) rfl ?_
    refine WL.gon rfl rfl rfl ?_
    refine WL.v (Runs.eql rfl rfl) rfl ?_
    refine WL.gon rfl rfl rfl ?_
    refine WL.v (Runs.pick rfl rfl rfl) rfl ?_
    refine WL.v (Runs.pick rfl rfl rfl) rfl ?_
    refine WL.v (Runs.assign rfl) rfl ?_
    refine WL.nil (WN.thn (WC.ret ?_))
    refine ret1 rfl rfl ⟨?_, h1.drop 0⟩
    unfold aliveB
    rw [decide_eq_true q0, decide_eq_true q1, decide_eq_false q2] <;> rfl
  · skip
    refine WC.reg ?_
    refine WL.v (Runs.fld fld54_0 rfl) rfl ?_
    refine WL.v (Runs.load1 Try.underlying3 rfl rfl (h1.ocell (i := 0) rfl rfl)) rfl ?_
    refine WL.v (Runs.load1 Try.underlying3 rfl rfl (h1.ocell (i := (ibj + 1)) hbj rfl)) rfl ?_
    refine WL.v (Runs.boolT (c := true) (Runs.eql rfl rfl) (decide_eq_true q0)) rfl ?_
    refine WL.v (Runs.move rfl) rfl ?_
    refine WL.gon rfl rfl rfl ?_
    refine WL.v (Runs.fld fld54_1 rfl) rfl ?_
    refine WL.gon rfl rfl rfl ?_
    refine WL.v (Runs.load1 Try.underlying3 rfl rfl (h1.ocell (i := 0) rfl rfl)) rfl ?_
    refine WL.gon rfl rfl rfl ?_
    refine WL.v (Runs.load1 Try.underlying3 rfl rfl (h1.ocell (i := (ibe + 1)) hbe rfl)) rfl ?_
    refine WL.gon rfl rfl rfl ?_
    refine WL.v (Runs.boolT (c := true) (Runs.eql rfl rfl) (decide_eq_true q1)) rfl ?_
    refine WL.v (Runs.pick rfl rfl rfl) rfl ?_
    refine WL.v (Runs.move rfl) rfl ?_
    refine WL.gon rfl rfl rfl ?_
    refine WL.v (Runs.fld fld54_3 rfl) rfl ?_
    refine WL.gon rfl rfl rfl ?_
    refine WL.v (Runs.load1 Try.underlying3 rfl rfl (h1.ocell (i := 0) rfl rfl)) rfl ?_
    refine WL.gon rfl rfl rfl ?_
    refine WL.v (Runs.boolT (c := true) (Runs.eql rfl rfl) (decide_eq_true q2)) rfl ?_
    refine WL.gon rfl rfl rfl ?_
    refine WL.v (Runs.move rfl) rfl ?_
    refine WL.goff rfl rfl rfl rfl ?_
    refine WL.goff rfl rfl rfl rfl ?_
    refine WL.goff rfl rfl rfl rfl ?_
    refine WL.gon rfl rfl rfl ?_
    refine WL.v (Runs.pick rfl rfl rfl) rfl ?_
    refine WL.v (Runs.pick rfl rfl rfl) rfl ?_
    refine WL.v (Runs.assign rfl) rfl ?_
    refine WL.nil (WN.thn (WC.ret ?_))
    refine ret1 rfl rfl ⟨?_, h1.drop 0⟩
    unfold aliveB
    rw [decide_eq_true q0, decide_eq_true q1, decide_eq_true q2] <;> rfl
set_option maxRecDepth 100000 in
set_option maxHeartbeats 1000000 in
theorem job_c {W : World} {F : Snap} {cs : List Res} (w : World) {AJ AS : Option Addr} {cj cS : Nat} {z : Z} (jb ep : Int) (h : St W F cs w) (hR : RdK KJ W F cs AJ z.js) (hn : z.js.length ≤ 100000) : Calls Try.prog 52 #[.agg #[.slice AJ z.js.length cj, .slice AS z.ss.length cS, .bool z.dr], Vi jb, Vi ep] w fun e w' => e = .returned (Vi (jIx z jb ep)) ∧ St W F cs w'  := by
  refine enter (P := Try.prog) (args := [.agg #[.slice AJ z.js.length cj, .slice AS z.ss.length cS, .bool z.dr], Vi jb, Vi ep]) Try.func52 rfl rfl rfl ?_
  refine WC.seq (WC.reg ?_)
  refine WL.box rfl h rfl ?_
  intro b3 w1 h1
  refine WL.box rfl h1 rfl ?_
  intro b4 w2 h2
  refine WL.box rfl h2 rfl ?_
  intro b5 w3 h3
  refine WL.v (Runs.assign rfl) rfl ?_
  refine WL.nil (WN.thn (WC.seq (WC.reg ?_)))
  refine WL.v (Runs.fld fld40_0 rfl) rfl ?_
  refine WL.v (Runs.load1 Try.underlying37 rfl rfl (h3.ocell (i := 2) rfl rfl)) rfl ?_
  refine WL.v (Runs.makeFunc rfl rfl) rfl ?_
  refine WL.call can78 rfl rfl (idxJ_c _ 79 [.pointer (some ⟨b4, 0, none⟩), .pointer (some ⟨b5, 0, none⟩)] (jAt jb ep) can79 h3 (RdK.push3 hR) hn (fun w9 x9 _ h9 => job1_c (ibj := 1) (ibe := 0) w9 x9 h9 rfl rfl)) ?_
  rintro _ w4 ⟨rfl, h4⟩
  refine ⟨_, rfl, ?_⟩
  refine WL.v (Runs.assign rfl) rfl ?_
  refine WL.nil (WN.thn (WC.ret ?_))
  exact ret1 rfl rfl ⟨rfl, (((h4.drop 0).drop 0).drop 0)⟩
set_option maxRecDepth 100000 in
set_option maxHeartbeats 1000000 in
theorem step_c {W : World} {F : Snap} {cs : List Res} (w : World) {AJ AS : Option Addr} {cj cS : Nat} {z : Z} (jb ep st : Int) (h : St W F cs w) (hR : RdK KS W F cs AS z.ss) (hn : z.ss.length ≤ 100000) : Calls Try.prog 54 #[.agg #[.slice AJ z.js.length cj, .slice AS z.ss.length cS, .bool z.dr], Vi jb, Vi ep, Vi st] w fun e w' => e = .returned (Vi (sIx z jb ep st)) ∧ St W F cs w'  := by
  refine enter (P := Try.prog) (args := [.agg #[.slice AJ z.js.length cj, .slice AS z.ss.length cS, .bool z.dr], Vi jb, Vi ep, Vi st]) Try.func54 rfl rfl rfl ?_
  refine WC.seq (WC.reg ?_)
  refine WL.box rfl h rfl ?_
  intro b4 w1 h1
  refine WL.box rfl h1 rfl ?_
  intro b5 w2 h2
  refine WL.box rfl h2 rfl ?_
  intro b6 w3 h3
  refine WL.box rfl h3 rfl ?_
  intro b7 w4 h4
  refine WL.v (Runs.assign rfl) rfl ?_
  refine WL.nil (WN.thn (WC.seq (WC.reg ?_)))
  refine WL.v (Runs.fld fld40_1 rfl) rfl ?_
  refine WL.v (Runs.load1 Try.underlying38 rfl rfl (h4.ocell (i := 3) rfl rfl)) rfl ?_
  refine WL.v (Runs.makeFunc rfl rfl) rfl ?_
  refine WL.call can80 rfl rfl (idxS_c _ 81 [.pointer (some ⟨b5, 0, none⟩), .pointer (some ⟨b6, 0, none⟩), .pointer (some ⟨b7, 0, none⟩)] (sAt jb ep st) can81 h4 (RdK.push3 hR.push) hn (fun w9 x9 A9 c9 _ _ h9 => step1_c (ibj := 2) (ibe := 1) (ibs := 0) w9 x9 h9 rfl rfl rfl)) ?_
  rintro _ w5 ⟨rfl, h5⟩
  refine ⟨_, rfl, ?_⟩
  refine WL.v (Runs.assign rfl) rfl ?_
  refine WL.nil (WN.thn (WC.ret ?_))
  exact ret1 rfl rfl ⟨rfl, ((((h5.drop 0).drop 0).drop 0).drop 0)⟩
set_option maxRecDepth 100000 in
set_option maxHeartbeats 1000000 in
theorem alive_c {W : World} {F : Snap} {cs : List Res} (w : World) {AJ AS : Option Addr} {cj cS : Nat} {z : Z} (jb ep : Int) (h : St W F cs w) (hR : RdK KS W F cs AS z.ss) (hn : z.ss.length ≤ 100000) : Calls Try.prog 26 #[.agg #[.slice AJ z.js.length cj, .slice AS z.ss.length cS, .bool z.dr], Vi jb, Vi ep] w fun e w' => e = .returned (.bool (aliveM z jb ep)) ∧ St W F cs w'  := by
  refine enter (P := Try.prog) (args := [.agg #[.slice AJ z.js.length cj, .slice AS z.ss.length cS, .bool z.dr], Vi jb, Vi ep]) Try.func26 rfl rfl rfl ?_
  refine WC.seq (WC.reg ?_)
  refine WL.box rfl h rfl ?_
  intro b3 w1 h1
  refine WL.box rfl h1 rfl ?_
  intro b4 w2 h2
  refine WL.box rfl h2 rfl ?_
  intro b5 w3 h3
  refine WL.v (Runs.assign rfl) rfl ?_
  refine WL.nil (WN.thn (WC.seq (WC.reg ?_)))
  refine WL.v (Runs.fld fld40_1 rfl) rfl ?_
  refine WL.v (Runs.load1 Try.underlying38 rfl rfl (h3.ocell (i := 2) rfl rfl)) rfl ?_
  refine WL.v (Runs.makeFunc rfl rfl) rfl ?_
  refine WL.call can55 rfl rfl (cfS_c _ 56 [.pointer (some ⟨b4, 0, none⟩), .pointer (some ⟨b5, 0, none⟩)] (aliveB jb ep) can56 h3 (RdK.push3 hR) hn (fun w9 x9 A9 c9 _ _ h9 => alive1_c (ibj := 1) (ibe := 0) w9 x9 h9 rfl rfl)) ?_
  rintro _ w4 ⟨rfl, h4⟩
  refine ⟨_, rfl, ?_⟩
  refine WL.v (Runs.assign rfl) rfl ?_
  refine WL.nil (WN.thn (WC.ret ?_))
  exact ret1 rfl rfl ⟨rfl, (((h4.drop 0).drop 0).drop 0)⟩
set_option maxRecDepth 100000 in
set_option maxHeartbeats 1000000 in
theorem newer_c {W : World} {F : Snap} {cs : List Res} (w : World) {AJ AS : Option Addr} {cj cS : Nat} {z : Z} {Al : Option Addr} {cl : Nat} {r : R} (h : St W F cs w) (hR : RdK KJ W F cs AJ z.js) (hn : z.js.length ≤ 100000) : Calls Try.prog 86 #[.agg #[.slice AJ z.js.length cj, .slice AS z.ss.length cS, .bool z.dr], .agg #[Vi r.kd, Vi r.jb, Vi r.ep, Vi r.st, Vi r.ar, .slice Al r.ls.length cl]] w fun e w' => e = .returned (.bool (newM z r.jb r.ep)) ∧ St W F cs w'  := by
  refine enter (P := Try.prog) (args := [.agg #[.slice AJ z.js.length cj, .slice AS z.ss.length cS, .bool z.dr], .agg #[Vi r.kd, Vi r.jb, Vi r.ep, Vi r.st, Vi r.ar, .slice Al r.ls.length cl]]) Try.func86 rfl rfl rfl ?_
  refine WC.seq (WC.reg ?_)
  refine WL.box rfl h rfl ?_
  intro b2 w1 h1
  refine WL.box rfl h1 rfl ?_
  intro b3 w2 h2
  refine WL.v (Runs.assign rfl) rfl ?_
  refine WL.nil (WN.thn (WC.seq (WC.reg ?_)))
  refine WL.v (Runs.fld fld40_0 rfl) rfl ?_
  refine WL.v (Runs.load1 Try.underlying37 rfl rfl (h2.ocell (i := 1) rfl rfl)) rfl ?_
  refine WL.v (Runs.makeFunc rfl rfl) rfl ?_
  refine WL.call can95 rfl rfl (cfJ_c _ 96 [.pointer (some ⟨b3, 0, none⟩)] (newB r.jb r.ep) can96 h2 hR.push.push hn (fun w9 x9 _ h9 => newer1_c (ibr := 0) w9 x9 h9 rfl)) ?_
  rintro _ w3 ⟨rfl, h3⟩
  refine ⟨_, rfl, ?_⟩
  refine WL.v (Runs.assign rfl) rfl ?_
  refine WL.nil (WN.thn (WC.ret ?_))
  exact ret1 rfl rfl ⟨rfl, ((h3.drop 0).drop 0)⟩
set_option maxRecDepth 100000 in
set_option maxHeartbeats 1000000 in
theorem find_c {W : World} {F : Snap} {cs : List Res} (w : World) {AJ AS : Option Addr} {cj cS : Nat} {z : Z} (jb ep : Int) (h : St W F cs w) (hR : RdK KJ W F cs AJ z.js) (hn : z.js.length ≤ 100000) : Calls Try.prog 20 #[.agg #[.slice AJ z.js.length cj, .slice AS z.ss.length cS, .bool z.dr], Vi jb, Vi ep] w fun e w' => e = .returned (.tuple #[JV (findM z jb ep).1, .bool (findM z jb ep).2]) ∧ St W F cs w'  := by
  refine enter (P := Try.prog) (args := [.agg #[.slice AJ z.js.length cj, .slice AS z.ss.length cS, .bool z.dr], Vi jb, Vi ep]) Try.func20 rfl rfl rfl ?_
  refine WC.seq (WC.reg ?_)
  refine WL.box rfl h rfl ?_
  intro b3 w1 h1
  refine WL.alloc' rfl h1 inf47 ?_
  intro b6 w2 h2
  refine WL.v (Runs.assign rfl) rfl ?_
  refine WL.nil (WN.thn (WC.seq (WC.seq (WC.reg ?_))))
  refine WL.v (Runs.loadAll h2 1 rfl Try.underlying40 rfl inf40 rfl rfl) rfl ?_
  refine WL.v (Runs.move rfl) rfl ?_
  refine WL.v (Runs.move rfl) rfl ?_
  refine WL.call can52 rfl rfl (job_c _ jb ep h2 hR.push.push hn) ?_
  rintro _ w3 ⟨rfl, h3⟩
  refine ⟨_, rfl, ?_⟩
  refine WL.v (Runs.assign rfl) rfl ?_
  refine WL.nil (WN.thn (WC.seq ?_))
  rcases ix_at (jAt jb ep) z.js J0 with ⟨hix, _⟩ | ⟨i, hi, hix, _⟩
  · replace hix : jIx z jb ep = -1 := hix
    refine WC.reg ?_
    refine WL.v (Runs.move rfl) rfl ?_
    refine WL.v (Runs.boolT (c := false) (Runs.geq rfl rfl) (by rw [decide_eq_false_iff_not]; omega)) rfl ?_
    refine WL.nil (WN.thn ?_)
    refine WC.condF rfl (rfl) ?_
    refine WC.skip (WN.thn (WC.seq (WC.reg ?_)))
    refine WL.v (Runs.build (vs := []) (cells := #[Vi 0, Vi 0, Vi 0]) rfl (by kernel_rfl)) rfl ?_
    refine WL.storeAll h3 0 rfl rfl rfl inf47 rfl rfl rfl (Free.zero _) ?_
    intro  w4 h4
    try simp only [lz, ls, ez, es'] at h4
    refine WL.v (Runs.assign rfl) rfl ?_
    refine WL.nil (WN.thn (WC.ret ?_))
    refine retB rfl (ResOk.blk h4 0 rfl Try.underlying47 rfl inf47 rfl rfl) (show lk _ _ = _ from rfl) ⟨by rw [findM_f hix] <;> rfl, (h4.drop 0).drop 0⟩
  · replace hix : jIx z jb ep = (i : Int) := hix
    refine WC.reg ?_
    refine WL.v (Runs.move rfl) rfl ?_
    refine WL.v (Runs.boolT (c := true) (Runs.geq rfl rfl) (by rw [decide_eq_true_eq]; omega)) rfl ?_
    refine WL.nil (WN.thn ?_)
    refine WC.condT rfl (rfl) ?_
    refine WC.seq ?_
    obtain ⟨ad, c, rfl, hc, hcell⟩ := hR.at_ J0 hi
    obtain rfl : c = jc (z.js.getD i J0) := hc
    refine WC.reg ?_
    refine WL.v (Runs.fld fld40_0 rfl) rfl ?_
    refine WL.v (Runs.load1 Try.underlying37 rfl rfl (h3.ocell (i := 1) rfl rfl)) rfl ?_
    refine WL.v (Runs.move rfl) rfl ?_
    refine WL.v (Runs.lidxK Try.underlying37 inf47 rfl rfl (n := i) hix hi) rfl ?_
    refine WL.v (Runs.loadK (cs := cs) ((h3.drop 0).drop 0) hcell Try.underlying47 rfl inf47 rfl rfl) rfl ?_
    refine WL.storeAll h3 0 rfl rfl rfl inf47 rfl rfl rfl (Free.zero _) ?_
    intro  w5 h5
    try simp only [lz, ls, ez, es'] at h5
    refine WL.v (Runs.assign rfl) rfl ?_
    refine WL.nil (WN.thn (WC.ret ?_))
    refine retB rfl (ResOk.blk h5 0 rfl Try.underlying47 rfl inf47 rfl rfl) (show lk _ _ = _ from rfl) ⟨by rw [findM_t hix] <;> rfl, (h5.drop 0).drop 0⟩
set_option maxRecDepth 100000 in
set_option maxHeartbeats 1000000 in
theorem stepOf_c {W : World} {F : Snap} {cs : List Res} (w : World) {AJ AS : Option Addr} {cj cS : Nat} {z : Z} (jb ep st : Int) (h : St W F cs w) (hR : RdK KS W F cs AS z.ss) (hn : z.ss.length ≤ 100000) : Calls Try.prog 22 #[.agg #[.slice AJ z.js.length cj, .slice AS z.ss.length cS, .bool z.dr], Vi jb, Vi ep, Vi st] w fun e w' => (∃ A1 cap1, e = .returned (.tuple #[SV A1 cap1 (stepM z jb ep st).1, .bool (stepM z jb ep st).2]) ∧ RdS (Kd.one Vi) F A1 (stepM z jb ep st).1.ps) ∧ St W F cs w'  := by
  refine enter (P := Try.prog) (args := [.agg #[.slice AJ z.js.length cj, .slice AS z.ss.length cS, .bool z.dr], Vi jb, Vi ep, Vi st]) Try.func22 rfl rfl rfl ?_
  refine WC.seq (WC.reg ?_)
  refine WL.box rfl h rfl ?_
  intro b4 w1 h1
  refine WL.alloc' rfl h1 inf54 ?_
  intro b8 w2 h2
  refine WL.v (Runs.assign rfl) rfl ?_
  refine WL.nil (WN.thn (WC.seq (WC.seq (WC.reg ?_))))
  refine WL.v (Runs.loadAll h2 1 rfl Try.underlying40 rfl inf40 rfl rfl) rfl ?_
  refine WL.v (Runs.move rfl) rfl ?_
  refine WL.v (Runs.move rfl) rfl ?_
  refine WL.v (Runs.move rfl) rfl ?_
  refine WL.call can54 rfl rfl (step_c _ jb ep st h2 hR.push.push hn) ?_
  rintro _ w3 ⟨rfl, h3⟩
  refine ⟨_, rfl, ?_⟩
  refine WL.v (Runs.assign rfl) rfl ?_
  refine WL.nil (WN.thn (WC.seq ?_))
  rcases ix_at (sAt jb ep st) z.ss S0 with ⟨hix, _⟩ | ⟨i, hi, hix, _⟩
  · replace hix : sIx z jb ep st = -1 := hix
    refine WC.reg ?_
    refine WL.v (Runs.move rfl) rfl ?_
    refine WL.v (Runs.boolT (c := false) (Runs.geq rfl rfl) (by rw [decide_eq_false_iff_not]; omega)) rfl ?_
    refine WL.nil (WN.thn ?_)
    refine WC.condF rfl (rfl) ?_
    refine WC.skip (WN.thn (WC.seq (WC.reg ?_)))
    refine WL.v (Runs.build (vs := []) (cells := #[Vi 0, Vi 0, Vi 0, Vi 0, Vi 0, .slice none 0 0]) rfl (by kernel_rfl)) rfl ?_
    refine WL.storeAll h3 0 rfl rfl rfl inf54 rfl rfl rfl (Free.zero _) ?_
    intro  w4 h4
    try simp only [lz, ls, ez, es'] at h4
    refine WL.v (Runs.assign rfl) rfl ?_
    refine WL.nil (WN.thn (WC.ret ?_))
    refine retB rfl (ResOk.blk h4 0 rfl Try.underlying54 rfl inf54 rfl rfl) (show lk _ _ = _ from rfl) ⟨⟨none, 0, by rw [stepM_f hix] <;> rfl, by rw [stepM_f hix]; exact .inl rfl⟩, (h4.drop 0).drop 0⟩
  · replace hix : sIx z jb ep st = (i : Int) := hix
    refine WC.reg ?_
    refine WL.v (Runs.move rfl) rfl ?_
    refine WL.v (Runs.boolT (c := true) (Runs.geq rfl rfl) (by rw [decide_eq_true_eq]; omega)) rfl ?_
    refine WL.nil (WN.thn ?_)
    refine WC.condT rfl (rfl) ?_
    refine WC.seq ?_
    obtain ⟨ad, c, rfl, hc, hcell⟩ := hR.at_ S0 hi
    obtain ⟨A1, cap1, rfl, hps⟩ := hc
    refine WC.reg ?_
    refine WL.v (Runs.fld fld40_1 rfl) rfl ?_
    refine WL.v (Runs.load1 Try.underlying38 rfl rfl (h3.ocell (i := 1) rfl rfl)) rfl ?_
    refine WL.v (Runs.move rfl) rfl ?_
    refine WL.v (Runs.lidxK Try.underlying38 inf54 rfl rfl (n := i) hix hi) rfl ?_
    refine WL.v (Runs.loadK (cs := cs) ((h3.drop 0).drop 0) hcell Try.underlying54 rfl inf54 rfl rfl) rfl ?_
    refine WL.storeAll h3 0 rfl rfl rfl inf54 rfl rfl rfl (Free.zero _) ?_
    intro  w5 h5
    try simp only [lz, ls, ez, es'] at h5
    refine WL.v (Runs.assign rfl) rfl ?_
    refine WL.nil (WN.thn (WC.ret ?_))
    refine retB rfl (ResOk.blk h5 0 rfl Try.underlying54 rfl inf54 rfl rfl) (show lk _ _ = _ from rfl) ⟨⟨A1, cap1, by rw [stepM_t hix] <;> rfl, by rw [stepM_t hix]; exact hps⟩, (h5.drop 0).drop 0⟩
end Rc
end Go.Proofs.Ythejglgnoingfaa
