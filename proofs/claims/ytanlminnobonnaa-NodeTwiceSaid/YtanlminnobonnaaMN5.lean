/- Walks of the reference of chapter 16: what is done of a message. -/
import Derived.Test.YtanlminnobonnaaProg
import Derived.KernelRfl
import Derived.Test.YtanlminnobonnaaMBaseAH
import Derived.Test.YtanlminnobonnaaMN4
namespace Go.Proofs.Ytanlminnobonnaa
open Go Go.RowKit B
set_option linter.unusedVariables false
set_option linter.unusedSimpArgs false
namespace Rc

theorem inf49 : Inf Try.prog 49 (.agg #[.bool false, .int .i64 0, .int .i64 0, .int .i64 0, .int .i64 0, .int .i64 0, .slice none 0 0, .bool false, .int .i64 0, .int .i64 0, .int .i64 0, .int .i64 0, .int .i64 0, .int .i64 0, .int .i64 0, .string ⟨#[]⟩, .bool false, .bool false, .bool false]) 19 160 := by unfold Inf; kernel_rfl
theorem fld31_0 : fldB Try.prog 31 0 0 = true := by kernel_rfl
theorem fld31_1 : fldB Try.prog 31 1 1 = true := by kernel_rfl
theorem fld31_2 : fldB Try.prog 31 2 2 = true := by kernel_rfl
theorem fld31_3 : fldB Try.prog 31 3 3 = true := by kernel_rfl
theorem fld49_0 : fldB Try.prog 49 0 0 = true := by kernel_rfl
theorem fld49_1 : fldB Try.prog 49 1 1 = true := by kernel_rfl
theorem fld49_2 : fldB Try.prog 49 2 7 = true := by kernel_rfl
theorem fld49_3 : fldB Try.prog 49 3 8 = true := by kernel_rfl
theorem fld49_4 : fldB Try.prog 49 4 16 = true := by kernel_rfl
theorem fld49_5 : fldB Try.prog 49 5 17 = true := by kernel_rfl
theorem fld49_6 : fldB Try.prog 49 6 18 = true := by kernel_rfl
theorem can40 : B.Can Try.prog 40 := ⟨_, Try.func40, by kernel_rfl, rfl⟩   -- roundhouse/roundhouseref15.StepOf
theorem can41 : B.Can Try.prog 41 := ⟨_, Try.func41, by kernel_rfl, rfl⟩   -- roundhouse/roundhouseref16.up
theorem can48 : B.Can Try.prog 48 := ⟨_, Try.func48, by kernel_rfl, rfl⟩   -- roundhouse/roundhouseref16.answer
theorem can49 : B.Can Try.prog 49 := ⟨_, Try.func49, by kernel_rfl, rfl⟩   -- roundhouse/roundhouseref16.write
theorem can60 : B.Can Try.prog 60 := ⟨_, Try.func60, by kernel_rfl, rfl⟩   -- roundhouse/roundhouseref16.newer
def turnA (id : Int) (z : Z) (m : M) : Ac := if m.kd = 4 then releaseA id z m else if m.kd = 5 then abortA z m else { A0 with can := phB z m 1 }
theorem five_ {p q : Int} {b : Bool} : (b = true ∧ p = 2) ∨ (b = true ∧ p = 0) ∨ (b = true ∧ p = 1) ∨ (b = true ∧ ¬ p = 2 ∧ ¬ p = 0 ∧ ¬ p = 1) ∨ ¬ b = true := by
  cases b
  · simp
  · simp only [true_and, not_true_eq_false, or_false]
    omega
theorem turnCase {k p : Int} {b : Bool} (hk : k = 4 ∨ k = 5 ∨ k = 7) : (k = 4 ∧ b = false) ∨ (k = 4 ∧ b = true ∧ p = 0) ∨ (k = 4 ∧ b = true ∧ p = 3) ∨ (k = 4 ∧ b = true ∧ ¬ p = 0 ∧ ¬ p = 3) ∨ (k = 5 ∧ b = true ∧ p = 0) ∨ (k = 5 ∧ b = true ∧ ¬ p = 0) ∨ (k = 5 ∧ b = false) ∨ (k = 7 ∧ b = true) ∨ (k = 7 ∧ b = false) := by
  cases b
  · simp; omega
  · simp; omega
set_option maxRecDepth 100000 in
set_option maxHeartbeats 8000000 in
theorem qwrite_c {W : World} {F : Snap} {cs : List Res} (w : World) {m : M} {Aa : Option Addr} {ca : Nat} {a : Ac} (kd ar : Int) (h : St W F cs w) : Calls Try.prog 49 #[.agg (acv Aa ca a), .agg #[Vi m.kd, Vi m.fr, Vi m.to, Vi m.jb, Vi m.ep, Vi m.st, Vi m.ar, .string m.tx], Vi kd, Vi ar] w fun e w' => e = .returned (.agg (acv none 0 { a with has := true, rc := (wrM m kd ar).rc })) ∧ St W F cs w'  := by
  refine enter (P := Try.prog) (args := [.agg (acv Aa ca a), .agg #[Vi m.kd, Vi m.fr, Vi m.to, Vi m.jb, Vi m.ep, Vi m.st, Vi m.ar, .string m.tx], Vi kd, Vi ar]) Try.func49 rfl rfl rfl ?_
  refine WC.seq (WC.reg ?_)
  refine WL.box rfl h rfl ?_
  intro b4 w1 h1
  refine WL.box rfl h1 rfl ?_
  intro b5 w2 h2
  refine WL.alloc' rfl h2 inf49 ?_
  intro b8 w3 h3
  refine WL.nil (WN.thn (WC.seq (WC.reg ?_)))
  refine WL.v (Runs.fld fld49_0 rfl) rfl ?_
  refine WL.store' h3 2 rfl rfl rfl inf4 rfl rfl (Free.zero _) (Nat.le_of_ble_eq_true rfl) ?_
  intro  w4 h4
  try simp only [lz, ls, ez, es'] at h4
  refine WL.nil (WN.thn (WC.seq (WC.reg ?_)))
  refine WL.v (Runs.move rfl) rfl ?_
  refine WL.v (Runs.fld fld27_3 rfl) rfl ?_
  refine WL.v (Runs.load1 Try.underlying3 rfl rfl (h4.ocell (i := 1) rfl rfl)) rfl ?_
  refine WL.v (Runs.fld fld27_4 rfl) rfl ?_
  refine WL.v (Runs.load1 Try.underlying3 rfl rfl (h4.ocell (i := 1) rfl rfl)) rfl ?_
  refine WL.v (Runs.fld fld27_5 rfl) rfl ?_
  refine WL.v (Runs.load1 Try.underlying3 rfl rfl (h4.ocell (i := 1) rfl rfl)) rfl ?_
  refine WL.v (Runs.move rfl) rfl ?_
  refine WL.v (Runs.build (vs := [(0, Vi kd), (1, Vi m.jb), (2, Vi m.ep), (3, Vi m.st), (4, Vi ar)]) (cells := #[Vi kd, Vi m.jb, Vi m.ep, Vi m.st, Vi ar, .slice none 0 0]) rfl (by kernel_rfl)) rfl ?_
  refine WL.v (Runs.fld fld49_1 rfl) rfl ?_
  refine WL.storePart (arr' := acv none 0 { a with has := true, rc := ⟨kd, m.jb, m.ep, m.st, ar, []⟩ }) h4 2 rfl rfl rfl inf37 rfl rfl (Free.zero _) rfl (by kernel_rfl) ?_
  intro  w5 h5
  try simp only [lz, ls, ez, es'] at h5
  refine WL.nil (WN.thn (WC.seq (WC.seq ?_)))
  rcases two (¬ kd = 0) (¬ 6 ≤ kd) with q0 | ⟨q0, q1⟩ | ⟨q0, q1⟩
  · skip
    refine WC.reg ?_
    refine WL.v (Runs.move rfl) rfl ?_
    refine WL.v (Runs.boolT (c := true) (Runs.eql rfl rfl) (decide_eq_true (Classical.not_not.1 q0))) rfl ?_
    refine WL.v (Runs.move rfl) rfl ?_
    refine WL.goff rfl rfl rfl rfl ?_
    refine WL.goff rfl rfl rfl rfl ?_
    refine WL.v (Runs.pick rfl rfl rfl) rfl ?_
    refine WL.nil (WN.thn ?_)
    refine WC.condT rfl (rfl) ?_
    refine WC.reg ?_
    refine WL.v (Runs.fld fld49_1 rfl) rfl ?_
    refine WL.v (Runs.fld fld37_3 rfl) rfl ?_
    refine WL.store' h5 2 rfl rfl rfl inf3 rfl rfl (Free.zero _) (Nat.le_of_ble_eq_true rfl) ?_
    intro  w6 h6
    try simp only [lz, ls, ez, es'] at h6
    refine WL.nil (WN.thn (WC.seq (WC.reg ?_)))
    refine WL.v (Runs.loadAll h6 2 rfl Try.underlying49 rfl inf49 rfl rfl) rfl ?_
    refine WL.storeAll h6 0 rfl rfl rfl inf49 rfl rfl rfl (Free.zero _) ?_
    intro  w7 h7
    try simp only [lz, ls, ez, es'] at h7
    refine WL.nil (WN.thn (WC.ret ?_))
    refine retA rfl (ResOk.blk h7 0 rfl Try.underlying49 rfl inf49 rfl rfl) ⟨by unfold wrM; rw [if_pos (by omega)] <;> rfl, (((h7.drop 0).drop 0).drop 0)⟩
  · skip
    refine WC.reg ?_
    refine WL.v (Runs.move rfl) rfl ?_
    refine WL.v (Runs.boolT (c := false) (Runs.eql rfl rfl) (decide_eq_false q0)) rfl ?_
    refine WL.v (Runs.move rfl) rfl ?_
    refine WL.gon rfl rfl rfl ?_
    refine WL.v (Runs.move rfl) rfl ?_
    refine WL.gon rfl rfl rfl ?_
    refine WL.v (Runs.boolT (c := true) (Runs.geq rfl rfl) (decide_eq_true (Classical.not_not.1 q1))) rfl ?_
    refine WL.v (Runs.pick rfl rfl rfl) rfl ?_
    refine WL.nil (WN.thn ?_)
    refine WC.condT rfl (rfl) ?_
    refine WC.reg ?_
    refine WL.v (Runs.fld fld49_1 rfl) rfl ?_
    refine WL.v (Runs.fld fld37_3 rfl) rfl ?_
    refine WL.store' h5 2 rfl rfl rfl inf3 rfl rfl (Free.zero _) (Nat.le_of_ble_eq_true rfl) ?_
    intro  w8 h8
    try simp only [lz, ls, ez, es'] at h8
    refine WL.nil (WN.thn (WC.seq (WC.reg ?_)))
    refine WL.v (Runs.loadAll h8 2 rfl Try.underlying49 rfl inf49 rfl rfl) rfl ?_
    refine WL.storeAll h8 0 rfl rfl rfl inf49 rfl rfl rfl (Free.zero _) ?_
    intro  w9 h9
    try simp only [lz, ls, ez, es'] at h9
    refine WL.nil (WN.thn (WC.ret ?_))
    refine retA rfl (ResOk.blk h9 0 rfl Try.underlying49 rfl inf49 rfl rfl) ⟨by unfold wrM; rw [if_pos (by omega)] <;> rfl, (((h9.drop 0).drop 0).drop 0)⟩
  · skip
    refine WC.reg ?_
    refine WL.v (Runs.move rfl) rfl ?_
    refine WL.v (Runs.boolT (c := false) (Runs.eql rfl rfl) (decide_eq_false q0)) rfl ?_
    refine WL.v (Runs.move rfl) rfl ?_
    refine WL.gon rfl rfl rfl ?_
    refine WL.v (Runs.move rfl) rfl ?_
    refine WL.gon rfl rfl rfl ?_
    refine WL.v (Runs.boolT (c := false) (Runs.geq rfl rfl) (decide_eq_false q1)) rfl ?_
    refine WL.v (Runs.pick rfl rfl rfl) rfl ?_
    refine WL.nil (WN.thn ?_)
    refine WC.condF rfl (rfl) ?_
    refine WC.skip (WN.thn (WC.seq (WC.reg ?_)))
    refine WL.v (Runs.loadAll h5 2 rfl Try.underlying49 rfl inf49 rfl rfl) rfl ?_
    refine WL.storeAll h5 0 rfl rfl rfl inf49 rfl rfl rfl (Free.zero _) ?_
    intro  w10 h10
    try simp only [lz, ls, ez, es'] at h10
    refine WL.nil (WN.thn (WC.ret ?_))
    refine retA rfl (ResOk.blk h10 0 rfl Try.underlying49 rfl inf49 rfl rfl) ⟨by unfold wrM; rw [if_neg (by omega)] <;> rfl, (((h10.drop 0).drop 0).drop 0)⟩
set_option maxRecDepth 100000 in
set_option maxHeartbeats 8000000 in
theorem qanswer_c {W : World} {F : Snap} {cs : List Res} (w : World) {m : M} {Aa : Option Addr} {ca : Nat} {a : Ac} (id kd ar : Int) (h : St W F cs w) : Calls Try.prog 48 #[.agg (acv Aa ca a), Vi id, .agg #[Vi m.kd, Vi m.fr, Vi m.to, Vi m.jb, Vi m.ep, Vi m.st, Vi m.ar, .string m.tx], Vi kd, Vi ar] w fun e w' => e = .returned (.agg (acv Aa ca (anM id m a kd ar))) ∧ St W F cs w'  := by
  refine enter (P := Try.prog) (args := [.agg (acv Aa ca a), Vi id, .agg #[Vi m.kd, Vi m.fr, Vi m.to, Vi m.jb, Vi m.ep, Vi m.st, Vi m.ar, .string m.tx], Vi kd, Vi ar]) Try.func48 rfl rfl rfl ?_
  refine WC.seq (WC.reg ?_)
  refine WL.box rfl h rfl ?_
  intro b5 w1 h1
  refine WL.box rfl h1 rfl ?_
  intro b7 w2 h2
  refine WL.alloc' rfl h2 inf49 ?_
  intro b10 w3 h3
  refine WL.nil (WN.thn (WC.seq (WC.reg ?_)))
  refine WL.v (Runs.fld fld49_2 rfl) rfl ?_
  refine WL.store' h3 2 rfl rfl rfl inf4 rfl rfl (Free.zero _) (Nat.le_of_ble_eq_true rfl) ?_
  intro  w4 h4
  try simp only [lz, ls, ez, es'] at h4
  refine WL.nil (WN.thn (WC.seq (WC.reg ?_)))
  refine WL.v (Runs.move rfl) rfl ?_
  refine WL.v (Runs.move rfl) rfl ?_
  refine WL.v (Runs.fld fld27_3 rfl) rfl ?_
  refine WL.v (Runs.load1 Try.underlying3 rfl rfl (h4.ocell (i := 1) rfl rfl)) rfl ?_
  refine WL.v (Runs.fld fld27_4 rfl) rfl ?_
  refine WL.v (Runs.load1 Try.underlying3 rfl rfl (h4.ocell (i := 1) rfl rfl)) rfl ?_
  refine WL.v (Runs.fld fld27_5 rfl) rfl ?_
  refine WL.v (Runs.load1 Try.underlying3 rfl rfl (h4.ocell (i := 1) rfl rfl)) rfl ?_
  refine WL.v (Runs.move rfl) rfl ?_
  refine WL.v (Runs.build (vs := [(0, Vi kd), (1, Vi id), (2, Vi (-1)), (3, Vi m.jb), (4, Vi m.ep), (5, Vi m.st), (6, Vi ar)]) (cells := #[Vi kd, Vi id, Vi (-1), Vi m.jb, Vi m.ep, Vi m.st, Vi ar, .string ⟨#[]⟩]) rfl (by kernel_rfl)) rfl ?_
  refine WL.v (Runs.fld fld49_3 rfl) rfl ?_
  refine WL.storePart (arr' := acv Aa ca (anM id m a kd ar)) h4 2 rfl rfl rfl inf27 rfl rfl (Free.zero _) rfl (by kernel_rfl) ?_
  intro  w5 h5
  try simp only [lz, ls, ez, es'] at h5
  refine WL.nil (WN.thn (WC.seq (WC.reg ?_)))
  refine WL.v (Runs.loadAll h5 2 rfl Try.underlying49 rfl inf49 rfl rfl) rfl ?_
  refine WL.storeAll h5 0 rfl rfl rfl inf49 rfl rfl rfl (Free.zero _) ?_
  intro  w6 h6
  try simp only [lz, ls, ez, es'] at h6
  refine WL.nil (WN.thn (WC.ret ?_))
  refine retA rfl (ResOk.blk h6 0 rfl Try.underlying49 rfl inf49 rfl rfl) ⟨rfl, (((h6.drop 0).drop 0).drop 0)⟩
set_option maxRecDepth 100000 in
set_option maxHeartbeats 8000000 in
theorem qnwer_c {W : World} {F : Snap} {cs : List Res} (w : World) {AJ AS : Option Addr} {cj cS : Nat} {z : Z} {m : M} (hz : few z) (hR : ZR F AJ AS z) (h : St W F cs w) : Calls Try.prog 60 #[.agg #[.slice AJ z.js.length cj, .slice AS z.ss.length cS, .bool z.dr], .agg #[Vi m.kd, Vi m.fr, Vi m.to, Vi m.jb, Vi m.ep, Vi m.st, Vi m.ar, .string m.tx]] w fun e w' => e = .returned (.bool (nwM z m)) ∧ St W F cs w'  := by
  refine enter (P := Try.prog) (args := [.agg #[.slice AJ z.js.length cj, .slice AS z.ss.length cS, .bool z.dr], .agg #[Vi m.kd, Vi m.fr, Vi m.to, Vi m.jb, Vi m.ep, Vi m.st, Vi m.ar, .string m.tx]]) Try.func60 rfl rfl rfl ?_
  have hzj := hz.j
  refine WC.seq (WC.reg ?_)
  refine WL.box rfl h rfl ?_
  intro b2 w1 h1
  refine WL.box rfl h1 rfl ?_
  intro b3 w2 h2
  refine WL.v (Runs.assign rfl) rfl ?_
  refine WL.nil (WN.thn (WC.seq (WC.seq (WC.reg ?_))))
  refine WL.v (Runs.assign rfl) rfl ?_
  refine WL.nil (WN.thn (WC.block ?_))
  refine WC.loop (σ := Nat) (fun q_ => [(2, .pointer (some ⟨b2, 0, none⟩)), (3, .pointer (some ⟨b3, 0, none⟩)), (5, .int .i64 (q_ : Int))]) (fun q_ w => q_ ≤ z.js.length ∧ (∀ j, j < q_ → nwB m (z.js.getD j J0) = false) ∧ St W F ([(b3, .cells #[Vi m.kd, Vi m.fr, Vi m.to, Vi m.jb, Vi m.ep, Vi m.st, Vi m.ar, .string m.tx] 27 (0, 0))] :: [(b2, .cells #[.slice AJ z.js.length cj, .slice AS z.ss.length cS, .bool z.dr] 25 (0, 0))] :: cs) w) (fun q_ => z.js.length - q_) (0) (by repeat (first | exact trivial | refine ⟨rfl, ?_⟩)) (⟨Nat.zero_le _, fun j hj => absurd hj (Nat.not_lt_zero _), h2⟩) ?_
  rintro i w3 ⟨hi, hno, hL⟩
  try dsimp only at hi hno hL
  refine WC.sub (s := [(2, .pointer (some ⟨b2, 0, none⟩)), (3, .pointer (some ⟨b3, 0, none⟩)), (5, .int .i64 (i : Int))]) (by repeat (first | exact trivial | refine ⟨rfl, ?_⟩)) ?_
  refine WC.seq (WC.seq (WC.reg ?_))
  refine WL.v (Runs.move rfl) rfl ?_
  refine WL.v (Runs.fld fld25_0 rfl) rfl ?_
  refine WL.v (Runs.load1 Try.underlying22 rfl rfl (hL.ocell (i := 1) rfl rfl)) rfl ?_
  refine WL.v (Runs.llen Try.underlying22 rfl rfl) rfl ?_
  refine WL.v (Runs.lss rfl rfl) rfl ?_
  refine WL.nil (WN.thn ?_)
  refine WC.cond rfl (fun c4 => ?_) (fun c4 => ?_)
  · try simp only [dt, df, nt, nf, ba, il, ie] at c4
    first
    | (exfalso; omega)
    | skip
      refine WC.skip (WN.thn (WC.seq (WC.block (WC.seq ?_))))
      have hi2 : i < z.js.length := by omega
      obtain ⟨ad, c, rfl, hc, hcell⟩ := hR.j.atD J0 hi2
      obtain rfl : c = jc (z.js.getD i J0) := hc
      
      rcases two ((z.js.getD i J0).jb = m.jb) ((z.js.getD i J0).ep > m.ep) with q0 | ⟨q0, q1⟩ | ⟨q0, q1⟩
      · skip
        refine WC.eregK hL hL (fun s_ => ([] : List Nat).any (Nat.beq s_)) mixed (by kernel_rfl) (fun hx => ?_)
        intro w5 h5
        refine WE.p0 hx 0 (by rfl) (fun w_ => Runs.fld fld25_0 rfl) rfl ?_
        refine WE.p0 hx 2 (by rfl) (fun w_ => Runs.move rfl) rfl ?_
        refine WE.p0 hx 6 (by rfl) (fun w_ => Runs.fld fld27_3 rfl) rfl ?_
        refine WE.v0 12 hx 1 (by rfl) (fun w_ hE_ => Runs.load1 Try.underlying22 rfl rfl (hE_.ocell (i := 1) rfl rfl)) rfl ?_
        refine WE.p0 hx 3 (by rfl) (fun w_ => Runs.lidxK Try.underlying22 inf76 rfl rfl (n := i) rfl hi2) rfl ?_
        refine WE.p0 hx 4 (by rfl) (fun w_ => Runs.fld fld76_0 rfl) rfl ?_
        refine WE.v0 12 hx 5 (by rfl) (fun w_ hE_ => Runs.fldKF (n := i) hE_ hcell Try.underlying3 rfl rfl rfl) rfl ?_
        refine WE.v0 12 hx 7 (by rfl) (fun w_ hE_ => Runs.load1 Try.underlying3 rfl rfl (hE_.ocell (i := 0) rfl rfl)) rfl ?_
        refine WE.p0 hx 8 (by rfl) (fun w_ => Runs.boolT (c := false) (Runs.eql rfl rfl) (decide_eq_false q0)) rfl ?_
        refine WE.p0 hx 9 (by rfl) (fun w_ => Runs.move rfl) rfl ?_
        refine WE.o1 (j := 9) (b := true) hx 10 (by rfl) ⟨_, _, rfl, rfl, .inr rfl⟩ rfl ?_
        refine WE.o1 (j := 9) (b := true) hx 11 (by rfl) ⟨_, _, rfl, rfl, .inr rfl⟩ rfl ?_
        refine WE.o1 (j := 9) (b := true) hx 12 (by rfl) ⟨_, _, rfl, rfl, .inr rfl⟩ rfl ?_
        refine WE.o1 (j := 9) (b := true) hx 13 (by rfl) ⟨_, _, rfl, rfl, .inr rfl⟩ rfl ?_
        refine WE.o1 (j := 9) (b := true) hx 14 (by rfl) ⟨_, _, rfl, rfl, .inr rfl⟩ rfl ?_
        refine WE.o1 (j := 9) (b := true) hx 15 (by rfl) ⟨_, _, rfl, rfl, .inr rfl⟩ rfl ?_
        refine WE.o1 (j := 9) (b := true) hx 16 (by rfl) ⟨_, _, rfl, rfl, .inr rfl⟩ rfl ?_
        refine WE.o1 (j := 9) (b := true) hx 17 (by rfl) ⟨_, _, rfl, rfl, .inr rfl⟩ rfl ?_
        refine WE.o1 (j := 9) (b := true) hx 18 (by rfl) ⟨_, _, rfl, rfl, .inr rfl⟩ rfl ?_
        refine WE.p0 hx 19 (by rfl) (fun w_ => Runs.pick rfl rfl rfl) rfl ?_
        refine WE.fin (.inr h5) (by kernel_rfl) ?_
        refine WN.thn ?_
        refine WC.condF rfl (rfl) ?_
        refine WC.skip (WN.blk (WN.thn (WC.reg ?_)))
        refine WL.v (Runs.move rfl) rfl ?_
        refine WL.v (Runs.addn rfl rfl (by omega)) rfl ?_
        refine WL.v (Runs.assign rfl) rfl ?_
        refine WL.nil ?_
        exact WN.again (i + 1) (by omega) ⟨rfl, rfl, rfl, trivial⟩ ⟨by omega, fun j hj => (by
          by_cases e : j = i
          · subst e; show nwB m (z.js.getD j J0) = false; unfold nwB; rw [decide_eq_false q0] <;> rfl
          · exact hno j (by omega)), h5⟩
      · skip
        refine WC.eregK hL hL (fun s_ => ([] : List Nat).any (Nat.beq s_)) mixed (by kernel_rfl) (fun hx => ?_)
        intro w6 h6
        refine WE.p0 hx 0 (by rfl) (fun w_ => Runs.fld fld25_0 rfl) rfl ?_
        refine WE.p0 hx 2 (by rfl) (fun w_ => Runs.move rfl) rfl ?_
        refine WE.p0 hx 6 (by rfl) (fun w_ => Runs.fld fld27_3 rfl) rfl ?_
        refine WE.v0 12 hx 1 (by rfl) (fun w_ hE_ => Runs.load1 Try.underlying22 rfl rfl (hE_.ocell (i := 1) rfl rfl)) rfl ?_
        refine WE.p0 hx 3 (by rfl) (fun w_ => Runs.lidxK Try.underlying22 inf76 rfl rfl (n := i) rfl hi2) rfl ?_
        refine WE.p0 hx 4 (by rfl) (fun w_ => Runs.fld fld76_0 rfl) rfl ?_
        refine WE.v0 12 hx 5 (by rfl) (fun w_ hE_ => Runs.fldKF (n := i) hE_ hcell Try.underlying3 rfl rfl rfl) rfl ?_
        refine WE.v0 12 hx 7 (by rfl) (fun w_ hE_ => Runs.load1 Try.underlying3 rfl rfl (hE_.ocell (i := 0) rfl rfl)) rfl ?_
        refine WE.p0 hx 8 (by rfl) (fun w_ => Runs.boolT (c := true) (Runs.eql rfl rfl) (decide_eq_true q0)) rfl ?_
        refine WE.p0 hx 9 (by rfl) (fun w_ => Runs.move rfl) rfl ?_
        refine WE.p1 (j := 9) (b := true) hx 10 (by rfl) ⟨_, _, rfl, rfl, rfl⟩ (fun w_ => Runs.fld fld25_0 rfl) rfl ?_
        refine WE.p1 (j := 9) (b := true) hx 12 (by rfl) ⟨_, _, rfl, rfl, rfl⟩ (fun w_ => Runs.move rfl) rfl ?_
        refine WE.p1 (j := 9) (b := true) hx 16 (by rfl) ⟨_, _, rfl, rfl, rfl⟩ (fun w_ => Runs.fld fld27_4 rfl) rfl ?_
        refine WE.v1 (j := 9) (b := true) 12 hx 11 (by rfl) ⟨_, _, rfl, rfl, rfl⟩ (fun w_ hE_ => Runs.load1 Try.underlying22 rfl rfl (hE_.ocell (i := 1) rfl rfl)) rfl ?_
        refine WE.p1 (j := 9) (b := true) hx 13 (by rfl) ⟨_, _, rfl, rfl, rfl⟩ (fun w_ => Runs.lidxK Try.underlying22 inf76 rfl rfl (n := i) rfl hi2) rfl ?_
        refine WE.p1 (j := 9) (b := true) hx 14 (by rfl) ⟨_, _, rfl, rfl, rfl⟩ (fun w_ => Runs.fld fld76_1 rfl) rfl ?_
        refine WE.v1 (j := 9) (b := true) 12 hx 15 (by rfl) ⟨_, _, rfl, rfl, rfl⟩ (fun w_ hE_ => Runs.fldKF (n := i) hE_ hcell Try.underlying3 rfl rfl rfl) rfl ?_
        refine WE.v1 (j := 9) (b := true) 12 hx 17 (by rfl) ⟨_, _, rfl, rfl, rfl⟩ (fun w_ hE_ => Runs.load1 Try.underlying3 rfl rfl (hE_.ocell (i := 0) rfl rfl)) rfl ?_
        refine WE.p1 (j := 9) (b := true) hx 18 (by rfl) ⟨_, _, rfl, rfl, rfl⟩ (fun w_ => Runs.boolT (c := false) (Runs.gtr rfl rfl) (decide_eq_false q1)) rfl ?_
        refine WE.p0 hx 19 (by rfl) (fun w_ => Runs.pick rfl rfl rfl) rfl ?_
        refine WE.fin (.inr h6) (by kernel_rfl) ?_
        refine WN.thn ?_
        refine WC.condF rfl (rfl) ?_
        refine WC.skip (WN.blk (WN.thn (WC.reg ?_)))
        refine WL.v (Runs.move rfl) rfl ?_
        refine WL.v (Runs.addn rfl rfl (by omega)) rfl ?_
        refine WL.v (Runs.assign rfl) rfl ?_
        refine WL.nil ?_
        exact WN.again (i + 1) (by omega) ⟨rfl, rfl, rfl, trivial⟩ ⟨by omega, fun j hj => (by
          by_cases e : j = i
          · subst e; show nwB m (z.js.getD j J0) = false; unfold nwB; rw [decide_eq_true q0, decide_eq_false q1] <;> rfl
          · exact hno j (by omega)), h6⟩
      · skip
        refine WC.eregK hL hL (fun s_ => ([] : List Nat).any (Nat.beq s_)) mixed (by kernel_rfl) (fun hx => ?_)
        intro w7 h7
        refine WE.p0 hx 0 (by rfl) (fun w_ => Runs.fld fld25_0 rfl) rfl ?_
        refine WE.p0 hx 2 (by rfl) (fun w_ => Runs.move rfl) rfl ?_
        refine WE.p0 hx 6 (by rfl) (fun w_ => Runs.fld fld27_3 rfl) rfl ?_
        refine WE.v0 12 hx 1 (by rfl) (fun w_ hE_ => Runs.load1 Try.underlying22 rfl rfl (hE_.ocell (i := 1) rfl rfl)) rfl ?_
        refine WE.p0 hx 3 (by rfl) (fun w_ => Runs.lidxK Try.underlying22 inf76 rfl rfl (n := i) rfl hi2) rfl ?_
        refine WE.p0 hx 4 (by rfl) (fun w_ => Runs.fld fld76_0 rfl) rfl ?_
        refine WE.v0 12 hx 5 (by rfl) (fun w_ hE_ => Runs.fldKF (n := i) hE_ hcell Try.underlying3 rfl rfl rfl) rfl ?_
        refine WE.v0 12 hx 7 (by rfl) (fun w_ hE_ => Runs.load1 Try.underlying3 rfl rfl (hE_.ocell (i := 0) rfl rfl)) rfl ?_
        refine WE.p0 hx 8 (by rfl) (fun w_ => Runs.boolT (c := true) (Runs.eql rfl rfl) (decide_eq_true q0)) rfl ?_
        refine WE.p0 hx 9 (by rfl) (fun w_ => Runs.move rfl) rfl ?_
        refine WE.p1 (j := 9) (b := true) hx 10 (by rfl) ⟨_, _, rfl, rfl, rfl⟩ (fun w_ => Runs.fld fld25_0 rfl) rfl ?_
        refine WE.p1 (j := 9) (b := true) hx 12 (by rfl) ⟨_, _, rfl, rfl, rfl⟩ (fun w_ => Runs.move rfl) rfl ?_
        refine WE.p1 (j := 9) (b := true) hx 16 (by rfl) ⟨_, _, rfl, rfl, rfl⟩ (fun w_ => Runs.fld fld27_4 rfl) rfl ?_
        refine WE.v1 (j := 9) (b := true) 12 hx 11 (by rfl) ⟨_, _, rfl, rfl, rfl⟩ (fun w_ hE_ => Runs.load1 Try.underlying22 rfl rfl (hE_.ocell (i := 1) rfl rfl)) rfl ?_
        refine WE.p1 (j := 9) (b := true) hx 13 (by rfl) ⟨_, _, rfl, rfl, rfl⟩ (fun w_ => Runs.lidxK Try.underlying22 inf76 rfl rfl (n := i) rfl hi2) rfl ?_
        refine WE.p1 (j := 9) (b := true) hx 14 (by rfl) ⟨_, _, rfl, rfl, rfl⟩ (fun w_ => Runs.fld fld76_1 rfl) rfl ?_
        refine WE.v1 (j := 9) (b := true) 12 hx 15 (by rfl) ⟨_, _, rfl, rfl, rfl⟩ (fun w_ hE_ => Runs.fldKF (n := i) hE_ hcell Try.underlying3 rfl rfl rfl) rfl ?_
        refine WE.v1 (j := 9) (b := true) 12 hx 17 (by rfl) ⟨_, _, rfl, rfl, rfl⟩ (fun w_ hE_ => Runs.load1 Try.underlying3 rfl rfl (hE_.ocell (i := 0) rfl rfl)) rfl ?_
        refine WE.p1 (j := 9) (b := true) hx 18 (by rfl) ⟨_, _, rfl, rfl, rfl⟩ (fun w_ => Runs.boolT (c := true) (Runs.gtr rfl rfl) (decide_eq_true q1)) rfl ?_
        refine WE.p0 hx 19 (by rfl) (fun w_ => Runs.pick rfl rfl rfl) rfl ?_
        refine WE.fin (.inr h7) (by kernel_rfl) ?_
        refine WN.thn ?_
        refine WC.condT rfl (rfl) ?_
        refine WC.seq (WC.reg ?_)
        refine WL.v (Runs.assign rfl) rfl ?_
        refine WL.nil (WN.thn (WC.ret ?_))
        exact ret1 rfl rfl ⟨by rw [show nwM z m = true from any_t (p := nwB m) (d := J0) hi2 (show nwB m (z.js.getD i J0) = true by unfold nwB; rw [decide_eq_true q0, decide_eq_true q1] <;> rfl)] <;> rfl, ((h7.drop 0).drop 0)⟩
  · try simp only [dt, df, nt, nf, ba, il, ie] at c4
    first
    | (exfalso; omega)
    | skip
      refine WC.exit (WX.thn (WX.cut (WX.hit (WN.thn (WC.seq ?_)))))
      refine WC.reg ?_
      refine WL.v (Runs.assign rfl) rfl ?_
      refine WL.nil (WN.thn (WC.ret ?_))
      exact ret1 rfl rfl ⟨by rw [show nwM z m = false from any_f (p := nwB m) (d := J0) (fun j hj => hno j (by omega))] <;> rfl, ((hL.drop 0).drop 0)⟩
set_option maxRecDepth 100000 in
set_option maxHeartbeats 8000000 in
theorem qup_c {W : World} {F : Snap} {cs : List Res} (w : World) {AJ AS : Option Addr} {cj cS : Nat} {z : Z} {m : M} (hz : few z) (hR : ZR F AJ AS z) (h : St W F cs w) : Calls Try.prog 41 #[.agg #[.slice AJ z.js.length cj, .slice AS z.ss.length cS, .bool z.dr], .agg #[Vi m.kd, Vi m.fr, Vi m.to, Vi m.jb, Vi m.ep, Vi m.st, Vi m.ar, .string m.tx]] w fun e w' => e = .returned (.bool (upB z m)) ∧ St W F cs w'  := by
  refine enter (P := Try.prog) (args := [.agg #[.slice AJ z.js.length cj, .slice AS z.ss.length cS, .bool z.dr], .agg #[Vi m.kd, Vi m.fr, Vi m.to, Vi m.jb, Vi m.ep, Vi m.st, Vi m.ar, .string m.tx]]) Try.func41 rfl rfl rfl ?_
  have hzj := hz.j
  have hzs := hz.s
  refine WC.seq (WC.reg ?_)
  refine WL.box rfl h rfl ?_
  intro b2 w1 h1
  refine WL.box rfl h1 rfl ?_
  intro b3 w2 h2
  refine WL.v (Runs.assign rfl) rfl ?_
  refine WL.nil (WN.thn (WC.seq (WC.reg ?_)))
  refine WL.v (Runs.loadAll h2 1 rfl Try.underlying25 rfl inf25 rfl rfl) rfl ?_
  refine WL.v (Runs.fld fld27_3 rfl) rfl ?_
  refine WL.v (Runs.load1 Try.underlying3 rfl rfl (h2.ocell (i := 0) rfl rfl)) rfl ?_
  refine WL.v (Runs.fld fld27_4 rfl) rfl ?_
  refine WL.v (Runs.load1 Try.underlying3 rfl rfl (h2.ocell (i := 0) rfl rfl)) rfl ?_
  refine WL.call can59 rfl rfl (qfind_c _ m.jb m.ep h2 hR.j (by omega)) ?_
  rintro _ w3 ⟨rfl, h3⟩
  refine ⟨_, rfl, ?_⟩
  refine WL.v (Runs.move rfl) rfl ?_
  refine WL.v (Runs.extract rfl rfl) rfl ?_
  refine WL.v (Runs.extract rfl rfl) rfl ?_
  refine WL.alloc' rfl h3 inf76 ?_
  intro b5 w4 h4
  refine WL.storeAll h4 0 rfl rfl rfl inf76 rfl rfl rfl (Free.zero _) ?_
  intro  w5 h5
  try simp only [lz, ls, ez, es'] at h5
  refine WL.v (Runs.assign rfl) rfl ?_
  refine WL.nil (WN.thn (WC.seq ?_))
  rcases Bool.eq_false_or_eq_true (hasJ z m) with q | q
  · skip
    refine WC.reg ?_
    refine WL.v (Runs.boolT (c := true) (Runs.move rfl) q) rfl ?_
    refine WL.v (Runs.move rfl) rfl ?_
    refine WL.gon rfl rfl rfl ?_
    refine WL.v (Runs.fld fld76_2 rfl) rfl ?_
    refine WL.gon rfl rfl rfl ?_
    refine WL.v (Runs.load1 Try.underlying3 rfl rfl (h5.ocell (i := 0) rfl rfl)) rfl ?_
    refine WL.gon rfl rfl rfl ?_
    refine WL.v (Runs.eql rfl rfl) rfl ?_
    refine WL.v (Runs.pick rfl rfl rfl) rfl ?_
    refine WL.v (Runs.assign rfl) rfl ?_
    refine WL.nil (WN.thn (WC.ret ?_))
    refine ret1 rfl rfl ⟨?_, (((h5.drop 0).drop 0).drop 0)⟩
    unfold upB
    rw [q] <;> rfl
  · skip
    refine WC.reg ?_
    refine WL.v (Runs.boolT (c := false) (Runs.move rfl) q) rfl ?_
    refine WL.v (Runs.move rfl) rfl ?_
    refine WL.goff rfl rfl rfl rfl ?_
    refine WL.goff rfl rfl rfl rfl ?_
    refine WL.goff rfl rfl rfl rfl ?_
    refine WL.v (Runs.pick rfl rfl rfl) rfl ?_
    refine WL.v (Runs.assign rfl) rfl ?_
    refine WL.nil (WN.thn (WC.ret ?_))
    refine ret1 rfl rfl ⟨?_, (((h5.drop 0).drop 0).drop 0)⟩
    unfold upB
    rw [q] <;> rfl
set_option maxRecDepth 100000 in
set_option maxHeartbeats 8000000 in
theorem qprolog_c {W : World} {F : Snap} {cs : List Res} (w : World) {AJ AS : Option Addr} {cj cS : Nat} {z : Z} {Ap : Option Addr} {cp : Nat} {f : Fc} {m : M} (id : Int) (hz : few z) (hR : ZR F AJ AS z) (h : St W F cs w) : Calls Try.prog 34 #[Vi id, .agg #[.slice AJ z.js.length cj, .slice AS z.ss.length cS, .bool z.dr], .agg #[Vi m.kd, Vi m.fr, Vi m.to, Vi m.jb, Vi m.ep, Vi m.st, Vi m.ar, .string m.tx], .agg #[Vi f.cr, .slice Ap f.ps.length cp, Vi f.cd, .bool f.bz]] w fun e w' => GivesA W F cs (prologA id z m f.cd) e w'  := by
  refine enter (P := Try.prog) (args := [Vi id, .agg #[.slice AJ z.js.length cj, .slice AS z.ss.length cS, .bool z.dr], .agg #[Vi m.kd, Vi m.fr, Vi m.to, Vi m.jb, Vi m.ep, Vi m.st, Vi m.ar, .string m.tx], .agg #[Vi f.cr, .slice Ap f.ps.length cp, Vi f.cd, .bool f.bz]]) Try.func34 rfl rfl rfl ?_
  have hzj := hz.j
  have hzs := hz.s
  refine WC.seq (WC.reg ?_)
  refine WL.box rfl h rfl ?_
  intro b5 w1 h1
  refine WL.box rfl h1 rfl ?_
  intro b6 w2 h2
  refine WL.box rfl h2 rfl ?_
  intro b7 w3 h3
  refine WL.alloc' rfl h3 inf49 ?_
  intro b8 w4 h4
  refine WL.nil (WN.thn (WC.seq (WC.reg ?_)))
  refine WL.v (Runs.loadAll h4 3 rfl Try.underlying25 rfl inf25 rfl rfl) rfl ?_
  refine WL.v (Runs.fld fld27_3 rfl) rfl ?_
  refine WL.v (Runs.load1 Try.underlying3 rfl rfl (h4.ocell (i := 2) rfl rfl)) rfl ?_
  refine WL.v (Runs.fld fld27_4 rfl) rfl ?_
  refine WL.v (Runs.load1 Try.underlying3 rfl rfl (h4.ocell (i := 2) rfl rfl)) rfl ?_
  refine WL.call can59 rfl rfl (qfind_c _ m.jb m.ep h4 hR.j (by omega)) ?_
  rintro _ w5 ⟨rfl, h5⟩
  refine ⟨_, rfl, ?_⟩
  refine WL.v (Runs.move rfl) rfl ?_
  refine WL.v (Runs.extract rfl rfl) rfl ?_
  refine WL.v (Runs.extract rfl rfl) rfl ?_
  refine WL.alloc' rfl h5 inf76 ?_
  intro b9 w6 h6
  refine WL.storeAll h6 0 rfl rfl rfl inf76 rfl rfl rfl (Free.zero _) ?_
  intro  w7 h7
  try simp only [lz, ls, ez, es'] at h7
  refine WL.v (Runs.assign rfl) rfl ?_
  refine WL.nil (WN.thn (WC.seq (WC.seq ?_)))
  rcases five_ (p := phJ z m) (q := 0) (b := hasJ z m) with ⟨p0, p1⟩ | ⟨p0, p1⟩ | ⟨p0, p1⟩ | ⟨p0, p1, p2, p3⟩ | p0
  · skip
    refine WC.reg ?_
    refine WL.v (Runs.boolT (c := true) (Runs.move rfl) p0) rfl ?_
    refine WL.v (Runs.move rfl) rfl ?_
    refine WL.gon rfl rfl rfl ?_
    refine WL.v (Runs.fld fld76_2 rfl) rfl ?_
    refine WL.gon rfl rfl rfl ?_
    refine WL.v (Runs.load1 Try.underlying3 rfl rfl (h7.ocell (i := 0) rfl rfl)) rfl ?_
    refine WL.gon rfl rfl rfl ?_
    refine WL.v (Runs.boolT (c := true) (Runs.eql rfl rfl) (decide_eq_true p1)) rfl ?_
    refine WL.v (Runs.pick rfl rfl rfl) rfl ?_
    refine WL.nil (WN.thn ?_)
    refine WC.condT rfl (rfl) ?_
    refine WC.seq (WC.reg ?_)
    refine WL.v (Runs.build (vs := []) (cells := #[.bool false, Vi 0, Vi 0, Vi 0, Vi 0, Vi 0, .slice none 0 0, .bool false, Vi 0, Vi 0, Vi 0, Vi 0, Vi 0, Vi 0, Vi 0, .string ⟨#[]⟩, .bool false, .bool false, .bool false]) rfl (by kernel_rfl)) rfl ?_
    refine WL.v (Runs.move rfl) rfl ?_
    refine WL.v (Runs.loadAll h7 3 rfl Try.underlying27 rfl inf27 rfl rfl) rfl ?_
    refine WL.call can48 rfl rfl ((show Calls _ _ #[.agg (acv none 0 A0), _, _, _, _] _ _ from qanswer_c _ id (m := m) (a := A0) 9 0 h7)) ?_
    rintro _ w8 ⟨rfl, h8⟩
    refine ⟨_, rfl, ?_⟩
    refine WL.storeAll h8 1 rfl rfl rfl inf49 rfl rfl rfl (Free.zero _) ?_
    intro  w9 h9
    try simp only [lz, ls, ez, es'] at h9
    refine WL.nil (WN.thn (WC.ret ?_))
    have hv : prologA id z m f.cd = anM id m A0 9 0 := by unfold prologA; rw [if_neg (show ¬ upB z m = true from hj_f (fun hh => by rw [p1] at hh; exact absurd hh.2 (by decide))), if_neg (hj_f (fun hh => by rw [p1] at hh; exact absurd hh.2 (by decide))), if_pos (hj_t p0 p1)]
    refine retA rfl (ResOk.blk h9 1 rfl Try.underlying49 rfl inf49 rfl rfl) ⟨F, none, 0, Le.refl F, by rw [hv] <;> rfl, by rw [hv]; exact .inl rfl, (((((h9.drop 0).drop 0).drop 0).drop 0).drop 0)⟩
  · skip
    refine WC.reg ?_
    refine WL.v (Runs.boolT (c := true) (Runs.move rfl) p0) rfl ?_
    refine WL.v (Runs.move rfl) rfl ?_
    refine WL.gon rfl rfl rfl ?_
    refine WL.v (Runs.fld fld76_2 rfl) rfl ?_
    refine WL.gon rfl rfl rfl ?_
    refine WL.v (Runs.load1 Try.underlying3 rfl rfl (h7.ocell (i := 0) rfl rfl)) rfl ?_
    refine WL.gon rfl rfl rfl ?_
    refine WL.v (Runs.boolT (c := false) (Runs.eql rfl rfl) (decide_eq_false (fun hh => absurd (p1.symm.trans hh) (by decide)))) rfl ?_
    refine WL.v (Runs.pick rfl rfl rfl) rfl ?_
    refine WL.nil (WN.thn ?_)
    refine WC.condF rfl (rfl) ?_
    refine WC.skip (WN.thn (WC.seq (WC.seq (WC.reg ?_))))
    refine WL.v (Runs.boolT (c := true) (Runs.move rfl) p0) rfl ?_
    refine WL.v (Runs.move rfl) rfl ?_
    refine WL.gon rfl rfl rfl ?_
    refine WL.v (Runs.fld fld76_2 rfl) rfl ?_
    refine WL.gon rfl rfl rfl ?_
    refine WL.v (Runs.load1 Try.underlying3 rfl rfl (h7.ocell (i := 0) rfl rfl)) rfl ?_
    refine WL.gon rfl rfl rfl ?_
    refine WL.v (Runs.boolT (c := true) (Runs.eql rfl rfl) (decide_eq_true p1)) rfl ?_
    refine WL.gon rfl rfl rfl ?_
    refine WL.v (Runs.move rfl) rfl ?_
    refine WL.goff rfl rfl rfl rfl ?_
    refine WL.goff rfl rfl rfl rfl ?_
    refine WL.goff rfl rfl rfl rfl ?_
    refine WL.gon rfl rfl rfl ?_
    refine WL.v (Runs.pick rfl rfl rfl) rfl ?_
    refine WL.v (Runs.pick rfl rfl rfl) rfl ?_
    refine WL.nil (WN.thn ?_)
    refine WC.condT rfl (rfl) ?_
    refine WC.seq (WC.reg ?_)
    refine WL.v (Runs.build (vs := []) (cells := #[.bool false, Vi 0, Vi 0, Vi 0, Vi 0, Vi 0, .slice none 0 0, .bool false, Vi 0, Vi 0, Vi 0, Vi 0, Vi 0, Vi 0, Vi 0, .string ⟨#[]⟩, .bool false, .bool false, .bool false]) rfl (by kernel_rfl)) rfl ?_
    refine WL.v (Runs.move rfl) rfl ?_
    refine WL.v (Runs.loadAll h7 3 rfl Try.underlying27 rfl inf27 rfl rfl) rfl ?_
    refine WL.v (Runs.fld fld76_2 rfl) rfl ?_
    refine WL.v (Runs.intT (n := 0) (Runs.load1 Try.underlying3 rfl rfl (h7.ocell (i := 0) rfl rfl)) p1) rfl ?_
    refine WL.call can48 rfl rfl ((show Calls _ _ #[.agg (acv none 0 A0), _, _, _, _] _ _ from qanswer_c _ id (m := m) (a := A0) 1 0 h7)) ?_
    rintro _ w10 ⟨rfl, h10⟩
    refine ⟨_, rfl, ?_⟩
    refine WL.storeAll h10 1 rfl rfl rfl inf49 rfl rfl rfl (Free.zero _) ?_
    intro  w11 h11
    try simp only [lz, ls, ez, es'] at h11
    refine WL.nil (WN.thn (WC.ret ?_))
    have hv : prologA id z m f.cd = anM id m A0 1 0 := by unfold prologA; rw [if_pos (show upB z m = true from hj_t p0 p1)]
    refine retA rfl (ResOk.blk h11 1 rfl Try.underlying49 rfl inf49 rfl rfl) ⟨F, none, 0, Le.refl F, by rw [hv] <;> rfl, by rw [hv]; exact .inl rfl, (((((h11.drop 0).drop 0).drop 0).drop 0).drop 0)⟩
  · skip
    refine WC.reg ?_
    refine WL.v (Runs.boolT (c := true) (Runs.move rfl) p0) rfl ?_
    refine WL.v (Runs.move rfl) rfl ?_
    refine WL.gon rfl rfl rfl ?_
    refine WL.v (Runs.fld fld76_2 rfl) rfl ?_
    refine WL.gon rfl rfl rfl ?_
    refine WL.v (Runs.load1 Try.underlying3 rfl rfl (h7.ocell (i := 0) rfl rfl)) rfl ?_
    refine WL.gon rfl rfl rfl ?_
    refine WL.v (Runs.boolT (c := false) (Runs.eql rfl rfl) (decide_eq_false (fun hh => absurd (p1.symm.trans hh) (by decide)))) rfl ?_
    refine WL.v (Runs.pick rfl rfl rfl) rfl ?_
    refine WL.nil (WN.thn ?_)
    refine WC.condF rfl (rfl) ?_
    refine WC.skip (WN.thn (WC.seq (WC.seq (WC.reg ?_))))
    refine WL.v (Runs.boolT (c := true) (Runs.move rfl) p0) rfl ?_
    refine WL.v (Runs.move rfl) rfl ?_
    refine WL.gon rfl rfl rfl ?_
    refine WL.v (Runs.fld fld76_2 rfl) rfl ?_
    refine WL.gon rfl rfl rfl ?_
    refine WL.v (Runs.load1 Try.underlying3 rfl rfl (h7.ocell (i := 0) rfl rfl)) rfl ?_
    refine WL.gon rfl rfl rfl ?_
    refine WL.v (Runs.boolT (c := false) (Runs.eql rfl rfl) (decide_eq_false (fun hh => absurd (p1.symm.trans hh) (by decide)))) rfl ?_
    refine WL.gon rfl rfl rfl ?_
    refine WL.v (Runs.move rfl) rfl ?_
    refine WL.gon rfl rfl rfl ?_
    refine WL.v (Runs.fld fld76_2 rfl) rfl ?_
    refine WL.gon rfl rfl rfl ?_
    refine WL.v (Runs.load1 Try.underlying3 rfl rfl (h7.ocell (i := 0) rfl rfl)) rfl ?_
    refine WL.gon rfl rfl rfl ?_
    refine WL.v (Runs.boolT (c := true) (Runs.eql rfl rfl) (decide_eq_true p1)) rfl ?_
    refine WL.gon rfl rfl rfl ?_
    refine WL.v (Runs.pick rfl rfl rfl) rfl ?_
    refine WL.v (Runs.pick rfl rfl rfl) rfl ?_
    refine WL.nil (WN.thn ?_)
    refine WC.condT rfl (rfl) ?_
    refine WC.seq (WC.reg ?_)
    refine WL.v (Runs.build (vs := []) (cells := #[.bool false, Vi 0, Vi 0, Vi 0, Vi 0, Vi 0, .slice none 0 0, .bool false, Vi 0, Vi 0, Vi 0, Vi 0, Vi 0, Vi 0, Vi 0, .string ⟨#[]⟩, .bool false, .bool false, .bool false]) rfl (by kernel_rfl)) rfl ?_
    refine WL.v (Runs.move rfl) rfl ?_
    refine WL.v (Runs.loadAll h7 3 rfl Try.underlying27 rfl inf27 rfl rfl) rfl ?_
    refine WL.v (Runs.fld fld76_2 rfl) rfl ?_
    refine WL.v (Runs.intT (n := 1) (Runs.load1 Try.underlying3 rfl rfl (h7.ocell (i := 0) rfl rfl)) p1) rfl ?_
    refine WL.call can48 rfl rfl ((show Calls _ _ #[.agg (acv none 0 A0), _, _, _, _] _ _ from qanswer_c _ id (m := m) (a := A0) 1 1 h7)) ?_
    rintro _ w12 ⟨rfl, h12⟩
    refine ⟨_, rfl, ?_⟩
    refine WL.storeAll h12 1 rfl rfl rfl inf49 rfl rfl rfl (Free.zero _) ?_
    intro  w13 h13
    try simp only [lz, ls, ez, es'] at h13
    refine WL.nil (WN.thn (WC.ret ?_))
    have hv : prologA id z m f.cd = anM id m A0 1 1 := by unfold prologA; rw [if_neg (show ¬ upB z m = true from hj_f (fun hh => by rw [p1] at hh; exact absurd hh.2 (by decide))), if_pos (hj_t p0 p1)]
    refine retA rfl (ResOk.blk h13 1 rfl Try.underlying49 rfl inf49 rfl rfl) ⟨F, none, 0, Le.refl F, by rw [hv] <;> rfl, by rw [hv]; exact .inl rfl, (((((h13.drop 0).drop 0).drop 0).drop 0).drop 0)⟩
  · skip
    refine WC.reg ?_
    refine WL.v (Runs.boolT (c := true) (Runs.move rfl) p0) rfl ?_
    refine WL.v (Runs.move rfl) rfl ?_
    refine WL.gon rfl rfl rfl ?_
    refine WL.v (Runs.fld fld76_2 rfl) rfl ?_
    refine WL.gon rfl rfl rfl ?_
    refine WL.v (Runs.load1 Try.underlying3 rfl rfl (h7.ocell (i := 0) rfl rfl)) rfl ?_
    refine WL.gon rfl rfl rfl ?_
    refine WL.v (Runs.boolT (c := false) (Runs.eql rfl rfl) (decide_eq_false p1)) rfl ?_
    refine WL.v (Runs.pick rfl rfl rfl) rfl ?_
    refine WL.nil (WN.thn ?_)
    refine WC.condF rfl (rfl) ?_
    refine WC.skip (WN.thn (WC.seq (WC.seq (WC.reg ?_))))
    refine WL.v (Runs.boolT (c := true) (Runs.move rfl) p0) rfl ?_
    refine WL.v (Runs.move rfl) rfl ?_
    refine WL.gon rfl rfl rfl ?_
    refine WL.v (Runs.fld fld76_2 rfl) rfl ?_
    refine WL.gon rfl rfl rfl ?_
    refine WL.v (Runs.load1 Try.underlying3 rfl rfl (h7.ocell (i := 0) rfl rfl)) rfl ?_
    refine WL.gon rfl rfl rfl ?_
    refine WL.v (Runs.boolT (c := false) (Runs.eql rfl rfl) (decide_eq_false p2)) rfl ?_
    refine WL.gon rfl rfl rfl ?_
    refine WL.v (Runs.move rfl) rfl ?_
    refine WL.gon rfl rfl rfl ?_
    refine WL.v (Runs.fld fld76_2 rfl) rfl ?_
    refine WL.gon rfl rfl rfl ?_
    refine WL.v (Runs.load1 Try.underlying3 rfl rfl (h7.ocell (i := 0) rfl rfl)) rfl ?_
    refine WL.gon rfl rfl rfl ?_
    refine WL.v (Runs.boolT (c := false) (Runs.eql rfl rfl) (decide_eq_false p3)) rfl ?_
    refine WL.gon rfl rfl rfl ?_
    refine WL.v (Runs.pick rfl rfl rfl) rfl ?_
    refine WL.v (Runs.pick rfl rfl rfl) rfl ?_
    refine WL.nil (WN.thn ?_)
    refine WC.condF rfl (rfl) ?_
    refine WC.skip (WN.thn (WC.seq (WC.seq (WC.reg ?_))))
    refine WL.v (Runs.boolT (c := true) (Runs.move rfl) p0) rfl ?_
    refine WL.v (Runs.move rfl) rfl ?_
    refine WL.goff rfl rfl rfl rfl ?_
    refine WL.goff rfl rfl rfl rfl ?_
    refine WL.goff rfl rfl rfl rfl ?_
    refine WL.v (Runs.pick rfl rfl rfl) rfl ?_
    refine WL.nil (WN.thn ?_)
    refine WC.condT rfl (rfl) ?_
    refine WC.seq (WC.reg ?_)
    refine WL.v (Runs.build (vs := []) (cells := #[.bool false, Vi 0, Vi 0, Vi 0, Vi 0, Vi 0, .slice none 0 0, .bool false, Vi 0, Vi 0, Vi 0, Vi 0, Vi 0, Vi 0, Vi 0, .string ⟨#[]⟩, .bool false, .bool false, .bool false]) rfl (by kernel_rfl)) rfl ?_
    refine WL.storeAll h7 1 rfl rfl rfl inf49 rfl rfl rfl (Free.zero _) ?_
    intro  w14 h14
    try simp only [lz, ls, ez, es'] at h14
    refine WL.nil (WN.thn (WC.ret ?_))
    have hv : prologA id z m f.cd = A0 := by unfold prologA; rw [if_neg (show ¬ upB z m = true from hj_f (fun hh => p2 hh.2)), if_neg (hj_f (fun hh => p3 hh.2)), if_neg (hj_f (fun hh => p1 hh.2)), if_pos (by rw [p0]; rfl)]
    refine retA rfl (ResOk.blk h14 1 rfl Try.underlying49 rfl inf49 rfl rfl) ⟨F, none, 0, Le.refl F, by rw [hv] <;> rfl, by rw [hv]; exact .inl rfl, (((((h14.drop 0).drop 0).drop 0).drop 0).drop 0)⟩
  · skip
    refine WC.reg ?_
    refine WL.v (Runs.boolT (c := false) (Runs.move rfl) (Bool.eq_false_iff.2 p0)) rfl ?_
    refine WL.v (Runs.move rfl) rfl ?_
    refine WL.goff rfl rfl rfl rfl ?_
    refine WL.goff rfl rfl rfl rfl ?_
    refine WL.goff rfl rfl rfl rfl ?_
    refine WL.v (Runs.pick rfl rfl rfl) rfl ?_
    refine WL.nil (WN.thn ?_)
    refine WC.condF rfl (rfl) ?_
    refine WC.skip (WN.thn (WC.seq (WC.seq (WC.reg ?_))))
    refine WL.v (Runs.boolT (c := false) (Runs.move rfl) (Bool.eq_false_iff.2 p0)) rfl ?_
    refine WL.v (Runs.move rfl) rfl ?_
    refine WL.goff rfl rfl rfl rfl ?_
    refine WL.goff rfl rfl rfl rfl ?_
    refine WL.goff rfl rfl rfl rfl ?_
    refine WL.goff rfl rfl rfl rfl ?_
    refine WL.goffU rfl rfl rfl ?_
    refine WL.goffU rfl rfl rfl ?_
    refine WL.goffU rfl rfl rfl ?_
    refine WL.goff rfl rfl rfl rfl ?_
    refine WL.v (Runs.pick rfl rfl rfl) rfl ?_
    refine WL.nil (WN.thn ?_)
    refine WC.condF rfl (rfl) ?_
    refine WC.skip (WN.thn (WC.seq (WC.seq (WC.reg ?_))))
    refine WL.v (Runs.boolT (c := false) (Runs.move rfl) (Bool.eq_false_iff.2 p0)) rfl ?_
    refine WL.v (Runs.move rfl) rfl ?_
    refine WL.gon rfl rfl rfl ?_
    refine WL.v (Runs.loadAll h7 4 rfl Try.underlying25 rfl inf25 rfl rfl) rfl ?_
    refine WL.gon rfl rfl rfl ?_
    refine WL.v (Runs.loadAll h7 3 rfl Try.underlying27 rfl inf27 rfl rfl) rfl ?_
    refine WL.gon rfl rfl rfl ?_
    refine WL.call can60 rfl rfl (qnwer_c _ hz hR h7) ?_
    rintro _ w15 ⟨rfl, h15⟩
    refine ⟨_, rfl, ?_⟩
    refine WL.v (Runs.pick rfl rfl rfl) rfl ?_
    refine WL.nil (WN.thn ?_)
    refine WC.cond rfl (fun c16 => ?_) (fun c16 => ?_)
    · try simp only [dt, df, nt, nf, ba, il, ie] at c16
      first
      | (exfalso; omega)
      | skip
        refine WC.seq (WC.reg ?_)
        refine WL.v (Runs.build (vs := []) (cells := #[.bool false, Vi 0, Vi 0, Vi 0, Vi 0, Vi 0, .slice none 0 0, .bool false, Vi 0, Vi 0, Vi 0, Vi 0, Vi 0, Vi 0, Vi 0, .string ⟨#[]⟩, .bool false, .bool false, .bool false]) rfl (by kernel_rfl)) rfl ?_
        refine WL.storeAll h15 1 rfl rfl rfl inf49 rfl rfl rfl (Free.zero _) ?_
        intro  w17 h17
        try simp only [lz, ls, ez, es'] at h17
        refine WL.nil (WN.thn (WC.ret ?_))
        have hv : prologA id z m f.cd = A0 := by unfold prologA; rw [if_neg (show ¬ upB z m = true from hj_f (fun hh => p0 hh.1)), if_neg (hj_f (fun hh => p0 hh.1)), if_neg (hj_f (fun hh => p0 hh.1)), if_pos (by rw [c16]; simp)]
        refine retA rfl (ResOk.blk h17 1 rfl Try.underlying49 rfl inf49 rfl rfl) ⟨F, none, 0, Le.refl F, by rw [hv] <;> rfl, by rw [hv]; exact .inl rfl, (((((h17.drop 0).drop 0).drop 0).drop 0).drop 0)⟩
    · try simp only [dt, df, nt, nf, ba, il, ie] at c16
      first
      | (exfalso; omega)
      | skip
        refine WC.skip (WN.thn (WC.seq (WC.seq (WC.reg ?_))))
        refine WL.v (Runs.fld fld25_2 rfl) rfl ?_
        refine WL.v (Runs.load1 Try.underlying4 rfl rfl (h15.ocell (i := 4) rfl rfl)) rfl ?_
        refine WL.nil (WN.thn ?_)
        refine WC.cond rfl (fun c18 => ?_) (fun c18 => ?_)
        · try simp only [dt, df, nt, nf, ba, il, ie] at c18
          first
          | (exfalso; omega)
          | skip
            refine WC.seq (WC.reg ?_)
            refine WL.v (Runs.build (vs := []) (cells := #[.bool false, Vi 0, Vi 0, Vi 0, Vi 0, Vi 0, .slice none 0 0, .bool false, Vi 0, Vi 0, Vi 0, Vi 0, Vi 0, Vi 0, Vi 0, .string ⟨#[]⟩, .bool false, .bool false, .bool false]) rfl (by kernel_rfl)) rfl ?_
            refine WL.v (Runs.move rfl) rfl ?_
            refine WL.v (Runs.loadAll h15 3 rfl Try.underlying27 rfl inf27 rfl rfl) rfl ?_
            refine WL.call can48 rfl rfl ((show Calls _ _ #[.agg (acv none 0 A0), _, _, _, _] _ _ from qanswer_c _ id (m := m) (a := A0) 1 1 h15)) ?_
            rintro _ w19 ⟨rfl, h19⟩
            refine ⟨_, rfl, ?_⟩
            refine WL.storeAll h19 1 rfl rfl rfl inf49 rfl rfl rfl (Free.zero _) ?_
            intro  w20 h20
            try simp only [lz, ls, ez, es'] at h20
            refine WL.nil (WN.thn (WC.ret ?_))
            have hv : prologA id z m f.cd = anM id m A0 1 1 := by unfold prologA; rw [if_neg (show ¬ upB z m = true from hj_f (fun hh => p0 hh.1)), if_neg (hj_f (fun hh => p0 hh.1)), if_neg (hj_f (fun hh => p0 hh.1)), if_neg (or_f (Bool.eq_false_iff.2 p0) c16), if_pos c18]
            refine retA rfl (ResOk.blk h20 1 rfl Try.underlying49 rfl inf49 rfl rfl) ⟨F, none, 0, Le.refl F, by rw [hv] <;> rfl, by rw [hv]; exact .inl rfl, (((((h20.drop 0).drop 0).drop 0).drop 0).drop 0)⟩
        · try simp only [dt, df, nt, nf, ba, il, ie] at c18
          first
          | (exfalso; omega)
          | skip
            refine WC.skip (WN.thn (WC.seq ?_))
            refine WC.eregK h15 h15 (fun s_ => ([11] : List Nat).any (Nat.beq s_)) mixed (by kernel_rfl) (fun hx => ?_)
            intro w21 h21
            refine WE.p0 hx 0 (by rfl) (fun w_ => Runs.build (vs := []) (cells := #[.bool false, Vi 0, Vi 0, Vi 0, Vi 0, Vi 0, .slice none 0 0, .bool false, Vi 0, Vi 0, Vi 0, Vi 0, Vi 0, Vi 0, Vi 0, .string ⟨#[]⟩, .bool false, .bool false, .bool false]) rfl (by kernel_rfl)) rfl ?_
            refine WE.p0 hx 2 (by rfl) (fun w_ => Runs.fld fld31_2 rfl) rfl ?_
            refine WE.p0 hx 5 (by rfl) (fun w_ => Runs.move rfl) rfl ?_
            refine WE.p0 hx 7 (by rfl) (fun w_ => Runs.fld fld31_2 rfl) rfl ?_
            refine WE.v0 12 hx 1 (by rfl) (fun w_ hE_ => Runs.loadAll hE_ 3 rfl Try.underlying27 rfl inf27 rfl rfl) rfl ?_
            refine WE.v0 12 hx 3 (by rfl) (fun w_ hE_ => Runs.load1 Try.underlying3 rfl rfl (hE_.ocell (i := 2) rfl rfl)) rfl ?_
            refine WE.v0 12 hx 6 (by rfl) (fun w_ hE_ => Runs.loadAll hE_ 3 rfl Try.underlying27 rfl inf27 rfl rfl) rfl ?_
            refine WE.v0 12 hx 8 (by rfl) (fun w_ hE_ => Runs.load1 Try.underlying3 rfl rfl (hE_.ocell (i := 2) rfl rfl)) rfl ?_
            refine WE.p0 hx 9 (by rfl) (fun w_ => Runs.min rfl rfl) rfl ?_
            refine WE.op (.inr h21) (i := 4) (by rfl) (by kernel_rfl) ?_
            refine WL.call can49 rfl rfl ((show Calls _ _ #[.agg (acv none 0 A0), _, _, _] _ _ from qwrite_c _ (m := m) (a := A0) 0 f.cd h21)) ?_
            rintro _ w22 ⟨rfl, h22⟩
            refine ⟨_, rfl, ?_⟩
            refine WL.nil (WE.next ?_)
            refine WE.op (.inr h22) (i := 10) (by rfl) (by kernel_rfl) ?_
            refine WL.call can48 rfl rfl ((show Calls _ _ #[.agg (acv none 0 (wrM m 0 f.cd)), _, _, _, _] _ _ from qanswer_c _ id (m := m) (a := (wrM m 0 f.cd)) 1 (mn1 f.cd) h22)) ?_
            rintro _ w23 ⟨rfl, h23⟩
            refine ⟨_, rfl, ?_⟩
            refine WL.nil (WE.next ?_)
            refine WE.op (.inr h23) (i := 11) (by rfl) (by kernel_rfl) ?_
            refine WL.storeAll h23 1 rfl rfl rfl inf49 rfl rfl rfl (Free.zero _) ?_
            intro  w24 h24
            try simp only [lz, ls, ez, es'] at h24
            refine WL.nil (WE.next ?_)
            refine WE.fin (.inl ⟨11, rfl, by kernel_rfl⟩) (by kernel_rfl) ?_
            refine WN.thn (WC.ret ?_)
            have hv : prologA id z m f.cd = anM id m (wrM m 0 f.cd) 1 (mn1 f.cd) := by unfold prologA; rw [if_neg (show ¬ upB z m = true from hj_f (fun hh => p0 hh.1)), if_neg (hj_f (fun hh => p0 hh.1)), if_neg (hj_f (fun hh => p0 hh.1)), if_neg (or_f (Bool.eq_false_iff.2 p0) c16), if_neg (by rw [c18]; decide)]
            refine retA rfl (ResOk.blk h24 1 rfl Try.underlying49 rfl inf49 rfl rfl) ⟨F, none, 0, Le.refl F, by rw [hv] <;> rfl, by rw [hv]; exact .inl rfl, (((((h24.drop 0).drop 0).drop 0).drop 0).drop 0)⟩
set_option maxRecDepth 100000 in
set_option maxHeartbeats 8000000 in
theorem qlaunch_c {W : World} {F : Snap} {cs : List Res} (w : World) {AJ AS : Option Addr} {cj cS : Nat} {z : Z} {Ap : Option Addr} {cp : Nat} {f : Fc} {m : M} (id : Int) (hf : RdS (Kd.one Vi) F Ap f.ps) (hfn : f.ps.length ≤ 100000) (hz : few z) (hR : ZR F AJ AS z) (h : St W F cs w) : Calls Try.prog 35 #[Vi id, .agg #[.slice AJ z.js.length cj, .slice AS z.ss.length cS, .bool z.dr], .agg #[Vi m.kd, Vi m.fr, Vi m.to, Vi m.jb, Vi m.ep, Vi m.st, Vi m.ar, .string m.tx], .agg #[Vi f.cr, .slice Ap f.ps.length cp, Vi f.cd, .bool f.bz]] w fun e w' => GivesA W F cs (launchA id z m f) e w'  := by
  refine enter (P := Try.prog) (args := [Vi id, .agg #[.slice AJ z.js.length cj, .slice AS z.ss.length cS, .bool z.dr], .agg #[Vi m.kd, Vi m.fr, Vi m.to, Vi m.jb, Vi m.ep, Vi m.st, Vi m.ar, .string m.tx], .agg #[Vi f.cr, .slice Ap f.ps.length cp, Vi f.cd, .bool f.bz]]) Try.func35 rfl rfl rfl ?_
  have hzj := hz.j
  have hzs := hz.s
  refine WC.seq (WC.reg ?_)
  refine WL.box rfl h rfl ?_
  intro b5 w1 h1
  refine WL.box rfl h1 rfl ?_
  intro b6 w2 h2
  refine WL.box rfl h2 rfl ?_
  intro b7 w3 h3
  refine WL.alloc' rfl h3 inf49 ?_
  intro b8 w4 h4
  refine WL.nil (WN.thn (WC.seq (WC.reg ?_)))
  refine WL.v (Runs.loadAll h4 3 rfl Try.underlying25 rfl inf25 rfl rfl) rfl ?_
  refine WL.v (Runs.fld fld27_3 rfl) rfl ?_
  refine WL.v (Runs.load1 Try.underlying3 rfl rfl (h4.ocell (i := 2) rfl rfl)) rfl ?_
  refine WL.v (Runs.fld fld27_4 rfl) rfl ?_
  refine WL.v (Runs.load1 Try.underlying3 rfl rfl (h4.ocell (i := 2) rfl rfl)) rfl ?_
  refine WL.v (Runs.fld fld27_5 rfl) rfl ?_
  refine WL.v (Runs.load1 Try.underlying3 rfl rfl (h4.ocell (i := 2) rfl rfl)) rfl ?_
  refine WL.call can40 rfl rfl (qstepOf_c _ m.jb m.ep m.st h4 hR.s (by omega)) ?_
  rintro _ w5 ⟨⟨A1, c1, rfl, hps⟩, h5⟩
  refine ⟨_, rfl, ?_⟩
  refine WL.v (Runs.move rfl) rfl ?_
  refine WL.v (Runs.extract rfl rfl) rfl ?_
  refine WL.v (Runs.extract rfl rfl) rfl ?_
  refine WL.alloc' rfl h5 inf79 ?_
  intro b9 w6 h6
  refine WL.storeAll h6 0 rfl rfl rfl inf79 rfl rfl rfl (Free.zero _) ?_
  intro  w7 h7
  try simp only [lz, ls, ez, es'] at h7
  refine WL.v (Runs.assign rfl) rfl ?_
  refine WL.nil (WN.thn (WC.seq (WC.seq ?_)))
  rcases hasCase (hasS z m = true) (phS z m = 2) with ⟨p0, p1⟩ | ⟨p0, p1⟩ | p0
  · skip
    refine WC.reg ?_
    refine WL.v (Runs.boolT (c := true) (Runs.move rfl) p0) rfl ?_
    refine WL.v (Runs.move rfl) rfl ?_
    refine WL.gon rfl rfl rfl ?_
    refine WL.v (Runs.fld fld79_3 rfl) rfl ?_
    refine WL.gon rfl rfl rfl ?_
    refine WL.v (Runs.load1 Try.underlying3 rfl rfl (h7.ocell (i := 0) rfl rfl)) rfl ?_
    refine WL.gon rfl rfl rfl ?_
    refine WL.v (Runs.boolT (c := true) (Runs.eql rfl rfl) (decide_eq_true p1)) rfl ?_
    refine WL.v (Runs.pick rfl rfl rfl) rfl ?_
    refine WL.nil (WN.thn ?_)
    refine WC.condT rfl (rfl) ?_
    refine WC.seq (WC.reg ?_)
    refine WL.v (Runs.build (vs := []) (cells := #[.bool false, Vi 0, Vi 0, Vi 0, Vi 0, Vi 0, .slice none 0 0, .bool false, Vi 0, Vi 0, Vi 0, Vi 0, Vi 0, Vi 0, Vi 0, .string ⟨#[]⟩, .bool false, .bool false, .bool false]) rfl (by kernel_rfl)) rfl ?_
    refine WL.v (Runs.move rfl) rfl ?_
    refine WL.v (Runs.loadAll h7 3 rfl Try.underlying27 rfl inf27 rfl rfl) rfl ?_
    refine WL.call can48 rfl rfl ((show Calls _ _ #[.agg (acv none 0 A0), _, _, _, _] _ _ from qanswer_c _ id (m := m) (a := A0) 3 0 h7)) ?_
    rintro _ w8 ⟨rfl, h8⟩
    refine ⟨_, rfl, ?_⟩
    refine WL.storeAll h8 1 rfl rfl rfl inf49 rfl rfl rfl (Free.zero _) ?_
    intro  w9 h9
    try simp only [lz, ls, ez, es'] at h9
    refine WL.nil (WN.thn (WC.ret ?_))
    have hv : launchA id z m f = anM id m A0 3 0 := by unfold launchA; rw [if_pos (show phB z m 2 = true from by unfold phB; rw [p0, decide_eq_true p1]; rfl)]
    refine retA rfl (ResOk.blk h9 1 rfl Try.underlying49 rfl inf49 rfl rfl) ⟨F, none, 0, Le.refl F, by rw [hv] <;> rfl, by rw [hv]; exact .inl rfl, (((((h9.drop 0).drop 0).drop 0).drop 0).drop 0)⟩
  · skip
    refine WC.reg ?_
    refine WL.v (Runs.boolT (c := true) (Runs.move rfl) p0) rfl ?_
    refine WL.v (Runs.move rfl) rfl ?_
    refine WL.gon rfl rfl rfl ?_
    refine WL.v (Runs.fld fld79_3 rfl) rfl ?_
    refine WL.gon rfl rfl rfl ?_
    refine WL.v (Runs.load1 Try.underlying3 rfl rfl (h7.ocell (i := 0) rfl rfl)) rfl ?_
    refine WL.gon rfl rfl rfl ?_
    refine WL.v (Runs.boolT (c := false) (Runs.eql rfl rfl) (decide_eq_false p1)) rfl ?_
    refine WL.v (Runs.pick rfl rfl rfl) rfl ?_
    refine WL.nil (WN.thn ?_)
    refine WC.condF rfl (rfl) ?_
    refine WC.skip (WN.thn (WC.seq (WC.seq (WC.reg ?_))))
    refine WL.v (Runs.boolT (c := true) (Runs.move rfl) p0) rfl ?_
    refine WL.nil (WN.thn ?_)
    refine WC.condT rfl (rfl) ?_
    refine WC.seq (WC.reg ?_)
    refine WL.v (Runs.build (vs := []) (cells := #[.bool false, Vi 0, Vi 0, Vi 0, Vi 0, Vi 0, .slice none 0 0, .bool false, Vi 0, Vi 0, Vi 0, Vi 0, Vi 0, Vi 0, Vi 0, .string ⟨#[]⟩, .bool false, .bool false, .bool false]) rfl (by kernel_rfl)) rfl ?_
    refine WL.v (Runs.move rfl) rfl ?_
    refine WL.v (Runs.loadAll h7 3 rfl Try.underlying27 rfl inf27 rfl rfl) rfl ?_
    refine WL.call can48 rfl rfl ((show Calls _ _ #[.agg (acv none 0 A0), _, _, _, _] _ _ from qanswer_c _ id (m := m) (a := A0) 3 1 h7)) ?_
    rintro _ w10 ⟨rfl, h10⟩
    refine ⟨_, rfl, ?_⟩
    refine WL.storeAll h10 1 rfl rfl rfl inf49 rfl rfl rfl (Free.zero _) ?_
    intro  w11 h11
    try simp only [lz, ls, ez, es'] at h11
    refine WL.nil (WN.thn (WC.ret ?_))
    have hv : launchA id z m f = anM id m A0 3 1 := by unfold launchA; rw [if_neg (show ¬ phB z m 2 = true from by unfold phB; rw [p0, decide_eq_false p1] <;> simp), if_pos p0]
    refine retA rfl (ResOk.blk h11 1 rfl Try.underlying49 rfl inf49 rfl rfl) ⟨F, none, 0, Le.refl F, by rw [hv] <;> rfl, by rw [hv]; exact .inl rfl, (((((h11.drop 0).drop 0).drop 0).drop 0).drop 0)⟩
  · replace p0 := Bool.eq_false_iff.2 p0
    refine WC.reg ?_
    refine WL.v (Runs.boolT (c := false) (Runs.move rfl) p0) rfl ?_
    refine WL.v (Runs.move rfl) rfl ?_
    refine WL.goff rfl rfl rfl rfl ?_
    refine WL.goff rfl rfl rfl rfl ?_
    refine WL.goff rfl rfl rfl rfl ?_
    refine WL.v (Runs.pick rfl rfl rfl) rfl ?_
    refine WL.nil (WN.thn ?_)
    refine WC.condF rfl (rfl) ?_
    refine WC.skip (WN.thn (WC.seq (WC.seq (WC.reg ?_))))
    refine WL.v (Runs.boolT (c := false) (Runs.move rfl) p0) rfl ?_
    refine WL.nil (WN.thn ?_)
    refine WC.condF rfl (rfl) ?_
    refine WC.skip (WN.thn (WC.seq (WC.seq ?_)))
    rcases three (upB z m = true) (f.cr = 0) (¬ f.ps.length = 0) with g0 | ⟨g0, g1⟩ | ⟨g0, g1, g2⟩ | ⟨g0, g1, g2⟩
    · skip
      refine WC.reg ?_
      refine WL.v (Runs.loadAll h7 4 rfl Try.underlying25 rfl inf25 rfl rfl) rfl ?_
      refine WL.v (Runs.loadAll h7 3 rfl Try.underlying27 rfl inf27 rfl rfl) rfl ?_
      refine WL.call can41 rfl rfl (qup_c _ hz hR h7) ?_
      rintro _ w12 ⟨rfl, h12⟩
      refine ⟨_, rfl, ?_⟩
      refine WL.v (Runs.not rfl) rfl ?_
      refine WL.v (Runs.boolT (c := true) (Runs.move rfl) (by rw [Bool.eq_false_iff.2 g0]; rfl)) rfl ?_
      refine WL.goff rfl rfl rfl rfl ?_
      refine WL.goff rfl rfl rfl rfl ?_
      refine WL.goff rfl rfl rfl rfl ?_
      refine WL.v (Runs.pick rfl rfl rfl) rfl ?_
      refine WL.v (Runs.move rfl) rfl ?_
      refine WL.goff rfl rfl rfl rfl ?_
      refine WL.goff rfl rfl rfl rfl ?_
      refine WL.goff rfl rfl rfl rfl ?_
      refine WL.goff rfl rfl rfl rfl ?_
      refine WL.v (Runs.pick rfl rfl rfl) rfl ?_
      refine WL.nil (WN.thn ?_)
      refine WC.condT rfl (rfl) ?_
      refine WC.seq (WC.reg ?_)
      refine WL.v (Runs.build (vs := []) (cells := #[.bool false, Vi 0, Vi 0, Vi 0, Vi 0, Vi 0, .slice none 0 0, .bool false, Vi 0, Vi 0, Vi 0, Vi 0, Vi 0, Vi 0, Vi 0, .string ⟨#[]⟩, .bool false, .bool false, .bool false]) rfl (by kernel_rfl)) rfl ?_
      refine WL.v (Runs.move rfl) rfl ?_
      refine WL.v (Runs.loadAll h12 3 rfl Try.underlying27 rfl inf27 rfl rfl) rfl ?_
      refine WL.call can48 rfl rfl ((show Calls _ _ #[.agg (acv none 0 A0), _, _, _, _] _ _ from qanswer_c _ id (m := m) (a := A0) 3 0 h12)) ?_
      rintro _ w13 ⟨rfl, h13⟩
      refine ⟨_, rfl, ?_⟩
      refine WL.storeAll h13 1 rfl rfl rfl inf49 rfl rfl rfl (Free.zero _) ?_
      intro  w14 h14
      try simp only [lz, ls, ez, es'] at h14
      refine WL.nil (WN.thn (WC.ret ?_))
      have hv : launchA id z m f = anM id m A0 3 0 := by unfold launchA; rw [if_neg (show ¬ phB z m 2 = true from by unfold phB; rw [p0] <;> simp), if_neg (by rw [p0]; decide), if_pos (.inl (Bool.eq_false_iff.2 g0))]
      refine retA rfl (ResOk.blk h14 1 rfl Try.underlying49 rfl inf49 rfl rfl) ⟨F, none, 0, Le.refl F, by rw [hv] <;> rfl, by rw [hv]; exact .inl rfl, (((((h14.drop 0).drop 0).drop 0).drop 0).drop 0)⟩
    · skip
      refine WC.reg ?_
      refine WL.v (Runs.loadAll h7 4 rfl Try.underlying25 rfl inf25 rfl rfl) rfl ?_
      refine WL.v (Runs.loadAll h7 3 rfl Try.underlying27 rfl inf27 rfl rfl) rfl ?_
      refine WL.call can41 rfl rfl (qup_c _ hz hR h7) ?_
      rintro _ w15 ⟨rfl, h15⟩
      refine ⟨_, rfl, ?_⟩
      refine WL.v (Runs.not rfl) rfl ?_
      refine WL.v (Runs.boolT (c := false) (Runs.move rfl) (by rw [g0]; rfl)) rfl ?_
      refine WL.gon rfl rfl rfl ?_
      refine WL.v (Runs.fld fld31_0 rfl) rfl ?_
      refine WL.gon rfl rfl rfl ?_
      refine WL.v (Runs.load1 Try.underlying28 rfl rfl (h15.ocell (i := 2) rfl rfl)) rfl ?_
      refine WL.gon rfl rfl rfl ?_
      refine WL.v (Runs.boolT (c := true) (Runs.neq rfl rfl) (by rw [decide_eq_false g1]; rfl)) rfl ?_
      refine WL.v (Runs.pick rfl rfl rfl) rfl ?_
      refine WL.v (Runs.move rfl) rfl ?_
      refine WL.goff rfl rfl rfl rfl ?_
      refine WL.goff rfl rfl rfl rfl ?_
      refine WL.goff rfl rfl rfl rfl ?_
      refine WL.goff rfl rfl rfl rfl ?_
      refine WL.v (Runs.pick rfl rfl rfl) rfl ?_
      refine WL.nil (WN.thn ?_)
      refine WC.condT rfl (rfl) ?_
      refine WC.seq (WC.reg ?_)
      refine WL.v (Runs.build (vs := []) (cells := #[.bool false, Vi 0, Vi 0, Vi 0, Vi 0, Vi 0, .slice none 0 0, .bool false, Vi 0, Vi 0, Vi 0, Vi 0, Vi 0, Vi 0, Vi 0, .string ⟨#[]⟩, .bool false, .bool false, .bool false]) rfl (by kernel_rfl)) rfl ?_
      refine WL.v (Runs.move rfl) rfl ?_
      refine WL.v (Runs.loadAll h15 3 rfl Try.underlying27 rfl inf27 rfl rfl) rfl ?_
      refine WL.call can48 rfl rfl ((show Calls _ _ #[.agg (acv none 0 A0), _, _, _, _] _ _ from qanswer_c _ id (m := m) (a := A0) 3 0 h15)) ?_
      rintro _ w16 ⟨rfl, h16⟩
      refine ⟨_, rfl, ?_⟩
      refine WL.storeAll h16 1 rfl rfl rfl inf49 rfl rfl rfl (Free.zero _) ?_
      intro  w17 h17
      try simp only [lz, ls, ez, es'] at h17
      refine WL.nil (WN.thn (WC.ret ?_))
      have hv : launchA id z m f = anM id m A0 3 0 := by unfold launchA; rw [if_neg (show ¬ phB z m 2 = true from by unfold phB; rw [p0] <;> simp), if_neg (by rw [p0]; decide), if_pos (.inr (.inl g1))]
      refine retA rfl (ResOk.blk h17 1 rfl Try.underlying49 rfl inf49 rfl rfl) ⟨F, none, 0, Le.refl F, by rw [hv] <;> rfl, by rw [hv]; exact .inl rfl, (((((h17.drop 0).drop 0).drop 0).drop 0).drop 0)⟩
    · skip
      refine WC.reg ?_
      refine WL.v (Runs.loadAll h7 4 rfl Try.underlying25 rfl inf25 rfl rfl) rfl ?_
      refine WL.v (Runs.loadAll h7 3 rfl Try.underlying27 rfl inf27 rfl rfl) rfl ?_
      refine WL.call can41 rfl rfl (qup_c _ hz hR h7) ?_
      rintro _ w18 ⟨rfl, h18⟩
      refine ⟨_, rfl, ?_⟩
      refine WL.v (Runs.not rfl) rfl ?_
      refine WL.v (Runs.boolT (c := false) (Runs.move rfl) (by rw [g0]; rfl)) rfl ?_
      refine WL.gon rfl rfl rfl ?_
      refine WL.v (Runs.fld fld31_0 rfl) rfl ?_
      refine WL.gon rfl rfl rfl ?_
      refine WL.v (Runs.load1 Try.underlying28 rfl rfl (h18.ocell (i := 2) rfl rfl)) rfl ?_
      refine WL.gon rfl rfl rfl ?_
      refine WL.v (Runs.boolT (c := false) (Runs.neq rfl rfl) (by rw [decide_eq_true g1]; rfl)) rfl ?_
      refine WL.v (Runs.pick rfl rfl rfl) rfl ?_
      refine WL.v (Runs.move rfl) rfl ?_
      refine WL.gon rfl rfl rfl ?_
      refine WL.v (Runs.fld fld31_1 rfl) rfl ?_
      refine WL.gon rfl rfl rfl ?_
      refine WL.v (Runs.load1 Try.underlying29 rfl rfl (h18.ocell (i := 2) rfl rfl)) rfl ?_
      refine WL.gon rfl rfl rfl ?_
      refine WL.v (Runs.llen Try.underlying29 rfl rfl) rfl ?_
      refine WL.gon rfl rfl rfl ?_
      refine WL.v (Runs.boolT (c := true) (Runs.eql rfl rfl) (by rw [decide_eq_true_eq]; omega)) rfl ?_
      refine WL.v (Runs.pick rfl rfl rfl) rfl ?_
      refine WL.nil (WN.thn ?_)
      refine WC.condT rfl (rfl) ?_
      refine WC.seq (WC.reg ?_)
      refine WL.v (Runs.build (vs := []) (cells := #[.bool false, Vi 0, Vi 0, Vi 0, Vi 0, Vi 0, .slice none 0 0, .bool false, Vi 0, Vi 0, Vi 0, Vi 0, Vi 0, Vi 0, Vi 0, .string ⟨#[]⟩, .bool false, .bool false, .bool false]) rfl (by kernel_rfl)) rfl ?_
      refine WL.v (Runs.move rfl) rfl ?_
      refine WL.v (Runs.loadAll h18 3 rfl Try.underlying27 rfl inf27 rfl rfl) rfl ?_
      refine WL.call can48 rfl rfl ((show Calls _ _ #[.agg (acv none 0 A0), _, _, _, _] _ _ from qanswer_c _ id (m := m) (a := A0) 3 0 h18)) ?_
      rintro _ w19 ⟨rfl, h19⟩
      refine ⟨_, rfl, ?_⟩
      refine WL.storeAll h19 1 rfl rfl rfl inf49 rfl rfl rfl (Free.zero _) ?_
      intro  w20 h20
      try simp only [lz, ls, ez, es'] at h20
      refine WL.nil (WN.thn (WC.ret ?_))
      have hv : launchA id z m f = anM id m A0 3 0 := by unfold launchA; rw [if_neg (show ¬ phB z m 2 = true from by unfold phB; rw [p0] <;> simp), if_neg (by rw [p0]; decide), if_pos (.inr (.inr (Classical.not_not.1 g2)))]
      refine retA rfl (ResOk.blk h20 1 rfl Try.underlying49 rfl inf49 rfl rfl) ⟨F, none, 0, Le.refl F, by rw [hv] <;> rfl, by rw [hv]; exact .inl rfl, (((((h20.drop 0).drop 0).drop 0).drop 0).drop 0)⟩
    · skip
      refine WC.reg ?_
      refine WL.v (Runs.loadAll h7 4 rfl Try.underlying25 rfl inf25 rfl rfl) rfl ?_
      refine WL.v (Runs.loadAll h7 3 rfl Try.underlying27 rfl inf27 rfl rfl) rfl ?_
      refine WL.call can41 rfl rfl (qup_c _ hz hR h7) ?_
      rintro _ w21 ⟨rfl, h21⟩
      refine ⟨_, rfl, ?_⟩
      refine WL.v (Runs.not rfl) rfl ?_
      refine WL.v (Runs.boolT (c := false) (Runs.move rfl) (by rw [g0]; rfl)) rfl ?_
      refine WL.gon rfl rfl rfl ?_
      refine WL.v (Runs.fld fld31_0 rfl) rfl ?_
      refine WL.gon rfl rfl rfl ?_
      refine WL.v (Runs.load1 Try.underlying28 rfl rfl (h21.ocell (i := 2) rfl rfl)) rfl ?_
      refine WL.gon rfl rfl rfl ?_
      refine WL.v (Runs.boolT (c := false) (Runs.neq rfl rfl) (by rw [decide_eq_true g1]; rfl)) rfl ?_
      refine WL.v (Runs.pick rfl rfl rfl) rfl ?_
      refine WL.v (Runs.move rfl) rfl ?_
      refine WL.gon rfl rfl rfl ?_
      refine WL.v (Runs.fld fld31_1 rfl) rfl ?_
      refine WL.gon rfl rfl rfl ?_
      refine WL.v (Runs.load1 Try.underlying29 rfl rfl (h21.ocell (i := 2) rfl rfl)) rfl ?_
      refine WL.gon rfl rfl rfl ?_
      refine WL.v (Runs.llen Try.underlying29 rfl rfl) rfl ?_
      refine WL.gon rfl rfl rfl ?_
      refine WL.v (Runs.boolT (c := false) (Runs.eql rfl rfl) (by rw [decide_eq_false_iff_not]; omega)) rfl ?_
      refine WL.v (Runs.pick rfl rfl rfl) rfl ?_
      refine WL.nil (WN.thn ?_)
      refine WC.condF rfl (rfl) ?_
      refine WC.skip (WN.thn (WC.seq ?_))
      refine WC.eregK h21 h21 (fun s_ => ([7] : List Nat).any (Nat.beq s_)) mixed (by kernel_rfl) (fun hx => ?_)
      intro w22 h22
      refine WE.p0 hx 0 (by rfl) (fun w_ => Runs.build (vs := []) (cells := #[.bool false, Vi 0, Vi 0, Vi 0, Vi 0, Vi 0, .slice none 0 0, .bool false, Vi 0, Vi 0, Vi 0, Vi 0, Vi 0, Vi 0, Vi 0, .string ⟨#[]⟩, .bool false, .bool false, .bool false]) rfl (by kernel_rfl)) rfl ?_
      refine WE.p0 hx 3 (by rfl) (fun w_ => Runs.move rfl) rfl ?_
      refine WE.v0 12 hx 1 (by rfl) (fun w_ hE_ => Runs.loadAll hE_ 3 rfl Try.underlying27 rfl inf27 rfl rfl) rfl ?_
      refine WE.v0 12 hx 4 (by rfl) (fun w_ hE_ => Runs.loadAll hE_ 3 rfl Try.underlying27 rfl inf27 rfl rfl) rfl ?_
      refine WE.op2 (.inr h22) (i := 2) (j := 6) (by rfl) (by rfl) (by kernel_rfl) ?_ ?_
      · skip
        refine WL.call can49 rfl rfl ((show Calls _ _ #[.agg (acv none 0 A0), _, _, _] _ _ from qwrite_c _ (m := m) (a := A0) 1 0 h22)) ?_
        rintro _ w23 ⟨rfl, h23⟩
        refine ⟨_, rfl, ?_⟩
        refine WL.nil (WE.next ?_)
        refine WE.op2 (.inr h23) (i := 5) (j := 6) (by rfl) (by rfl) (by kernel_rfl) ?_ ?_
        · skip
          refine WL.call can48 rfl rfl ((show Calls _ _ #[.agg (acv none 0 (wrM m 1 0)), _, _, _, _] _ _ from qanswer_c _ id (m := m) (a := (wrM m 1 0)) 3 1 h23)) ?_
          rintro _ w24 ⟨rfl, h24⟩
          refine ⟨_, rfl, ?_⟩
          refine WL.nil (WE.next ?_)
          refine WE.op (.inr h24) (i := 6) (by rfl) (by kernel_rfl) ?_
          refine WL.alloc' rfl h24 inf49 ?_
          intro b11 w25 h25
          refine WL.nil (WE.next ?_)
          refine WE.op (.inr (h25.drop 0)) (i := 7) (by rfl) (by kernel_rfl) ?_
          refine WL.storeAll h25 0 rfl rfl rfl inf49 rfl rfl rfl (Free.zero _) ?_
          intro  w26 h26
          try simp only [lz, ls, ez, es'] at h26
          refine WL.nil (WE.next ?_)
          refine WE.fin (.inl ⟨7, rfl, by kernel_rfl⟩) (by kernel_rfl) ?_
          refine WN.thn (WC.seq ?_)
          have hNo := h26.nilRes
          
          refine WC.reg ?_
          refine WL.v (Runs.fld fld49_1 rfl) rfl ?_
          refine WL.v (Runs.fld fld37_5 rfl) rfl ?_
          refine WL.v (Runs.load1 Try.underlying29 rfl rfl (hNo.ocell (i := 1) rfl rfl)) rfl ?_
          refine WL.v (Runs.fld fld31_1 rfl) rfl ?_
          refine WL.v (Runs.load1 Try.underlying29 rfl rfl (hNo.ocell (i := 4) rfl rfl)) rfl ?_
          refine WL.app (ys := f.ps) 0 hNo rfl rfl rfl rfl Try.underlying29 Try.underlying29 (.inr ⟨_, rfl⟩) inf3 rfl (Row.nil 3 Vi) (Src.rd hf hNo rfl (fun _ => rfl)) rfl rfl (by first | omega | (simp; done) | (simp; omega) | (simp only [List.length_nil]; omega)) (by first | omega | (simp; done) | (simp; omega) | (simp only [List.length_nil]; omega)) ?_
          intro r27 v27 w28 hr27 h28
          simp only [lz, ls] at h28
          obtain ⟨A27, cap27, rfl⟩ := row_sl hr27
          refine WL.v (Runs.fld fld49_1 rfl) rfl ?_
          refine WL.v (Runs.fld fld37_5 rfl) rfl ?_
          refine WL.store' h28 1 rfl rfl rfl inf29 rfl rfl (Free.zero _) (Nat.le_of_ble_eq_true rfl) ?_
          intro  w29 h29
          try simp only [lz, ls, ez, es'] at h29
          refine WL.nil (WN.thn (WC.seq (WC.reg ?_)))
          refine WL.v (Runs.loadAll h29 1 rfl Try.underlying49 rfl inf49 rfl rfl) rfl ?_
          refine WL.storeAll h29 3 rfl rfl rfl inf49 rfl rfl rfl (Free.zero _) ?_
          intro  w30 h30
          try simp only [lz, ls, ez, es'] at h30
          refine WL.nil (WN.thn (WC.ret ?_))
          obtain ⟨G8, hG8, gf8, hS8⟩ := h30.freeze (i := 0) rfl
          have hrd8 := Row.read hr27 rfl gf8
          have hv : launchA id z m f = anM id m { wrM m 1 0 with rc := { (wrM m 1 0).rc with ls := f.ps } } 3 1 := by unfold launchA; rw [if_neg (show ¬ phB z m 2 = true from by unfold phB; rw [p0] <;> simp), if_neg (by rw [p0]; decide), if_neg (by rintro (hh | hh | hh); rw [g0] at hh; cases hh; exact hh g1; exact g2 hh)]
          refine retA rfl (ResOk.blk h30 3 rfl Try.underlying49 rfl inf49 rfl rfl) ⟨G8, A27, cap27, hG8, by rw [hv] <;> rfl, by rw [hv]; exact hrd8, ((((((hS8.drop 0).drop 0).drop 0).drop 0).drop 0).drop 0)⟩
        · skip
          refine WL.alloc' rfl h23 inf49 ?_
          intro b11 w31 h31
          refine WL.nil (WE.next ?_)
          refine WE.op (.inr (h31.drop 0)) (i := 5) (by rfl) (by kernel_rfl) ?_
          refine WL.call can48 rfl rfl ((show Calls _ _ #[.agg (acv none 0 (wrM m 1 0)), _, _, _, _] _ _ from qanswer_c _ id (m := m) (a := (wrM m 1 0)) 3 1 h31)) ?_
          rintro _ w32 ⟨rfl, h32⟩
          refine ⟨_, rfl, ?_⟩
          refine WL.nil (WE.next ?_)
          refine WE.op (.inr (h32.drop 0)) (i := 7) (by rfl) (by kernel_rfl) ?_
          refine WL.storeAll h32 0 rfl rfl rfl inf49 rfl rfl rfl (Free.zero _) ?_
          intro  w33 h33
          try simp only [lz, ls, ez, es'] at h33
          refine WL.nil (WE.next ?_)
          refine WE.fin (.inl ⟨7, rfl, by kernel_rfl⟩) (by kernel_rfl) ?_
          refine WN.thn (WC.seq ?_)
          have hNo := h33.nilRes
          
          refine WC.reg ?_
          refine WL.v (Runs.fld fld49_1 rfl) rfl ?_
          refine WL.v (Runs.fld fld37_5 rfl) rfl ?_
          refine WL.v (Runs.load1 Try.underlying29 rfl rfl (hNo.ocell (i := 1) rfl rfl)) rfl ?_
          refine WL.v (Runs.fld fld31_1 rfl) rfl ?_
          refine WL.v (Runs.load1 Try.underlying29 rfl rfl (hNo.ocell (i := 4) rfl rfl)) rfl ?_
          refine WL.app (ys := f.ps) 0 hNo rfl rfl rfl rfl Try.underlying29 Try.underlying29 (.inr ⟨_, rfl⟩) inf3 rfl (Row.nil 3 Vi) (Src.rd hf hNo rfl (fun _ => rfl)) rfl rfl (by first | omega | (simp; done) | (simp; omega) | (simp only [List.length_nil]; omega)) (by first | omega | (simp; done) | (simp; omega) | (simp only [List.length_nil]; omega)) ?_
          intro r34 v34 w35 hr34 h35
          simp only [lz, ls] at h35
          obtain ⟨A34, cap34, rfl⟩ := row_sl hr34
          refine WL.v (Runs.fld fld49_1 rfl) rfl ?_
          refine WL.v (Runs.fld fld37_5 rfl) rfl ?_
          refine WL.store' h35 1 rfl rfl rfl inf29 rfl rfl (Free.zero _) (Nat.le_of_ble_eq_true rfl) ?_
          intro  w36 h36
          try simp only [lz, ls, ez, es'] at h36
          refine WL.nil (WN.thn (WC.seq (WC.reg ?_)))
          refine WL.v (Runs.loadAll h36 1 rfl Try.underlying49 rfl inf49 rfl rfl) rfl ?_
          refine WL.storeAll h36 3 rfl rfl rfl inf49 rfl rfl rfl (Free.zero _) ?_
          intro  w37 h37
          try simp only [lz, ls, ez, es'] at h37
          refine WL.nil (WN.thn (WC.ret ?_))
          obtain ⟨G8, hG8, gf8, hS8⟩ := h37.freeze (i := 0) rfl
          have hrd8 := Row.read hr34 rfl gf8
          have hv : launchA id z m f = anM id m { wrM m 1 0 with rc := { (wrM m 1 0).rc with ls := f.ps } } 3 1 := by unfold launchA; rw [if_neg (show ¬ phB z m 2 = true from by unfold phB; rw [p0] <;> simp), if_neg (by rw [p0]; decide), if_neg (by rintro (hh | hh | hh); rw [g0] at hh; cases hh; exact hh g1; exact g2 hh)]
          refine retA rfl (ResOk.blk h37 3 rfl Try.underlying49 rfl inf49 rfl rfl) ⟨G8, A34, cap34, hG8, by rw [hv] <;> rfl, by rw [hv]; exact hrd8, ((((((hS8.drop 0).drop 0).drop 0).drop 0).drop 0).drop 0)⟩
      · skip
        refine WL.alloc' rfl h22 inf49 ?_
        intro b11 w38 h38
        refine WL.nil (WE.next ?_)
        refine WE.op (.inr (h38.drop 0)) (i := 2) (by rfl) (by kernel_rfl) ?_
        refine WL.call can49 rfl rfl ((show Calls _ _ #[.agg (acv none 0 A0), _, _, _] _ _ from qwrite_c _ (m := m) (a := A0) 1 0 h38)) ?_
        rintro _ w39 ⟨rfl, h39⟩
        refine ⟨_, rfl, ?_⟩
        refine WL.nil (WE.next ?_)
        refine WE.op (.inr (h39.drop 0)) (i := 5) (by rfl) (by kernel_rfl) ?_
        refine WL.call can48 rfl rfl ((show Calls _ _ #[.agg (acv none 0 (wrM m 1 0)), _, _, _, _] _ _ from qanswer_c _ id (m := m) (a := (wrM m 1 0)) 3 1 h39)) ?_
        rintro _ w40 ⟨rfl, h40⟩
        refine ⟨_, rfl, ?_⟩
        refine WL.nil (WE.next ?_)
        refine WE.op (.inr (h40.drop 0)) (i := 7) (by rfl) (by kernel_rfl) ?_
        refine WL.storeAll h40 0 rfl rfl rfl inf49 rfl rfl rfl (Free.zero _) ?_
        intro  w41 h41
        try simp only [lz, ls, ez, es'] at h41
        refine WL.nil (WE.next ?_)
        refine WE.fin (.inl ⟨7, rfl, by kernel_rfl⟩) (by kernel_rfl) ?_
        refine WN.thn (WC.seq ?_)
        have hNo := h41.nilRes
        
        refine WC.reg ?_
        refine WL.v (Runs.fld fld49_1 rfl) rfl ?_
        refine WL.v (Runs.fld fld37_5 rfl) rfl ?_
        refine WL.v (Runs.load1 Try.underlying29 rfl rfl (hNo.ocell (i := 1) rfl rfl)) rfl ?_
        refine WL.v (Runs.fld fld31_1 rfl) rfl ?_
        refine WL.v (Runs.load1 Try.underlying29 rfl rfl (hNo.ocell (i := 4) rfl rfl)) rfl ?_
        refine WL.app (ys := f.ps) 0 hNo rfl rfl rfl rfl Try.underlying29 Try.underlying29 (.inr ⟨_, rfl⟩) inf3 rfl (Row.nil 3 Vi) (Src.rd hf hNo rfl (fun _ => rfl)) rfl rfl (by first | omega | (simp; done) | (simp; omega) | (simp only [List.length_nil]; omega)) (by first | omega | (simp; done) | (simp; omega) | (simp only [List.length_nil]; omega)) ?_
        intro r42 v42 w43 hr42 h43
        simp only [lz, ls] at h43
        obtain ⟨A42, cap42, rfl⟩ := row_sl hr42
        refine WL.v (Runs.fld fld49_1 rfl) rfl ?_
        refine WL.v (Runs.fld fld37_5 rfl) rfl ?_
        refine WL.store' h43 1 rfl rfl rfl inf29 rfl rfl (Free.zero _) (Nat.le_of_ble_eq_true rfl) ?_
        intro  w44 h44
        try simp only [lz, ls, ez, es'] at h44
        refine WL.nil (WN.thn (WC.seq (WC.reg ?_)))
        refine WL.v (Runs.loadAll h44 1 rfl Try.underlying49 rfl inf49 rfl rfl) rfl ?_
        refine WL.storeAll h44 3 rfl rfl rfl inf49 rfl rfl rfl (Free.zero _) ?_
        intro  w45 h45
        try simp only [lz, ls, ez, es'] at h45
        refine WL.nil (WN.thn (WC.ret ?_))
        obtain ⟨G8, hG8, gf8, hS8⟩ := h45.freeze (i := 0) rfl
        have hrd8 := Row.read hr42 rfl gf8
        have hv : launchA id z m f = anM id m { wrM m 1 0 with rc := { (wrM m 1 0).rc with ls := f.ps } } 3 1 := by unfold launchA; rw [if_neg (show ¬ phB z m 2 = true from by unfold phB; rw [p0] <;> simp), if_neg (by rw [p0]; decide), if_neg (by rintro (hh | hh | hh); rw [g0] at hh; cases hh; exact hh g1; exact g2 hh)]
        refine retA rfl (ResOk.blk h45 3 rfl Try.underlying49 rfl inf49 rfl rfl) ⟨G8, A42, cap42, hG8, by rw [hv] <;> rfl, by rw [hv]; exact hrd8, ((((((hS8.drop 0).drop 0).drop 0).drop 0).drop 0).drop 0)⟩
set_option maxRecDepth 100000 in
set_option maxHeartbeats 16000000 in
theorem qturn_c {W : World} {F : Snap} {cs : List Res} (w : World) {AJ AS : Option Addr} {cj cS : Nat} {z : Z} {m : M} (id : Int) (hz : few z) (hR : ZR F AJ AS z) (h : St W F cs w) (hk : m.kd = 4 ∨ m.kd = 5 ∨ m.kd = 7) : Calls Try.prog 36 #[Vi id, .agg #[.slice AJ z.js.length cj, .slice AS z.ss.length cS, .bool z.dr], .agg #[Vi m.kd, Vi m.fr, Vi m.to, Vi m.jb, Vi m.ep, Vi m.st, Vi m.ar, .string m.tx]] w fun e w' => GivesA W F cs (turnA id z m) e w'  := by
  refine enter (P := Try.prog) (args := [Vi id, .agg #[.slice AJ z.js.length cj, .slice AS z.ss.length cS, .bool z.dr], .agg #[Vi m.kd, Vi m.fr, Vi m.to, Vi m.jb, Vi m.ep, Vi m.st, Vi m.ar, .string m.tx]]) Try.func36 rfl rfl rfl ?_
  have hzj := hz.j
  have hzs := hz.s
  refine WC.seq (WC.reg ?_)
  refine WL.box rfl h rfl ?_
  intro b4 w1 h1
  refine WL.box rfl h1 rfl ?_
  intro b5 w2 h2
  refine WL.alloc' rfl h2 inf49 ?_
  intro b6 w3 h3
  refine WL.nil (WN.thn (WC.seq (WC.reg ?_)))
  refine WL.v (Runs.loadAll h3 2 rfl Try.underlying25 rfl inf25 rfl rfl) rfl ?_
  refine WL.v (Runs.fld fld27_3 rfl) rfl ?_
  refine WL.v (Runs.load1 Try.underlying3 rfl rfl (h3.ocell (i := 1) rfl rfl)) rfl ?_
  refine WL.v (Runs.fld fld27_4 rfl) rfl ?_
  refine WL.v (Runs.load1 Try.underlying3 rfl rfl (h3.ocell (i := 1) rfl rfl)) rfl ?_
  refine WL.v (Runs.fld fld27_5 rfl) rfl ?_
  refine WL.v (Runs.load1 Try.underlying3 rfl rfl (h3.ocell (i := 1) rfl rfl)) rfl ?_
  refine WL.call can40 rfl rfl (qstepOf_c _ m.jb m.ep m.st h3 hR.s (by omega)) ?_
  rintro _ w4 ⟨⟨A1, c1, rfl, hps⟩, h4⟩
  refine ⟨_, rfl, ?_⟩
  refine WL.v (Runs.move rfl) rfl ?_
  refine WL.v (Runs.extract rfl rfl) rfl ?_
  refine WL.v (Runs.extract rfl rfl) rfl ?_
  refine WL.alloc' rfl h4 inf79 ?_
  intro b7 w5 h5
  refine WL.storeAll h5 0 rfl rfl rfl inf79 rfl rfl rfl (Free.zero _) ?_
  intro  w6 h6
  try simp only [lz, ls, ez, es'] at h6
  refine WL.v (Runs.assign rfl) rfl ?_
  refine WL.nil (WN.thn (WC.seq (WC.reg ?_)))
  refine WL.v (Runs.build (vs := []) (cells := #[.bool false, Vi 0, Vi 0, Vi 0, Vi 0, Vi 0, .slice none 0 0, .bool false, Vi 0, Vi 0, Vi 0, Vi 0, Vi 0, Vi 0, Vi 0, .string ⟨#[]⟩, .bool false, .bool false, .bool false]) rfl (by kernel_rfl)) rfl ?_
  refine WL.alloc' rfl h6 inf49 ?_
  intro b9 w7 h7
  refine WL.storeAll h7 0 rfl rfl rfl inf49 rfl rfl rfl (Free.zero _) ?_
  intro  w8 h8
  try simp only [lz, ls, ez, es'] at h8
  refine WL.nil (WN.thn (WC.seq (WC.seq ?_)))
  rcases turnCase (p := phS z m) (b := hasS z m) hk with ⟨k0, p0⟩ | ⟨k0, p0, p1⟩ | ⟨k0, p0, p1⟩ | ⟨k0, p0, p1, p2⟩ | ⟨k0, p0, p1⟩ | ⟨k0, p0, p1⟩ | ⟨k0, p0⟩ | ⟨k0, p0⟩ | ⟨k0, p0⟩
  · skip
    refine WC.reg ?_
    refine WL.v (Runs.fld fld27_0 rfl) rfl ?_
    refine WL.v (Runs.load1 Try.underlying3 rfl rfl (h8.ocell (i := 3) rfl rfl)) rfl ?_
    refine WL.v (Runs.boolT (c := true) (Runs.eql rfl rfl) (by rw [decide_eq_true_eq]; omega)) rfl ?_
    refine WL.v (Runs.move rfl) rfl ?_
    refine WL.gon rfl rfl rfl ?_
    refine WL.v (Runs.boolT (c := false) (Runs.move rfl) p0) rfl ?_
    refine WL.v (Runs.pick rfl rfl rfl) rfl ?_
    refine WL.v (Runs.move rfl) rfl ?_
    refine WL.goff rfl rfl rfl rfl ?_
    refine WL.goff rfl rfl rfl rfl ?_
    refine WL.goff rfl rfl rfl rfl ?_
    refine WL.v (Runs.pick rfl rfl rfl) rfl ?_
    refine WL.nil (WN.thn ?_)
    refine WC.condF rfl (rfl) ?_
    refine WC.skip (WN.thn (WC.seq (WC.seq (WC.reg ?_))))
    refine WL.v (Runs.fld fld27_0 rfl) rfl ?_
    refine WL.v (Runs.load1 Try.underlying3 rfl rfl (h8.ocell (i := 3) rfl rfl)) rfl ?_
    refine WL.v (Runs.boolT (c := true) (Runs.eql rfl rfl) (by rw [decide_eq_true_eq]; omega)) rfl ?_
    refine WL.v (Runs.move rfl) rfl ?_
    refine WL.gon rfl rfl rfl ?_
    refine WL.v (Runs.boolT (c := false) (Runs.move rfl) p0) rfl ?_
    refine WL.v (Runs.pick rfl rfl rfl) rfl ?_
    refine WL.v (Runs.move rfl) rfl ?_
    refine WL.goff rfl rfl rfl rfl ?_
    refine WL.goff rfl rfl rfl rfl ?_
    refine WL.goff rfl rfl rfl rfl ?_
    refine WL.v (Runs.pick rfl rfl rfl) rfl ?_
    refine WL.nil (WN.thn ?_)
    refine WC.condF rfl (rfl) ?_
    refine WC.skip (WN.thn (WC.seq (WC.seq (WC.reg ?_))))
    refine WL.v (Runs.fld fld27_0 rfl) rfl ?_
    refine WL.v (Runs.load1 Try.underlying3 rfl rfl (h8.ocell (i := 3) rfl rfl)) rfl ?_
    refine WL.v (Runs.boolT (c := false) (Runs.eql rfl rfl) (by rw [decide_eq_false_iff_not]; omega)) rfl ?_
    refine WL.v (Runs.move rfl) rfl ?_
    refine WL.goff rfl rfl rfl rfl ?_
    refine WL.v (Runs.pick rfl rfl rfl) rfl ?_
    refine WL.v (Runs.move rfl) rfl ?_
    refine WL.goff rfl rfl rfl rfl ?_
    refine WL.goff rfl rfl rfl rfl ?_
    refine WL.goff rfl rfl rfl rfl ?_
    refine WL.v (Runs.pick rfl rfl rfl) rfl ?_
    refine WL.nil (WN.thn ?_)
    refine WC.condF rfl (rfl) ?_
    refine WC.skip (WN.thn (WC.seq (WC.seq (WC.reg ?_))))
    refine WL.v (Runs.fld fld27_0 rfl) rfl ?_
    refine WL.v (Runs.load1 Try.underlying3 rfl rfl (h8.ocell (i := 3) rfl rfl)) rfl ?_
    refine WL.v (Runs.boolT (c := false) (Runs.eql rfl rfl) (by rw [decide_eq_false_iff_not]; omega)) rfl ?_
    refine WL.v (Runs.move rfl) rfl ?_
    refine WL.goff rfl rfl rfl rfl ?_
    refine WL.goff rfl rfl rfl rfl ?_
    refine WL.v (Runs.pick rfl rfl rfl) rfl ?_
    refine WL.v (Runs.move rfl) rfl ?_
    refine WL.goff rfl rfl rfl rfl ?_
    refine WL.goff rfl rfl rfl rfl ?_
    refine WL.goff rfl rfl rfl rfl ?_
    refine WL.v (Runs.pick rfl rfl rfl) rfl ?_
    refine WL.nil (WN.thn ?_)
    refine WC.condF rfl (rfl) ?_
    refine WC.skip (WN.thn (WC.seq (WC.reg ?_)))
    refine WL.v (Runs.fld fld27_0 rfl) rfl ?_
    refine WL.v (Runs.load1 Try.underlying3 rfl rfl (h8.ocell (i := 3) rfl rfl)) rfl ?_
    refine WL.v (Runs.boolT (c := false) (Runs.eql rfl rfl) (by rw [decide_eq_false_iff_not]; omega)) rfl ?_
    refine WL.v (Runs.move rfl) rfl ?_
    refine WL.goff rfl rfl rfl rfl ?_
    refine WL.v (Runs.pick rfl rfl rfl) rfl ?_
    refine WL.v (Runs.move rfl) rfl ?_
    refine WL.goff rfl rfl rfl rfl ?_
    refine WL.goff rfl rfl rfl rfl ?_
    refine WL.goff rfl rfl rfl rfl ?_
    refine WL.v (Runs.pick rfl rfl rfl) rfl ?_
    refine WL.v (Runs.fld fld49_6 rfl) rfl ?_
    refine WL.store' h8 0 rfl rfl rfl inf4 rfl rfl (Free.zero _) (Nat.le_of_ble_eq_true rfl) ?_
    intro  w9 h9
    try simp only [lz, ls, ez, es'] at h9
    refine WL.nil (WN.thn (WC.seq (WC.reg ?_)))
    refine WL.v (Runs.loadAll h9 0 rfl Try.underlying49 rfl inf49 rfl rfl) rfl ?_
    refine WL.storeAll h9 2 rfl rfl rfl inf49 rfl rfl rfl (Free.zero _) ?_
    intro  w10 h10
    try simp only [lz, ls, ez, es'] at h10
    refine WL.nil (WN.thn (WC.ret ?_))
    have hv : turnA id z m = A0 := (show turnA id z m = releaseA id z m from if_pos (by omega)).trans (by unfold releaseA; rw [if_neg (show ¬ phB z m 0 = true from by unfold phB; rw [p0]; simp), if_neg (show ¬ phB z m 3 = true from by unfold phB; rw [p0]; simp)])
    refine retA rfl (ResOk.blk h10 2 rfl Try.underlying49 rfl inf49 rfl rfl) ⟨F, none, 0, Le.refl F, by rw [hv] <;> rfl, by rw [hv]; exact .inl rfl, (((((h10.drop 0).drop 0).drop 0).drop 0).drop 0)⟩
  · skip
    refine WC.reg ?_
    refine WL.v (Runs.fld fld27_0 rfl) rfl ?_
    refine WL.v (Runs.load1 Try.underlying3 rfl rfl (h8.ocell (i := 3) rfl rfl)) rfl ?_
    refine WL.v (Runs.boolT (c := true) (Runs.eql rfl rfl) (by rw [decide_eq_true_eq]; omega)) rfl ?_
    refine WL.v (Runs.move rfl) rfl ?_
    refine WL.gon rfl rfl rfl ?_
    refine WL.v (Runs.boolT (c := true) (Runs.move rfl) p0) rfl ?_
    refine WL.v (Runs.pick rfl rfl rfl) rfl ?_
    refine WL.v (Runs.move rfl) rfl ?_
    refine WL.gon rfl rfl rfl ?_
    refine WL.v (Runs.fld fld79_3 rfl) rfl ?_
    refine WL.gon rfl rfl rfl ?_
    refine WL.v (Runs.load1 Try.underlying3 rfl rfl (h8.ocell (i := 1) rfl rfl)) rfl ?_
    refine WL.gon rfl rfl rfl ?_
    refine WL.v (Runs.boolT (c := true) (Runs.eql rfl rfl) (decide_eq_true p1)) rfl ?_
    refine WL.v (Runs.pick rfl rfl rfl) rfl ?_
    refine WL.nil (WN.thn ?_)
    refine WC.condT rfl (rfl) ?_
    refine WC.seq (WC.reg ?_)
    refine WL.v (Runs.loadAll h8 0 rfl Try.underlying49 rfl inf49 rfl rfl) rfl ?_
    refine WL.v (Runs.loadAll h8 3 rfl Try.underlying27 rfl inf27 rfl rfl) rfl ?_
    refine WL.call can49 rfl rfl ((show Calls _ _ #[.agg (acv none 0 A0), _, _, _] _ _ from qwrite_c _ (m := m) (a := A0) 3 0 h8)) ?_
    rintro _ w11 ⟨rfl, h11⟩
    refine ⟨_, rfl, ?_⟩
    refine WL.storeAll h11 0 rfl rfl rfl inf49 rfl rfl rfl (Free.zero _) ?_
    intro  w12 h12
    try simp only [lz, ls, ez, es'] at h12
    refine WL.nil (WN.thn (WC.reg ?_))
    refine WL.v (Runs.fld fld49_4 rfl) rfl ?_
    refine WL.store' h12 0 rfl rfl rfl inf4 rfl rfl (Free.zero _) (Nat.le_of_ble_eq_true rfl) ?_
    intro  w13 h13
    try simp only [lz, ls, ez, es'] at h13
    refine WL.nil (WN.thn (WC.seq (WC.seq (WC.reg ?_))))
    refine WL.v (Runs.fld fld27_0 rfl) rfl ?_
    refine WL.v (Runs.load1 Try.underlying3 rfl rfl (h13.ocell (i := 3) rfl rfl)) rfl ?_
    refine WL.v (Runs.boolT (c := true) (Runs.eql rfl rfl) (by rw [decide_eq_true_eq]; omega)) rfl ?_
    refine WL.v (Runs.move rfl) rfl ?_
    refine WL.gon rfl rfl rfl ?_
    refine WL.v (Runs.boolT (c := true) (Runs.move rfl) p0) rfl ?_
    refine WL.v (Runs.pick rfl rfl rfl) rfl ?_
    refine WL.v (Runs.move rfl) rfl ?_
    refine WL.gon rfl rfl rfl ?_
    refine WL.v (Runs.fld fld79_3 rfl) rfl ?_
    refine WL.gon rfl rfl rfl ?_
    refine WL.v (Runs.load1 Try.underlying3 rfl rfl (h13.ocell (i := 1) rfl rfl)) rfl ?_
    refine WL.gon rfl rfl rfl ?_
    refine WL.v (Runs.boolT (c := false) (Runs.eql rfl rfl) (decide_eq_false (fun hh => absurd (p1.symm.trans hh) (by decide)))) rfl ?_
    refine WL.v (Runs.pick rfl rfl rfl) rfl ?_
    refine WL.nil (WN.thn ?_)
    refine WC.condF rfl (rfl) ?_
    refine WC.skip (WN.thn (WC.seq (WC.seq (WC.reg ?_))))
    refine WL.v (Runs.fld fld27_0 rfl) rfl ?_
    refine WL.v (Runs.load1 Try.underlying3 rfl rfl (h13.ocell (i := 3) rfl rfl)) rfl ?_
    refine WL.v (Runs.boolT (c := false) (Runs.eql rfl rfl) (by rw [decide_eq_false_iff_not]; omega)) rfl ?_
    refine WL.v (Runs.move rfl) rfl ?_
    refine WL.goff rfl rfl rfl rfl ?_
    refine WL.v (Runs.pick rfl rfl rfl) rfl ?_
    refine WL.v (Runs.move rfl) rfl ?_
    refine WL.goff rfl rfl rfl rfl ?_
    refine WL.goff rfl rfl rfl rfl ?_
    refine WL.goff rfl rfl rfl rfl ?_
    refine WL.v (Runs.pick rfl rfl rfl) rfl ?_
    refine WL.nil (WN.thn ?_)
    refine WC.condF rfl (rfl) ?_
    refine WC.skip (WN.thn (WC.seq (WC.seq (WC.reg ?_))))
    refine WL.v (Runs.fld fld27_0 rfl) rfl ?_
    refine WL.v (Runs.load1 Try.underlying3 rfl rfl (h13.ocell (i := 3) rfl rfl)) rfl ?_
    refine WL.v (Runs.boolT (c := false) (Runs.eql rfl rfl) (by rw [decide_eq_false_iff_not]; omega)) rfl ?_
    refine WL.v (Runs.move rfl) rfl ?_
    refine WL.goff rfl rfl rfl rfl ?_
    refine WL.goff rfl rfl rfl rfl ?_
    refine WL.v (Runs.pick rfl rfl rfl) rfl ?_
    refine WL.v (Runs.move rfl) rfl ?_
    refine WL.goff rfl rfl rfl rfl ?_
    refine WL.goff rfl rfl rfl rfl ?_
    refine WL.goff rfl rfl rfl rfl ?_
    refine WL.v (Runs.pick rfl rfl rfl) rfl ?_
    refine WL.nil (WN.thn ?_)
    refine WC.condF rfl (rfl) ?_
    refine WC.skip (WN.thn (WC.seq (WC.reg ?_)))
    refine WL.v (Runs.fld fld27_0 rfl) rfl ?_
    refine WL.v (Runs.load1 Try.underlying3 rfl rfl (h13.ocell (i := 3) rfl rfl)) rfl ?_
    refine WL.v (Runs.boolT (c := false) (Runs.eql rfl rfl) (by rw [decide_eq_false_iff_not]; omega)) rfl ?_
    refine WL.v (Runs.move rfl) rfl ?_
    refine WL.goff rfl rfl rfl rfl ?_
    refine WL.v (Runs.pick rfl rfl rfl) rfl ?_
    refine WL.v (Runs.move rfl) rfl ?_
    refine WL.goff rfl rfl rfl rfl ?_
    refine WL.goff rfl rfl rfl rfl ?_
    refine WL.goff rfl rfl rfl rfl ?_
    refine WL.v (Runs.pick rfl rfl rfl) rfl ?_
    refine WL.v (Runs.fld fld49_6 rfl) rfl ?_
    refine WL.store' h13 0 rfl rfl rfl inf4 rfl rfl (Free.zero _) (Nat.le_of_ble_eq_true rfl) ?_
    intro  w14 h14
    try simp only [lz, ls, ez, es'] at h14
    refine WL.nil (WN.thn (WC.seq (WC.reg ?_)))
    refine WL.v (Runs.loadAll h14 0 rfl Try.underlying49 rfl inf49 rfl rfl) rfl ?_
    refine WL.storeAll h14 2 rfl rfl rfl inf49 rfl rfl rfl (Free.zero _) ?_
    intro  w15 h15
    try simp only [lz, ls, ez, es'] at h15
    refine WL.nil (WN.thn (WC.ret ?_))
    have hv : turnA id z m = { wrM m 3 0 with sta := true } := (show turnA id z m = releaseA id z m from if_pos (by omega)).trans (by unfold releaseA; rw [if_pos (show phB z m 0 = true from by unfold phB; rw [p0, decide_eq_true p1]; rfl)])
    refine retA rfl (ResOk.blk h15 2 rfl Try.underlying49 rfl inf49 rfl rfl) ⟨F, none, 0, Le.refl F, by rw [hv] <;> rfl, by rw [hv]; exact .inl rfl, (((((h15.drop 0).drop 0).drop 0).drop 0).drop 0)⟩
  · skip
    refine WC.reg ?_
    refine WL.v (Runs.fld fld27_0 rfl) rfl ?_
    refine WL.v (Runs.load1 Try.underlying3 rfl rfl (h8.ocell (i := 3) rfl rfl)) rfl ?_
    refine WL.v (Runs.boolT (c := true) (Runs.eql rfl rfl) (by rw [decide_eq_true_eq]; omega)) rfl ?_
    refine WL.v (Runs.move rfl) rfl ?_
    refine WL.gon rfl rfl rfl ?_
    refine WL.v (Runs.boolT (c := true) (Runs.move rfl) p0) rfl ?_
    refine WL.v (Runs.pick rfl rfl rfl) rfl ?_
    refine WL.v (Runs.move rfl) rfl ?_
    refine WL.gon rfl rfl rfl ?_
    refine WL.v (Runs.fld fld79_3 rfl) rfl ?_
    refine WL.gon rfl rfl rfl ?_
    refine WL.v (Runs.load1 Try.underlying3 rfl rfl (h8.ocell (i := 1) rfl rfl)) rfl ?_
    refine WL.gon rfl rfl rfl ?_
    refine WL.v (Runs.boolT (c := false) (Runs.eql rfl rfl) (decide_eq_false (fun hh => absurd (p1.symm.trans hh) (by decide)))) rfl ?_
    refine WL.v (Runs.pick rfl rfl rfl) rfl ?_
    refine WL.nil (WN.thn ?_)
    refine WC.condF rfl (rfl) ?_
    refine WC.skip (WN.thn (WC.seq (WC.seq (WC.reg ?_))))
    refine WL.v (Runs.fld fld27_0 rfl) rfl ?_
    refine WL.v (Runs.load1 Try.underlying3 rfl rfl (h8.ocell (i := 3) rfl rfl)) rfl ?_
    refine WL.v (Runs.boolT (c := true) (Runs.eql rfl rfl) (by rw [decide_eq_true_eq]; omega)) rfl ?_
    refine WL.v (Runs.move rfl) rfl ?_
    refine WL.gon rfl rfl rfl ?_
    refine WL.v (Runs.boolT (c := true) (Runs.move rfl) p0) rfl ?_
    refine WL.v (Runs.pick rfl rfl rfl) rfl ?_
    refine WL.v (Runs.move rfl) rfl ?_
    refine WL.gon rfl rfl rfl ?_
    refine WL.v (Runs.fld fld79_3 rfl) rfl ?_
    refine WL.gon rfl rfl rfl ?_
    refine WL.v (Runs.load1 Try.underlying3 rfl rfl (h8.ocell (i := 1) rfl rfl)) rfl ?_
    refine WL.gon rfl rfl rfl ?_
    refine WL.v (Runs.boolT (c := true) (Runs.eql rfl rfl) (decide_eq_true p1)) rfl ?_
    refine WL.v (Runs.pick rfl rfl rfl) rfl ?_
    refine WL.nil (WN.thn ?_)
    refine WC.condT rfl (rfl) ?_
    refine WC.reg ?_
    refine WL.v (Runs.loadAll h8 0 rfl Try.underlying49 rfl inf49 rfl rfl) rfl ?_
    refine WL.v (Runs.move rfl) rfl ?_
    refine WL.v (Runs.loadAll h8 3 rfl Try.underlying27 rfl inf27 rfl rfl) rfl ?_
    refine WL.v (Runs.fld fld79_4 rfl) rfl ?_
    refine WL.v (Runs.load1 Try.underlying3 rfl rfl (h8.ocell (i := 1) rfl rfl)) rfl ?_
    refine WL.call can48 rfl rfl ((show Calls _ _ #[.agg (acv none 0 A0), _, _, _, _] _ _ from qanswer_c _ id (m := m) (a := A0) 6 (stepM z m.jb m.ep m.st).1.cd h8)) ?_
    rintro _ w16 ⟨rfl, h16⟩
    refine ⟨_, rfl, ?_⟩
    refine WL.storeAll h16 0 rfl rfl rfl inf49 rfl rfl rfl (Free.zero _) ?_
    intro  w17 h17
    try simp only [lz, ls, ez, es'] at h17
    refine WL.nil (WN.thn (WC.seq (WC.seq (WC.reg ?_))))
    refine WL.v (Runs.fld fld27_0 rfl) rfl ?_
    refine WL.v (Runs.load1 Try.underlying3 rfl rfl (h17.ocell (i := 3) rfl rfl)) rfl ?_
    refine WL.v (Runs.boolT (c := false) (Runs.eql rfl rfl) (by rw [decide_eq_false_iff_not]; omega)) rfl ?_
    refine WL.v (Runs.move rfl) rfl ?_
    refine WL.goff rfl rfl rfl rfl ?_
    refine WL.v (Runs.pick rfl rfl rfl) rfl ?_
    refine WL.v (Runs.move rfl) rfl ?_
    refine WL.goff rfl rfl rfl rfl ?_
    refine WL.goff rfl rfl rfl rfl ?_
    refine WL.goff rfl rfl rfl rfl ?_
    refine WL.v (Runs.pick rfl rfl rfl) rfl ?_
    refine WL.nil (WN.thn ?_)
    refine WC.condF rfl (rfl) ?_
    refine WC.skip (WN.thn (WC.seq (WC.seq (WC.reg ?_))))
    refine WL.v (Runs.fld fld27_0 rfl) rfl ?_
    refine WL.v (Runs.load1 Try.underlying3 rfl rfl (h17.ocell (i := 3) rfl rfl)) rfl ?_
    refine WL.v (Runs.boolT (c := false) (Runs.eql rfl rfl) (by rw [decide_eq_false_iff_not]; omega)) rfl ?_
    refine WL.v (Runs.move rfl) rfl ?_
    refine WL.goff rfl rfl rfl rfl ?_
    refine WL.goff rfl rfl rfl rfl ?_
    refine WL.v (Runs.pick rfl rfl rfl) rfl ?_
    refine WL.v (Runs.move rfl) rfl ?_
    refine WL.goff rfl rfl rfl rfl ?_
    refine WL.goff rfl rfl rfl rfl ?_
    refine WL.goff rfl rfl rfl rfl ?_
    refine WL.v (Runs.pick rfl rfl rfl) rfl ?_
    refine WL.nil (WN.thn ?_)
    refine WC.condF rfl (rfl) ?_
    refine WC.skip (WN.thn (WC.seq (WC.reg ?_)))
    refine WL.v (Runs.fld fld27_0 rfl) rfl ?_
    refine WL.v (Runs.load1 Try.underlying3 rfl rfl (h17.ocell (i := 3) rfl rfl)) rfl ?_
    refine WL.v (Runs.boolT (c := false) (Runs.eql rfl rfl) (by rw [decide_eq_false_iff_not]; omega)) rfl ?_
    refine WL.v (Runs.move rfl) rfl ?_
    refine WL.goff rfl rfl rfl rfl ?_
    refine WL.v (Runs.pick rfl rfl rfl) rfl ?_
    refine WL.v (Runs.move rfl) rfl ?_
    refine WL.goff rfl rfl rfl rfl ?_
    refine WL.goff rfl rfl rfl rfl ?_
    refine WL.goff rfl rfl rfl rfl ?_
    refine WL.v (Runs.pick rfl rfl rfl) rfl ?_
    refine WL.v (Runs.fld fld49_6 rfl) rfl ?_
    refine WL.store' h17 0 rfl rfl rfl inf4 rfl rfl (Free.zero _) (Nat.le_of_ble_eq_true rfl) ?_
    intro  w18 h18
    try simp only [lz, ls, ez, es'] at h18
    refine WL.nil (WN.thn (WC.seq (WC.reg ?_)))
    refine WL.v (Runs.loadAll h18 0 rfl Try.underlying49 rfl inf49 rfl rfl) rfl ?_
    refine WL.storeAll h18 2 rfl rfl rfl inf49 rfl rfl rfl (Free.zero _) ?_
    intro  w19 h19
    try simp only [lz, ls, ez, es'] at h19
    refine WL.nil (WN.thn (WC.ret ?_))
    have hv : turnA id z m = anM id m A0 6 (stepM z m.jb m.ep m.st).1.cd := (show turnA id z m = releaseA id z m from if_pos (by omega)).trans (by unfold releaseA; rw [if_neg (show ¬ phB z m 0 = true from by unfold phB; rw [p0, decide_eq_false (by rw [p1]; decide)]; decide), if_pos (show phB z m 3 = true from by unfold phB; rw [p0, decide_eq_true p1]; rfl)])
    refine retA rfl (ResOk.blk h19 2 rfl Try.underlying49 rfl inf49 rfl rfl) ⟨F, none, 0, Le.refl F, by rw [hv] <;> rfl, by rw [hv]; exact .inl rfl, (((((h19.drop 0).drop 0).drop 0).drop 0).drop 0)⟩
  · skip
    refine WC.reg ?_
    refine WL.v (Runs.fld fld27_0 rfl) rfl ?_
    refine WL.v (Runs.load1 Try.underlying3 rfl rfl (h8.ocell (i := 3) rfl rfl)) rfl ?_
    refine WL.v (Runs.boolT (c := true) (Runs.eql rfl rfl) (by rw [decide_eq_true_eq]; omega)) rfl ?_
    refine WL.v (Runs.move rfl) rfl ?_
    refine WL.gon rfl rfl rfl ?_
    refine WL.v (Runs.boolT (c := true) (Runs.move rfl) p0) rfl ?_
    refine WL.v (Runs.pick rfl rfl rfl) rfl ?_
    refine WL.v (Runs.move rfl) rfl ?_
    refine WL.gon rfl rfl rfl ?_
    refine WL.v (Runs.fld fld79_3 rfl) rfl ?_
    refine WL.gon rfl rfl rfl ?_
    refine WL.v (Runs.load1 Try.underlying3 rfl rfl (h8.ocell (i := 1) rfl rfl)) rfl ?_
    refine WL.gon rfl rfl rfl ?_
    refine WL.v (Runs.boolT (c := false) (Runs.eql rfl rfl) (decide_eq_false p1)) rfl ?_
    refine WL.v (Runs.pick rfl rfl rfl) rfl ?_
    refine WL.nil (WN.thn ?_)
    refine WC.condF rfl (rfl) ?_
    refine WC.skip (WN.thn (WC.seq (WC.seq (WC.reg ?_))))
    refine WL.v (Runs.fld fld27_0 rfl) rfl ?_
    refine WL.v (Runs.load1 Try.underlying3 rfl rfl (h8.ocell (i := 3) rfl rfl)) rfl ?_
    refine WL.v (Runs.boolT (c := true) (Runs.eql rfl rfl) (by rw [decide_eq_true_eq]; omega)) rfl ?_
    refine WL.v (Runs.move rfl) rfl ?_
    refine WL.gon rfl rfl rfl ?_
    refine WL.v (Runs.boolT (c := true) (Runs.move rfl) p0) rfl ?_
    refine WL.v (Runs.pick rfl rfl rfl) rfl ?_
    refine WL.v (Runs.move rfl) rfl ?_
    refine WL.gon rfl rfl rfl ?_
    refine WL.v (Runs.fld fld79_3 rfl) rfl ?_
    refine WL.gon rfl rfl rfl ?_
    refine WL.v (Runs.load1 Try.underlying3 rfl rfl (h8.ocell (i := 1) rfl rfl)) rfl ?_
    refine WL.gon rfl rfl rfl ?_
    refine WL.v (Runs.boolT (c := false) (Runs.eql rfl rfl) (decide_eq_false p2)) rfl ?_
    refine WL.v (Runs.pick rfl rfl rfl) rfl ?_
    refine WL.nil (WN.thn ?_)
    refine WC.condF rfl (rfl) ?_
    refine WC.skip (WN.thn (WC.seq (WC.seq (WC.reg ?_))))
    refine WL.v (Runs.fld fld27_0 rfl) rfl ?_
    refine WL.v (Runs.load1 Try.underlying3 rfl rfl (h8.ocell (i := 3) rfl rfl)) rfl ?_
    refine WL.v (Runs.boolT (c := false) (Runs.eql rfl rfl) (by rw [decide_eq_false_iff_not]; omega)) rfl ?_
    refine WL.v (Runs.move rfl) rfl ?_
    refine WL.goff rfl rfl rfl rfl ?_
    refine WL.v (Runs.pick rfl rfl rfl) rfl ?_
    refine WL.v (Runs.move rfl) rfl ?_
    refine WL.goff rfl rfl rfl rfl ?_
    refine WL.goff rfl rfl rfl rfl ?_
    refine WL.goff rfl rfl rfl rfl ?_
    refine WL.v (Runs.pick rfl rfl rfl) rfl ?_
    refine WL.nil (WN.thn ?_)
    refine WC.condF rfl (rfl) ?_
    refine WC.skip (WN.thn (WC.seq (WC.seq (WC.reg ?_))))
    refine WL.v (Runs.fld fld27_0 rfl) rfl ?_
    refine WL.v (Runs.load1 Try.underlying3 rfl rfl (h8.ocell (i := 3) rfl rfl)) rfl ?_
    refine WL.v (Runs.boolT (c := false) (Runs.eql rfl rfl) (by rw [decide_eq_false_iff_not]; omega)) rfl ?_
    refine WL.v (Runs.move rfl) rfl ?_
    refine WL.goff rfl rfl rfl rfl ?_
    refine WL.goff rfl rfl rfl rfl ?_
    refine WL.v (Runs.pick rfl rfl rfl) rfl ?_
    refine WL.v (Runs.move rfl) rfl ?_
    refine WL.goff rfl rfl rfl rfl ?_
    refine WL.goff rfl rfl rfl rfl ?_
    refine WL.goff rfl rfl rfl rfl ?_
    refine WL.v (Runs.pick rfl rfl rfl) rfl ?_
    refine WL.nil (WN.thn ?_)
    refine WC.condF rfl (rfl) ?_
    refine WC.skip (WN.thn (WC.seq (WC.reg ?_)))
    refine WL.v (Runs.fld fld27_0 rfl) rfl ?_
    refine WL.v (Runs.load1 Try.underlying3 rfl rfl (h8.ocell (i := 3) rfl rfl)) rfl ?_
    refine WL.v (Runs.boolT (c := false) (Runs.eql rfl rfl) (by rw [decide_eq_false_iff_not]; omega)) rfl ?_
    refine WL.v (Runs.move rfl) rfl ?_
    refine WL.goff rfl rfl rfl rfl ?_
    refine WL.v (Runs.pick rfl rfl rfl) rfl ?_
    refine WL.v (Runs.move rfl) rfl ?_
    refine WL.goff rfl rfl rfl rfl ?_
    refine WL.goff rfl rfl rfl rfl ?_
    refine WL.goff rfl rfl rfl rfl ?_
    refine WL.v (Runs.pick rfl rfl rfl) rfl ?_
    refine WL.v (Runs.fld fld49_6 rfl) rfl ?_
    refine WL.store' h8 0 rfl rfl rfl inf4 rfl rfl (Free.zero _) (Nat.le_of_ble_eq_true rfl) ?_
    intro  w20 h20
    try simp only [lz, ls, ez, es'] at h20
    refine WL.nil (WN.thn (WC.seq (WC.reg ?_)))
    refine WL.v (Runs.loadAll h20 0 rfl Try.underlying49 rfl inf49 rfl rfl) rfl ?_
    refine WL.storeAll h20 2 rfl rfl rfl inf49 rfl rfl rfl (Free.zero _) ?_
    intro  w21 h21
    try simp only [lz, ls, ez, es'] at h21
    refine WL.nil (WN.thn (WC.ret ?_))
    have hv : turnA id z m = A0 := (show turnA id z m = releaseA id z m from if_pos (by omega)).trans (by unfold releaseA; rw [if_neg (show ¬ phB z m 0 = true from by unfold phB; rw [p0, decide_eq_false p1]; decide), if_neg (show ¬ phB z m 3 = true from by unfold phB; rw [p0, decide_eq_false p2]; decide)])
    refine retA rfl (ResOk.blk h21 2 rfl Try.underlying49 rfl inf49 rfl rfl) ⟨F, none, 0, Le.refl F, by rw [hv] <;> rfl, by rw [hv]; exact .inl rfl, (((((h21.drop 0).drop 0).drop 0).drop 0).drop 0)⟩
  · skip
    refine WC.reg ?_
    refine WL.v (Runs.fld fld27_0 rfl) rfl ?_
    refine WL.v (Runs.load1 Try.underlying3 rfl rfl (h8.ocell (i := 3) rfl rfl)) rfl ?_
    refine WL.v (Runs.boolT (c := false) (Runs.eql rfl rfl) (by rw [decide_eq_false_iff_not]; omega)) rfl ?_
    refine WL.v (Runs.move rfl) rfl ?_
    refine WL.goff rfl rfl rfl rfl ?_
    refine WL.v (Runs.pick rfl rfl rfl) rfl ?_
    refine WL.v (Runs.move rfl) rfl ?_
    refine WL.goff rfl rfl rfl rfl ?_
    refine WL.goff rfl rfl rfl rfl ?_
    refine WL.goff rfl rfl rfl rfl ?_
    refine WL.v (Runs.pick rfl rfl rfl) rfl ?_
    refine WL.nil (WN.thn ?_)
    refine WC.condF rfl (rfl) ?_
    refine WC.skip (WN.thn (WC.seq (WC.seq (WC.reg ?_))))
    refine WL.v (Runs.fld fld27_0 rfl) rfl ?_
    refine WL.v (Runs.load1 Try.underlying3 rfl rfl (h8.ocell (i := 3) rfl rfl)) rfl ?_
    refine WL.v (Runs.boolT (c := false) (Runs.eql rfl rfl) (by rw [decide_eq_false_iff_not]; omega)) rfl ?_
    refine WL.v (Runs.move rfl) rfl ?_
    refine WL.goff rfl rfl rfl rfl ?_
    refine WL.v (Runs.pick rfl rfl rfl) rfl ?_
    refine WL.v (Runs.move rfl) rfl ?_
    refine WL.goff rfl rfl rfl rfl ?_
    refine WL.goff rfl rfl rfl rfl ?_
    refine WL.goff rfl rfl rfl rfl ?_
    refine WL.v (Runs.pick rfl rfl rfl) rfl ?_
    refine WL.nil (WN.thn ?_)
    refine WC.condF rfl (rfl) ?_
    refine WC.skip (WN.thn (WC.seq (WC.seq (WC.reg ?_))))
    refine WL.v (Runs.fld fld27_0 rfl) rfl ?_
    refine WL.v (Runs.load1 Try.underlying3 rfl rfl (h8.ocell (i := 3) rfl rfl)) rfl ?_
    refine WL.v (Runs.boolT (c := true) (Runs.eql rfl rfl) (by rw [decide_eq_true_eq]; omega)) rfl ?_
    refine WL.v (Runs.move rfl) rfl ?_
    refine WL.gon rfl rfl rfl ?_
    refine WL.v (Runs.boolT (c := true) (Runs.move rfl) p0) rfl ?_
    refine WL.v (Runs.pick rfl rfl rfl) rfl ?_
    refine WL.v (Runs.move rfl) rfl ?_
    refine WL.gon rfl rfl rfl ?_
    refine WL.v (Runs.fld fld79_3 rfl) rfl ?_
    refine WL.gon rfl rfl rfl ?_
    refine WL.v (Runs.load1 Try.underlying3 rfl rfl (h8.ocell (i := 1) rfl rfl)) rfl ?_
    refine WL.gon rfl rfl rfl ?_
    refine WL.v (Runs.boolT (c := true) (Runs.eql rfl rfl) (decide_eq_true p1)) rfl ?_
    refine WL.v (Runs.pick rfl rfl rfl) rfl ?_
    refine WL.nil (WN.thn ?_)
    refine WC.condT rfl (rfl) ?_
    refine WC.seq (WC.reg ?_)
    refine WL.v (Runs.loadAll h8 0 rfl Try.underlying49 rfl inf49 rfl rfl) rfl ?_
    refine WL.v (Runs.loadAll h8 3 rfl Try.underlying27 rfl inf27 rfl rfl) rfl ?_
    refine WL.call can49 rfl rfl ((show Calls _ _ #[.agg (acv none 0 A0), _, _, _] _ _ from qwrite_c _ (m := m) (a := A0) 4 0 h8)) ?_
    rintro _ w22 ⟨rfl, h22⟩
    refine ⟨_, rfl, ?_⟩
    refine WL.storeAll h22 0 rfl rfl rfl inf49 rfl rfl rfl (Free.zero _) ?_
    intro  w23 h23
    try simp only [lz, ls, ez, es'] at h23
    refine WL.nil (WN.thn (WC.reg ?_))
    refine WL.v (Runs.fld fld49_5 rfl) rfl ?_
    refine WL.store' h23 0 rfl rfl rfl inf4 rfl rfl (Free.zero _) (Nat.le_of_ble_eq_true rfl) ?_
    intro  w24 h24
    try simp only [lz, ls, ez, es'] at h24
    refine WL.nil (WN.thn (WC.seq (WC.seq (WC.reg ?_))))
    refine WL.v (Runs.fld fld27_0 rfl) rfl ?_
    refine WL.v (Runs.load1 Try.underlying3 rfl rfl (h24.ocell (i := 3) rfl rfl)) rfl ?_
    refine WL.v (Runs.boolT (c := true) (Runs.eql rfl rfl) (by rw [decide_eq_true_eq]; omega)) rfl ?_
    refine WL.v (Runs.move rfl) rfl ?_
    refine WL.gon rfl rfl rfl ?_
    refine WL.v (Runs.boolT (c := true) (Runs.move rfl) p0) rfl ?_
    refine WL.gon rfl rfl rfl ?_
    refine WL.v (Runs.not rfl) rfl ?_
    refine WL.v (Runs.pick rfl rfl rfl) rfl ?_
    refine WL.v (Runs.move rfl) rfl ?_
    refine WL.goff rfl rfl rfl rfl ?_
    refine WL.goff rfl rfl rfl rfl ?_
    refine WL.goff rfl rfl rfl rfl ?_
    refine WL.v (Runs.pick rfl rfl rfl) rfl ?_
    refine WL.nil (WN.thn ?_)
    refine WC.condF rfl (rfl) ?_
    refine WC.skip (WN.thn (WC.seq (WC.reg ?_)))
    refine WL.v (Runs.fld fld27_0 rfl) rfl ?_
    refine WL.v (Runs.load1 Try.underlying3 rfl rfl (h24.ocell (i := 3) rfl rfl)) rfl ?_
    refine WL.v (Runs.boolT (c := false) (Runs.eql rfl rfl) (by rw [decide_eq_false_iff_not]; omega)) rfl ?_
    refine WL.v (Runs.move rfl) rfl ?_
    refine WL.goff rfl rfl rfl rfl ?_
    refine WL.v (Runs.pick rfl rfl rfl) rfl ?_
    refine WL.v (Runs.move rfl) rfl ?_
    refine WL.goff rfl rfl rfl rfl ?_
    refine WL.goff rfl rfl rfl rfl ?_
    refine WL.goff rfl rfl rfl rfl ?_
    refine WL.v (Runs.pick rfl rfl rfl) rfl ?_
    refine WL.v (Runs.fld fld49_6 rfl) rfl ?_
    refine WL.store' h24 0 rfl rfl rfl inf4 rfl rfl (Free.zero _) (Nat.le_of_ble_eq_true rfl) ?_
    intro  w25 h25
    try simp only [lz, ls, ez, es'] at h25
    refine WL.nil (WN.thn (WC.seq (WC.reg ?_)))
    refine WL.v (Runs.loadAll h25 0 rfl Try.underlying49 rfl inf49 rfl rfl) rfl ?_
    refine WL.storeAll h25 2 rfl rfl rfl inf49 rfl rfl rfl (Free.zero _) ?_
    intro  w26 h26
    try simp only [lz, ls, ez, es'] at h26
    refine WL.nil (WN.thn (WC.ret ?_))
    have hv : turnA id z m = { wrM m 4 0 with kil := true } := (show turnA id z m = abortA z m from (if_neg (by omega)).trans (if_pos (by omega))).trans (by unfold abortA; rw [if_pos (show phB z m 0 = true from by unfold phB; rw [p0, decide_eq_true p1]; rfl)])
    refine retA rfl (ResOk.blk h26 2 rfl Try.underlying49 rfl inf49 rfl rfl) ⟨F, none, 0, Le.refl F, by rw [hv] <;> rfl, by rw [hv]; exact .inl rfl, (((((h26.drop 0).drop 0).drop 0).drop 0).drop 0)⟩
  · skip
    refine WC.reg ?_
    refine WL.v (Runs.fld fld27_0 rfl) rfl ?_
    refine WL.v (Runs.load1 Try.underlying3 rfl rfl (h8.ocell (i := 3) rfl rfl)) rfl ?_
    refine WL.v (Runs.boolT (c := false) (Runs.eql rfl rfl) (by rw [decide_eq_false_iff_not]; omega)) rfl ?_
    refine WL.v (Runs.move rfl) rfl ?_
    refine WL.goff rfl rfl rfl rfl ?_
    refine WL.v (Runs.pick rfl rfl rfl) rfl ?_
    refine WL.v (Runs.move rfl) rfl ?_
    refine WL.goff rfl rfl rfl rfl ?_
    refine WL.goff rfl rfl rfl rfl ?_
    refine WL.goff rfl rfl rfl rfl ?_
    refine WL.v (Runs.pick rfl rfl rfl) rfl ?_
    refine WL.nil (WN.thn ?_)
    refine WC.condF rfl (rfl) ?_
    refine WC.skip (WN.thn (WC.seq (WC.seq (WC.reg ?_))))
    refine WL.v (Runs.fld fld27_0 rfl) rfl ?_
    refine WL.v (Runs.load1 Try.underlying3 rfl rfl (h8.ocell (i := 3) rfl rfl)) rfl ?_
    refine WL.v (Runs.boolT (c := false) (Runs.eql rfl rfl) (by rw [decide_eq_false_iff_not]; omega)) rfl ?_
    refine WL.v (Runs.move rfl) rfl ?_
    refine WL.goff rfl rfl rfl rfl ?_
    refine WL.v (Runs.pick rfl rfl rfl) rfl ?_
    refine WL.v (Runs.move rfl) rfl ?_
    refine WL.goff rfl rfl rfl rfl ?_
    refine WL.goff rfl rfl rfl rfl ?_
    refine WL.goff rfl rfl rfl rfl ?_
    refine WL.v (Runs.pick rfl rfl rfl) rfl ?_
    refine WL.nil (WN.thn ?_)
    refine WC.condF rfl (rfl) ?_
    refine WC.skip (WN.thn (WC.seq (WC.seq (WC.reg ?_))))
    refine WL.v (Runs.fld fld27_0 rfl) rfl ?_
    refine WL.v (Runs.load1 Try.underlying3 rfl rfl (h8.ocell (i := 3) rfl rfl)) rfl ?_
    refine WL.v (Runs.boolT (c := true) (Runs.eql rfl rfl) (by rw [decide_eq_true_eq]; omega)) rfl ?_
    refine WL.v (Runs.move rfl) rfl ?_
    refine WL.gon rfl rfl rfl ?_
    refine WL.v (Runs.boolT (c := true) (Runs.move rfl) p0) rfl ?_
    refine WL.v (Runs.pick rfl rfl rfl) rfl ?_
    refine WL.v (Runs.move rfl) rfl ?_
    refine WL.gon rfl rfl rfl ?_
    refine WL.v (Runs.fld fld79_3 rfl) rfl ?_
    refine WL.gon rfl rfl rfl ?_
    refine WL.v (Runs.load1 Try.underlying3 rfl rfl (h8.ocell (i := 1) rfl rfl)) rfl ?_
    refine WL.gon rfl rfl rfl ?_
    refine WL.v (Runs.boolT (c := false) (Runs.eql rfl rfl) (decide_eq_false p1)) rfl ?_
    refine WL.v (Runs.pick rfl rfl rfl) rfl ?_
    refine WL.nil (WN.thn ?_)
    refine WC.condF rfl (rfl) ?_
    refine WC.skip (WN.thn (WC.seq (WC.seq (WC.reg ?_))))
    refine WL.v (Runs.fld fld27_0 rfl) rfl ?_
    refine WL.v (Runs.load1 Try.underlying3 rfl rfl (h8.ocell (i := 3) rfl rfl)) rfl ?_
    refine WL.v (Runs.boolT (c := true) (Runs.eql rfl rfl) (by rw [decide_eq_true_eq]; omega)) rfl ?_
    refine WL.v (Runs.move rfl) rfl ?_
    refine WL.gon rfl rfl rfl ?_
    refine WL.v (Runs.boolT (c := true) (Runs.move rfl) p0) rfl ?_
    refine WL.gon rfl rfl rfl ?_
    refine WL.v (Runs.not rfl) rfl ?_
    refine WL.v (Runs.pick rfl rfl rfl) rfl ?_
    refine WL.v (Runs.move rfl) rfl ?_
    refine WL.goff rfl rfl rfl rfl ?_
    refine WL.goff rfl rfl rfl rfl ?_
    refine WL.goff rfl rfl rfl rfl ?_
    refine WL.v (Runs.pick rfl rfl rfl) rfl ?_
    refine WL.nil (WN.thn ?_)
    refine WC.condF rfl (rfl) ?_
    refine WC.skip (WN.thn (WC.seq (WC.reg ?_)))
    refine WL.v (Runs.fld fld27_0 rfl) rfl ?_
    refine WL.v (Runs.load1 Try.underlying3 rfl rfl (h8.ocell (i := 3) rfl rfl)) rfl ?_
    refine WL.v (Runs.boolT (c := false) (Runs.eql rfl rfl) (by rw [decide_eq_false_iff_not]; omega)) rfl ?_
    refine WL.v (Runs.move rfl) rfl ?_
    refine WL.goff rfl rfl rfl rfl ?_
    refine WL.v (Runs.pick rfl rfl rfl) rfl ?_
    refine WL.v (Runs.move rfl) rfl ?_
    refine WL.goff rfl rfl rfl rfl ?_
    refine WL.goff rfl rfl rfl rfl ?_
    refine WL.goff rfl rfl rfl rfl ?_
    refine WL.v (Runs.pick rfl rfl rfl) rfl ?_
    refine WL.v (Runs.fld fld49_6 rfl) rfl ?_
    refine WL.store' h8 0 rfl rfl rfl inf4 rfl rfl (Free.zero _) (Nat.le_of_ble_eq_true rfl) ?_
    intro  w27 h27
    try simp only [lz, ls, ez, es'] at h27
    refine WL.nil (WN.thn (WC.seq (WC.reg ?_)))
    refine WL.v (Runs.loadAll h27 0 rfl Try.underlying49 rfl inf49 rfl rfl) rfl ?_
    refine WL.storeAll h27 2 rfl rfl rfl inf49 rfl rfl rfl (Free.zero _) ?_
    intro  w28 h28
    try simp only [lz, ls, ez, es'] at h28
    refine WL.nil (WN.thn (WC.ret ?_))
    have hv : turnA id z m = A0 := (show turnA id z m = abortA z m from (if_neg (by omega)).trans (if_pos (by omega))).trans (by unfold abortA; rw [if_neg (show ¬ phB z m 0 = true from by unfold phB; rw [p0, decide_eq_false p1]; decide), if_neg (by rw [p0]; simp)])
    refine retA rfl (ResOk.blk h28 2 rfl Try.underlying49 rfl inf49 rfl rfl) ⟨F, none, 0, Le.refl F, by rw [hv] <;> rfl, by rw [hv]; exact .inl rfl, (((((h28.drop 0).drop 0).drop 0).drop 0).drop 0)⟩
  · skip
    refine WC.reg ?_
    refine WL.v (Runs.fld fld27_0 rfl) rfl ?_
    refine WL.v (Runs.load1 Try.underlying3 rfl rfl (h8.ocell (i := 3) rfl rfl)) rfl ?_
    refine WL.v (Runs.boolT (c := false) (Runs.eql rfl rfl) (by rw [decide_eq_false_iff_not]; omega)) rfl ?_
    refine WL.v (Runs.move rfl) rfl ?_
    refine WL.goff rfl rfl rfl rfl ?_
    refine WL.v (Runs.pick rfl rfl rfl) rfl ?_
    refine WL.v (Runs.move rfl) rfl ?_
    refine WL.goff rfl rfl rfl rfl ?_
    refine WL.goff rfl rfl rfl rfl ?_
    refine WL.goff rfl rfl rfl rfl ?_
    refine WL.v (Runs.pick rfl rfl rfl) rfl ?_
    refine WL.nil (WN.thn ?_)
    refine WC.condF rfl (rfl) ?_
    refine WC.skip (WN.thn (WC.seq (WC.seq (WC.reg ?_))))
    refine WL.v (Runs.fld fld27_0 rfl) rfl ?_
    refine WL.v (Runs.load1 Try.underlying3 rfl rfl (h8.ocell (i := 3) rfl rfl)) rfl ?_
    refine WL.v (Runs.boolT (c := false) (Runs.eql rfl rfl) (by rw [decide_eq_false_iff_not]; omega)) rfl ?_
    refine WL.v (Runs.move rfl) rfl ?_
    refine WL.goff rfl rfl rfl rfl ?_
    refine WL.v (Runs.pick rfl rfl rfl) rfl ?_
    refine WL.v (Runs.move rfl) rfl ?_
    refine WL.goff rfl rfl rfl rfl ?_
    refine WL.goff rfl rfl rfl rfl ?_
    refine WL.goff rfl rfl rfl rfl ?_
    refine WL.v (Runs.pick rfl rfl rfl) rfl ?_
    refine WL.nil (WN.thn ?_)
    refine WC.condF rfl (rfl) ?_
    refine WC.skip (WN.thn (WC.seq (WC.seq (WC.reg ?_))))
    refine WL.v (Runs.fld fld27_0 rfl) rfl ?_
    refine WL.v (Runs.load1 Try.underlying3 rfl rfl (h8.ocell (i := 3) rfl rfl)) rfl ?_
    refine WL.v (Runs.boolT (c := true) (Runs.eql rfl rfl) (by rw [decide_eq_true_eq]; omega)) rfl ?_
    refine WL.v (Runs.move rfl) rfl ?_
    refine WL.gon rfl rfl rfl ?_
    refine WL.v (Runs.boolT (c := false) (Runs.move rfl) p0) rfl ?_
    refine WL.v (Runs.pick rfl rfl rfl) rfl ?_
    refine WL.v (Runs.move rfl) rfl ?_
    refine WL.goff rfl rfl rfl rfl ?_
    refine WL.goff rfl rfl rfl rfl ?_
    refine WL.goff rfl rfl rfl rfl ?_
    refine WL.v (Runs.pick rfl rfl rfl) rfl ?_
    refine WL.nil (WN.thn ?_)
    refine WC.condF rfl (rfl) ?_
    refine WC.skip (WN.thn (WC.seq (WC.seq (WC.reg ?_))))
    refine WL.v (Runs.fld fld27_0 rfl) rfl ?_
    refine WL.v (Runs.load1 Try.underlying3 rfl rfl (h8.ocell (i := 3) rfl rfl)) rfl ?_
    refine WL.v (Runs.boolT (c := true) (Runs.eql rfl rfl) (by rw [decide_eq_true_eq]; omega)) rfl ?_
    refine WL.v (Runs.move rfl) rfl ?_
    refine WL.gon rfl rfl rfl ?_
    refine WL.v (Runs.boolT (c := false) (Runs.move rfl) p0) rfl ?_
    refine WL.gon rfl rfl rfl ?_
    refine WL.v (Runs.not rfl) rfl ?_
    refine WL.v (Runs.pick rfl rfl rfl) rfl ?_
    refine WL.v (Runs.move rfl) rfl ?_
    refine WL.gon rfl rfl rfl ?_
    refine WL.v (Runs.loadAll h8 4 rfl Try.underlying25 rfl inf25 rfl rfl) rfl ?_
    refine WL.gon rfl rfl rfl ?_
    refine WL.v (Runs.loadAll h8 3 rfl Try.underlying27 rfl inf27 rfl rfl) rfl ?_
    refine WL.gon rfl rfl rfl ?_
    refine WL.call can41 rfl rfl (qup_c _ hz hR h8) ?_
    rintro _ w29 ⟨rfl, h29⟩
    refine ⟨_, rfl, ?_⟩
    refine WL.v (Runs.pick rfl rfl rfl) rfl ?_
    refine WL.nil (WN.thn ?_)
    refine WC.cond rfl (fun c30 => ?_) (fun c30 => ?_)
    · try simp only [dt, df, nt, nf, ba, il, ie] at c30
      first
      | (exfalso; omega)
      | skip
        refine WC.reg ?_
        refine WL.v (Runs.loadAll h29 0 rfl Try.underlying49 rfl inf49 rfl rfl) rfl ?_
        refine WL.v (Runs.loadAll h29 3 rfl Try.underlying27 rfl inf27 rfl rfl) rfl ?_
        refine WL.call can49 rfl rfl ((show Calls _ _ #[.agg (acv none 0 A0), _, _, _] _ _ from qwrite_c _ (m := m) (a := A0) 2 0 h29)) ?_
        rintro _ w31 ⟨rfl, h31⟩
        refine ⟨_, rfl, ?_⟩
        refine WL.storeAll h31 0 rfl rfl rfl inf49 rfl rfl rfl (Free.zero _) ?_
        intro  w32 h32
        try simp only [lz, ls, ez, es'] at h32
        refine WL.nil (WN.thn (WC.seq (WC.reg ?_)))
        refine WL.v (Runs.fld fld27_0 rfl) rfl ?_
        refine WL.v (Runs.load1 Try.underlying3 rfl rfl (h32.ocell (i := 3) rfl rfl)) rfl ?_
        refine WL.v (Runs.boolT (c := false) (Runs.eql rfl rfl) (by rw [decide_eq_false_iff_not]; omega)) rfl ?_
        refine WL.v (Runs.move rfl) rfl ?_
        refine WL.goff rfl rfl rfl rfl ?_
        refine WL.v (Runs.pick rfl rfl rfl) rfl ?_
        refine WL.v (Runs.move rfl) rfl ?_
        refine WL.goff rfl rfl rfl rfl ?_
        refine WL.goff rfl rfl rfl rfl ?_
        refine WL.goff rfl rfl rfl rfl ?_
        refine WL.v (Runs.pick rfl rfl rfl) rfl ?_
        refine WL.v (Runs.fld fld49_6 rfl) rfl ?_
        refine WL.store' h32 0 rfl rfl rfl inf4 rfl rfl (Free.zero _) (Nat.le_of_ble_eq_true rfl) ?_
        intro  w33 h33
        try simp only [lz, ls, ez, es'] at h33
        refine WL.nil (WN.thn (WC.seq (WC.reg ?_)))
        refine WL.v (Runs.loadAll h33 0 rfl Try.underlying49 rfl inf49 rfl rfl) rfl ?_
        refine WL.storeAll h33 2 rfl rfl rfl inf49 rfl rfl rfl (Free.zero _) ?_
        intro  w34 h34
        try simp only [lz, ls, ez, es'] at h34
        refine WL.nil (WN.thn (WC.ret ?_))
        have hv : turnA id z m = wrM m 2 0 := (show turnA id z m = abortA z m from (if_neg (by omega)).trans (if_pos (by omega))).trans (by unfold abortA; rw [if_neg (show ¬ phB z m 0 = true from by unfold phB; rw [p0]; simp), if_pos (by rw [p0, c30]; rfl)])
        refine retA rfl (ResOk.blk h34 2 rfl Try.underlying49 rfl inf49 rfl rfl) ⟨F, none, 0, Le.refl F, by rw [hv] <;> rfl, by rw [hv]; exact .inl rfl, (((((h34.drop 0).drop 0).drop 0).drop 0).drop 0)⟩
    · try simp only [dt, df, nt, nf, ba, il, ie] at c30
      first
      | (exfalso; omega)
      | skip
        refine WC.skip (WN.thn (WC.seq (WC.reg ?_)))
        refine WL.v (Runs.fld fld27_0 rfl) rfl ?_
        refine WL.v (Runs.load1 Try.underlying3 rfl rfl (h29.ocell (i := 3) rfl rfl)) rfl ?_
        refine WL.v (Runs.boolT (c := false) (Runs.eql rfl rfl) (by rw [decide_eq_false_iff_not]; omega)) rfl ?_
        refine WL.v (Runs.move rfl) rfl ?_
        refine WL.goff rfl rfl rfl rfl ?_
        refine WL.v (Runs.pick rfl rfl rfl) rfl ?_
        refine WL.v (Runs.move rfl) rfl ?_
        refine WL.goff rfl rfl rfl rfl ?_
        refine WL.goff rfl rfl rfl rfl ?_
        refine WL.goff rfl rfl rfl rfl ?_
        refine WL.v (Runs.pick rfl rfl rfl) rfl ?_
        refine WL.v (Runs.fld fld49_6 rfl) rfl ?_
        refine WL.store' h29 0 rfl rfl rfl inf4 rfl rfl (Free.zero _) (Nat.le_of_ble_eq_true rfl) ?_
        intro  w35 h35
        try simp only [lz, ls, ez, es'] at h35
        refine WL.nil (WN.thn (WC.seq (WC.reg ?_)))
        refine WL.v (Runs.loadAll h35 0 rfl Try.underlying49 rfl inf49 rfl rfl) rfl ?_
        refine WL.storeAll h35 2 rfl rfl rfl inf49 rfl rfl rfl (Free.zero _) ?_
        intro  w36 h36
        try simp only [lz, ls, ez, es'] at h36
        refine WL.nil (WN.thn (WC.ret ?_))
        have hv : turnA id z m = A0 := (show turnA id z m = abortA z m from (if_neg (by omega)).trans (if_pos (by omega))).trans (by unfold abortA; rw [if_neg (show ¬ phB z m 0 = true from by unfold phB; rw [p0]; simp), if_neg (by rw [p0, c30]; decide)])
        refine retA rfl (ResOk.blk h36 2 rfl Try.underlying49 rfl inf49 rfl rfl) ⟨F, none, 0, Le.refl F, by rw [hv] <;> rfl, by rw [hv]; exact .inl rfl, (((((h36.drop 0).drop 0).drop 0).drop 0).drop 0)⟩
  · skip
    refine WC.reg ?_
    refine WL.v (Runs.fld fld27_0 rfl) rfl ?_
    refine WL.v (Runs.load1 Try.underlying3 rfl rfl (h8.ocell (i := 3) rfl rfl)) rfl ?_
    refine WL.v (Runs.boolT (c := false) (Runs.eql rfl rfl) (by rw [decide_eq_false_iff_not]; omega)) rfl ?_
    refine WL.v (Runs.move rfl) rfl ?_
    refine WL.goff rfl rfl rfl rfl ?_
    refine WL.v (Runs.pick rfl rfl rfl) rfl ?_
    refine WL.v (Runs.move rfl) rfl ?_
    refine WL.goff rfl rfl rfl rfl ?_
    refine WL.goff rfl rfl rfl rfl ?_
    refine WL.goff rfl rfl rfl rfl ?_
    refine WL.v (Runs.pick rfl rfl rfl) rfl ?_
    refine WL.nil (WN.thn ?_)
    refine WC.condF rfl (rfl) ?_
    refine WC.skip (WN.thn (WC.seq (WC.seq (WC.reg ?_))))
    refine WL.v (Runs.fld fld27_0 rfl) rfl ?_
    refine WL.v (Runs.load1 Try.underlying3 rfl rfl (h8.ocell (i := 3) rfl rfl)) rfl ?_
    refine WL.v (Runs.boolT (c := false) (Runs.eql rfl rfl) (by rw [decide_eq_false_iff_not]; omega)) rfl ?_
    refine WL.v (Runs.move rfl) rfl ?_
    refine WL.goff rfl rfl rfl rfl ?_
    refine WL.v (Runs.pick rfl rfl rfl) rfl ?_
    refine WL.v (Runs.move rfl) rfl ?_
    refine WL.goff rfl rfl rfl rfl ?_
    refine WL.goff rfl rfl rfl rfl ?_
    refine WL.goff rfl rfl rfl rfl ?_
    refine WL.v (Runs.pick rfl rfl rfl) rfl ?_
    refine WL.nil (WN.thn ?_)
    refine WC.condF rfl (rfl) ?_
    refine WC.skip (WN.thn (WC.seq (WC.seq (WC.reg ?_))))
    refine WL.v (Runs.fld fld27_0 rfl) rfl ?_
    refine WL.v (Runs.load1 Try.underlying3 rfl rfl (h8.ocell (i := 3) rfl rfl)) rfl ?_
    refine WL.v (Runs.boolT (c := false) (Runs.eql rfl rfl) (by rw [decide_eq_false_iff_not]; omega)) rfl ?_
    refine WL.v (Runs.move rfl) rfl ?_
    refine WL.goff rfl rfl rfl rfl ?_
    refine WL.v (Runs.pick rfl rfl rfl) rfl ?_
    refine WL.v (Runs.move rfl) rfl ?_
    refine WL.goff rfl rfl rfl rfl ?_
    refine WL.goff rfl rfl rfl rfl ?_
    refine WL.goff rfl rfl rfl rfl ?_
    refine WL.v (Runs.pick rfl rfl rfl) rfl ?_
    refine WL.nil (WN.thn ?_)
    refine WC.condF rfl (rfl) ?_
    refine WC.skip (WN.thn (WC.seq (WC.seq (WC.reg ?_))))
    refine WL.v (Runs.fld fld27_0 rfl) rfl ?_
    refine WL.v (Runs.load1 Try.underlying3 rfl rfl (h8.ocell (i := 3) rfl rfl)) rfl ?_
    refine WL.v (Runs.boolT (c := false) (Runs.eql rfl rfl) (by rw [decide_eq_false_iff_not]; omega)) rfl ?_
    refine WL.v (Runs.move rfl) rfl ?_
    refine WL.goff rfl rfl rfl rfl ?_
    refine WL.goff rfl rfl rfl rfl ?_
    refine WL.v (Runs.pick rfl rfl rfl) rfl ?_
    refine WL.v (Runs.move rfl) rfl ?_
    refine WL.goff rfl rfl rfl rfl ?_
    refine WL.goff rfl rfl rfl rfl ?_
    refine WL.goff rfl rfl rfl rfl ?_
    refine WL.v (Runs.pick rfl rfl rfl) rfl ?_
    refine WL.nil (WN.thn ?_)
    refine WC.condF rfl (rfl) ?_
    refine WC.skip (WN.thn (WC.seq (WC.reg ?_)))
    refine WL.v (Runs.fld fld27_0 rfl) rfl ?_
    refine WL.v (Runs.load1 Try.underlying3 rfl rfl (h8.ocell (i := 3) rfl rfl)) rfl ?_
    refine WL.v (Runs.boolT (c := true) (Runs.eql rfl rfl) (by rw [decide_eq_true_eq]; omega)) rfl ?_
    refine WL.v (Runs.move rfl) rfl ?_
    refine WL.gon rfl rfl rfl ?_
    refine WL.v (Runs.boolT (c := true) (Runs.move rfl) p0) rfl ?_
    refine WL.v (Runs.pick rfl rfl rfl) rfl ?_
    refine WL.v (Runs.move rfl) rfl ?_
    refine WL.gon rfl rfl rfl ?_
    refine WL.v (Runs.fld fld79_3 rfl) rfl ?_
    refine WL.gon rfl rfl rfl ?_
    refine WL.v (Runs.load1 Try.underlying3 rfl rfl (h8.ocell (i := 1) rfl rfl)) rfl ?_
    refine WL.gon rfl rfl rfl ?_
    refine WL.v (Runs.eql rfl rfl) rfl ?_
    refine WL.v (Runs.pick rfl rfl rfl) rfl ?_
    refine WL.v (Runs.fld fld49_6 rfl) rfl ?_
    refine WL.store' h8 0 rfl rfl rfl inf4 rfl rfl (Free.zero _) (Nat.le_of_ble_eq_true rfl) ?_
    intro  w37 h37
    try simp only [lz, ls, ez, es'] at h37
    refine WL.nil (WN.thn (WC.seq (WC.reg ?_)))
    refine WL.v (Runs.loadAll h37 0 rfl Try.underlying49 rfl inf49 rfl rfl) rfl ?_
    refine WL.storeAll h37 2 rfl rfl rfl inf49 rfl rfl rfl (Free.zero _) ?_
    intro  w38 h38
    try simp only [lz, ls, ez, es'] at h38
    refine WL.nil (WN.thn (WC.ret ?_))
    have hv : turnA id z m = { A0 with can := phB z m 1 } := (if_neg (by omega)).trans (if_neg (by omega))
    have hp : phB z m 1 = decide (phS z m = 1) := by unfold phB; rw [p0] <;> rfl
    refine retA rfl (ResOk.blk h38 2 rfl Try.underlying49 rfl inf49 rfl rfl) ⟨F, none, 0, Le.refl F, by rw [hv, hp] <;> rfl, by rw [hv]; exact .inl rfl, (((((h38.drop 0).drop 0).drop 0).drop 0).drop 0)⟩
  · skip
    refine WC.reg ?_
    refine WL.v (Runs.fld fld27_0 rfl) rfl ?_
    refine WL.v (Runs.load1 Try.underlying3 rfl rfl (h8.ocell (i := 3) rfl rfl)) rfl ?_
    refine WL.v (Runs.boolT (c := false) (Runs.eql rfl rfl) (by rw [decide_eq_false_iff_not]; omega)) rfl ?_
    refine WL.v (Runs.move rfl) rfl ?_
    refine WL.goff rfl rfl rfl rfl ?_
    refine WL.v (Runs.pick rfl rfl rfl) rfl ?_
    refine WL.v (Runs.move rfl) rfl ?_
    refine WL.goff rfl rfl rfl rfl ?_
    refine WL.goff rfl rfl rfl rfl ?_
    refine WL.goff rfl rfl rfl rfl ?_
    refine WL.v (Runs.pick rfl rfl rfl) rfl ?_
    refine WL.nil (WN.thn ?_)
    refine WC.condF rfl (rfl) ?_
    refine WC.skip (WN.thn (WC.seq (WC.seq (WC.reg ?_))))
    refine WL.v (Runs.fld fld27_0 rfl) rfl ?_
    refine WL.v (Runs.load1 Try.underlying3 rfl rfl (h8.ocell (i := 3) rfl rfl)) rfl ?_
    refine WL.v (Runs.boolT (c := false) (Runs.eql rfl rfl) (by rw [decide_eq_false_iff_not]; omega)) rfl ?_
    refine WL.v (Runs.move rfl) rfl ?_
    refine WL.goff rfl rfl rfl rfl ?_
    refine WL.v (Runs.pick rfl rfl rfl) rfl ?_
    refine WL.v (Runs.move rfl) rfl ?_
    refine WL.goff rfl rfl rfl rfl ?_
    refine WL.goff rfl rfl rfl rfl ?_
    refine WL.goff rfl rfl rfl rfl ?_
    refine WL.v (Runs.pick rfl rfl rfl) rfl ?_
    refine WL.nil (WN.thn ?_)
    refine WC.condF rfl (rfl) ?_
    refine WC.skip (WN.thn (WC.seq (WC.seq (WC.reg ?_))))
    refine WL.v (Runs.fld fld27_0 rfl) rfl ?_
    refine WL.v (Runs.load1 Try.underlying3 rfl rfl (h8.ocell (i := 3) rfl rfl)) rfl ?_
    refine WL.v (Runs.boolT (c := false) (Runs.eql rfl rfl) (by rw [decide_eq_false_iff_not]; omega)) rfl ?_
    refine WL.v (Runs.move rfl) rfl ?_
    refine WL.goff rfl rfl rfl rfl ?_
    refine WL.v (Runs.pick rfl rfl rfl) rfl ?_
    refine WL.v (Runs.move rfl) rfl ?_
    refine WL.goff rfl rfl rfl rfl ?_
    refine WL.goff rfl rfl rfl rfl ?_
    refine WL.goff rfl rfl rfl rfl ?_
    refine WL.v (Runs.pick rfl rfl rfl) rfl ?_
    refine WL.nil (WN.thn ?_)
    refine WC.condF rfl (rfl) ?_
    refine WC.skip (WN.thn (WC.seq (WC.seq (WC.reg ?_))))
    refine WL.v (Runs.fld fld27_0 rfl) rfl ?_
    refine WL.v (Runs.load1 Try.underlying3 rfl rfl (h8.ocell (i := 3) rfl rfl)) rfl ?_
    refine WL.v (Runs.boolT (c := false) (Runs.eql rfl rfl) (by rw [decide_eq_false_iff_not]; omega)) rfl ?_
    refine WL.v (Runs.move rfl) rfl ?_
    refine WL.goff rfl rfl rfl rfl ?_
    refine WL.goff rfl rfl rfl rfl ?_
    refine WL.v (Runs.pick rfl rfl rfl) rfl ?_
    refine WL.v (Runs.move rfl) rfl ?_
    refine WL.goff rfl rfl rfl rfl ?_
    refine WL.goff rfl rfl rfl rfl ?_
    refine WL.goff rfl rfl rfl rfl ?_
    refine WL.v (Runs.pick rfl rfl rfl) rfl ?_
    refine WL.nil (WN.thn ?_)
    refine WC.condF rfl (rfl) ?_
    refine WC.skip (WN.thn (WC.seq (WC.reg ?_)))
    refine WL.v (Runs.fld fld27_0 rfl) rfl ?_
    refine WL.v (Runs.load1 Try.underlying3 rfl rfl (h8.ocell (i := 3) rfl rfl)) rfl ?_
    refine WL.v (Runs.boolT (c := true) (Runs.eql rfl rfl) (by rw [decide_eq_true_eq]; omega)) rfl ?_
    refine WL.v (Runs.move rfl) rfl ?_
    refine WL.gon rfl rfl rfl ?_
    refine WL.v (Runs.boolT (c := false) (Runs.move rfl) p0) rfl ?_
    refine WL.v (Runs.pick rfl rfl rfl) rfl ?_
    refine WL.v (Runs.move rfl) rfl ?_
    refine WL.goff rfl rfl rfl rfl ?_
    refine WL.goff rfl rfl rfl rfl ?_
    refine WL.goff rfl rfl rfl rfl ?_
    refine WL.v (Runs.pick rfl rfl rfl) rfl ?_
    refine WL.v (Runs.fld fld49_6 rfl) rfl ?_
    refine WL.store' h8 0 rfl rfl rfl inf4 rfl rfl (Free.zero _) (Nat.le_of_ble_eq_true rfl) ?_
    intro  w39 h39
    try simp only [lz, ls, ez, es'] at h39
    refine WL.nil (WN.thn (WC.seq (WC.reg ?_)))
    refine WL.v (Runs.loadAll h39 0 rfl Try.underlying49 rfl inf49 rfl rfl) rfl ?_
    refine WL.storeAll h39 2 rfl rfl rfl inf49 rfl rfl rfl (Free.zero _) ?_
    intro  w40 h40
    try simp only [lz, ls, ez, es'] at h40
    refine WL.nil (WN.thn (WC.ret ?_))
    have hv : turnA id z m = { A0 with can := phB z m 1 } := (if_neg (by omega)).trans (if_neg (by omega))
    have hp : phB z m 1 = false := by unfold phB; rw [p0] <;> rfl
    refine retA rfl (ResOk.blk h40 2 rfl Try.underlying49 rfl inf49 rfl rfl) ⟨F, none, 0, Le.refl F, by rw [hv, hp] <;> rfl, by rw [hv]; exact .inl rfl, (((((h40.drop 0).drop 0).drop 0).drop 0).drop 0)⟩
set_option maxRecDepth 100000 in
set_option maxHeartbeats 8000000 in
theorem qfinish_c {W : World} {F : Snap} {cs : List Res} (w : World) {AJ AS : Option Addr} {cj cS : Nat} {z : Z} {Ap : Option Addr} {cp : Nat} {f : Fc} {m : M} (id : Int) (hz : few z) (hR : ZR F AJ AS z) (h : St W F cs w) : Calls Try.prog 37 #[Vi id, .agg #[.slice AJ z.js.length cj, .slice AS z.ss.length cS, .bool z.dr], .agg #[Vi m.kd, Vi m.fr, Vi m.to, Vi m.jb, Vi m.ep, Vi m.st, Vi m.ar, .string m.tx], .agg #[Vi f.cr, .slice Ap f.ps.length cp, Vi f.cd, .bool f.bz]] w fun e w' => GivesA W F cs (finishA id z m f) e w'  := by
  refine enter (P := Try.prog) (args := [Vi id, .agg #[.slice AJ z.js.length cj, .slice AS z.ss.length cS, .bool z.dr], .agg #[Vi m.kd, Vi m.fr, Vi m.to, Vi m.jb, Vi m.ep, Vi m.st, Vi m.ar, .string m.tx], .agg #[Vi f.cr, .slice Ap f.ps.length cp, Vi f.cd, .bool f.bz]]) Try.func37 rfl rfl rfl ?_
  have hzj := hz.j
  have hzs := hz.s
  refine WC.seq (WC.reg ?_)
  refine WL.box rfl h rfl ?_
  intro b5 w1 h1
  refine WL.box rfl h1 rfl ?_
  intro b6 w2 h2
  refine WL.box rfl h2 rfl ?_
  intro b7 w3 h3
  refine WL.alloc' rfl h3 inf49 ?_
  intro b8 w4 h4
  refine WL.nil (WN.thn (WC.seq (WC.reg ?_)))
  refine WL.v (Runs.loadAll h4 3 rfl Try.underlying25 rfl inf25 rfl rfl) rfl ?_
  refine WL.v (Runs.fld fld27_3 rfl) rfl ?_
  refine WL.v (Runs.load1 Try.underlying3 rfl rfl (h4.ocell (i := 2) rfl rfl)) rfl ?_
  refine WL.v (Runs.fld fld27_4 rfl) rfl ?_
  refine WL.v (Runs.load1 Try.underlying3 rfl rfl (h4.ocell (i := 2) rfl rfl)) rfl ?_
  refine WL.call can59 rfl rfl (qfind_c _ m.jb m.ep h4 hR.j (by omega)) ?_
  rintro _ w5 ⟨rfl, h5⟩
  refine ⟨_, rfl, ?_⟩
  refine WL.v (Runs.move rfl) rfl ?_
  refine WL.v (Runs.extract rfl rfl) rfl ?_
  refine WL.v (Runs.extract rfl rfl) rfl ?_
  refine WL.alloc' rfl h5 inf76 ?_
  intro b9 w6 h6
  refine WL.storeAll h6 0 rfl rfl rfl inf76 rfl rfl rfl (Free.zero _) ?_
  intro  w7 h7
  try simp only [lz, ls, ez, es'] at h7
  refine WL.v (Runs.assign rfl) rfl ?_
  refine WL.nil (WN.thn (WC.seq (WC.seq ?_)))
  rcases hasCase (hasJ z m = true) (phJ z m = 2) with ⟨p0, p1⟩ | ⟨p0, p1⟩ | p0
  · skip
    refine WC.reg ?_
    refine WL.v (Runs.boolT (c := true) (Runs.move rfl) p0) rfl ?_
    refine WL.v (Runs.move rfl) rfl ?_
    refine WL.gon rfl rfl rfl ?_
    refine WL.v (Runs.fld fld76_2 rfl) rfl ?_
    refine WL.gon rfl rfl rfl ?_
    refine WL.v (Runs.load1 Try.underlying3 rfl rfl (h7.ocell (i := 0) rfl rfl)) rfl ?_
    refine WL.gon rfl rfl rfl ?_
    refine WL.v (Runs.boolT (c := true) (Runs.eql rfl rfl) (decide_eq_true p1)) rfl ?_
    refine WL.v (Runs.pick rfl rfl rfl) rfl ?_
    refine WL.v (Runs.move rfl) rfl ?_
    refine WL.goff rfl rfl rfl rfl ?_
    refine WL.goff rfl rfl rfl rfl ?_
    refine WL.goff rfl rfl rfl rfl ?_
    refine WL.goffU rfl rfl rfl ?_
    refine WL.goffU rfl rfl rfl ?_
    refine WL.goffU rfl rfl rfl ?_
    refine WL.goff rfl rfl rfl rfl ?_
    refine WL.v (Runs.pick rfl rfl rfl) rfl ?_
    refine WL.nil (WN.thn ?_)
    refine WC.condT rfl (rfl) ?_
    refine WC.seq (WC.reg ?_)
    refine WL.v (Runs.build (vs := []) (cells := #[.bool false, Vi 0, Vi 0, Vi 0, Vi 0, Vi 0, .slice none 0 0, .bool false, Vi 0, Vi 0, Vi 0, Vi 0, Vi 0, Vi 0, Vi 0, .string ⟨#[]⟩, .bool false, .bool false, .bool false]) rfl (by kernel_rfl)) rfl ?_
    refine WL.v (Runs.move rfl) rfl ?_
    refine WL.v (Runs.loadAll h7 3 rfl Try.underlying27 rfl inf27 rfl rfl) rfl ?_
    refine WL.call can48 rfl rfl ((show Calls _ _ #[.agg (acv none 0 A0), _, _, _, _] _ _ from qanswer_c _ id (m := m) (a := A0) 9 0 h7)) ?_
    rintro _ w8 ⟨rfl, h8⟩
    refine ⟨_, rfl, ?_⟩
    refine WL.storeAll h8 1 rfl rfl rfl inf49 rfl rfl rfl (Free.zero _) ?_
    intro  w9 h9
    try simp only [lz, ls, ez, es'] at h9
    refine WL.nil (WN.thn (WC.ret ?_))
    have hv : finishA id z m f = anM id m A0 9 0 := by unfold finishA; rw [if_pos (.inl ⟨p0, p1⟩)]
    refine retA rfl (ResOk.blk h9 1 rfl Try.underlying49 rfl inf49 rfl rfl) ⟨F, none, 0, Le.refl F, by rw [hv] <;> rfl, by rw [hv]; exact .inl rfl, (((((h9.drop 0).drop 0).drop 0).drop 0).drop 0)⟩
  · skip
    refine WC.reg ?_
    refine WL.v (Runs.boolT (c := true) (Runs.move rfl) p0) rfl ?_
    refine WL.v (Runs.move rfl) rfl ?_
    refine WL.gon rfl rfl rfl ?_
    refine WL.v (Runs.fld fld76_2 rfl) rfl ?_
    refine WL.gon rfl rfl rfl ?_
    refine WL.v (Runs.load1 Try.underlying3 rfl rfl (h7.ocell (i := 0) rfl rfl)) rfl ?_
    refine WL.gon rfl rfl rfl ?_
    refine WL.v (Runs.boolT (c := false) (Runs.eql rfl rfl) (decide_eq_false p1)) rfl ?_
    refine WL.v (Runs.pick rfl rfl rfl) rfl ?_
    refine WL.v (Runs.move rfl) rfl ?_
    refine WL.gon rfl rfl rfl ?_
    refine WL.v (Runs.boolT (c := true) (Runs.move rfl) p0) rfl ?_
    refine WL.gon rfl rfl rfl ?_
    refine WL.v (Runs.not rfl) rfl ?_
    refine WL.gon rfl rfl rfl ?_
    refine WL.v (Runs.move rfl) rfl ?_
    refine WL.goff rfl rfl rfl rfl ?_
    refine WL.goff rfl rfl rfl rfl ?_
    refine WL.goff rfl rfl rfl rfl ?_
    refine WL.gon rfl rfl rfl ?_
    refine WL.v (Runs.pick rfl rfl rfl) rfl ?_
    refine WL.v (Runs.pick rfl rfl rfl) rfl ?_
    refine WL.nil (WN.thn ?_)
    refine WC.condF rfl (rfl) ?_
    refine WC.skip (WN.thn (WC.seq (WC.seq (WC.reg ?_))))
    refine WL.v (Runs.boolT (c := true) (Runs.move rfl) p0) rfl ?_
    refine WL.v (Runs.not rfl) rfl ?_
    refine WL.nil (WN.thn ?_)
    refine WC.condF rfl (rfl) ?_
    refine WC.skip (WN.thn (WC.seq (WC.seq ?_)))
    rcases Bool.eq_false_or_eq_true (aliveM z m.jb m.ep) with g0 | g0
    · skip
      refine WC.reg ?_
      refine WL.v (Runs.loadAll h7 4 rfl Try.underlying25 rfl inf25 rfl rfl) rfl ?_
      refine WL.v (Runs.fld fld27_3 rfl) rfl ?_
      refine WL.v (Runs.load1 Try.underlying3 rfl rfl (h7.ocell (i := 3) rfl rfl)) rfl ?_
      refine WL.v (Runs.fld fld27_4 rfl) rfl ?_
      refine WL.v (Runs.load1 Try.underlying3 rfl rfl (h7.ocell (i := 3) rfl rfl)) rfl ?_
      refine WL.call can61 rfl rfl (qalive_c _ m.jb m.ep h7 hR.s (by omega)) ?_
      rintro _ w10 ⟨rfl, h10⟩
      refine ⟨_, rfl, ?_⟩
      refine WL.v (Runs.boolT (c := true) (Runs.move rfl) g0) rfl ?_
      refine WL.goff rfl rfl rfl rfl ?_
      refine WL.goff rfl rfl rfl rfl ?_
      refine WL.v (Runs.pick rfl rfl rfl) rfl ?_
      refine WL.nil (WN.thn ?_)
      refine WC.condT rfl (rfl) ?_
      refine WC.seq (WC.reg ?_)
      refine WL.v (Runs.build (vs := []) (cells := #[.bool false, Vi 0, Vi 0, Vi 0, Vi 0, Vi 0, .slice none 0 0, .bool false, Vi 0, Vi 0, Vi 0, Vi 0, Vi 0, Vi 0, Vi 0, .string ⟨#[]⟩, .bool false, .bool false, .bool false]) rfl (by kernel_rfl)) rfl ?_
      refine WL.storeAll h10 1 rfl rfl rfl inf49 rfl rfl rfl (Free.zero _) ?_
      intro  w11 h11
      try simp only [lz, ls, ez, es'] at h11
      refine WL.nil (WN.thn (WC.ret ?_))
      have hv : finishA id z m f = A0 := by unfold finishA; rw [if_neg (by rintro (hh | hh); exact p1 hh.2; rw [p0] at hh; cases hh.1), if_neg (by rw [p0]; decide), if_pos (.inl g0)]
      refine retA rfl (ResOk.blk h11 1 rfl Try.underlying49 rfl inf49 rfl rfl) ⟨F, none, 0, Le.refl F, by rw [hv] <;> rfl, by rw [hv]; exact .inl rfl, (((((h11.drop 0).drop 0).drop 0).drop 0).drop 0)⟩
    · skip
      refine WC.reg ?_
      refine WL.v (Runs.loadAll h7 4 rfl Try.underlying25 rfl inf25 rfl rfl) rfl ?_
      refine WL.v (Runs.fld fld27_3 rfl) rfl ?_
      refine WL.v (Runs.load1 Try.underlying3 rfl rfl (h7.ocell (i := 3) rfl rfl)) rfl ?_
      refine WL.v (Runs.fld fld27_4 rfl) rfl ?_
      refine WL.v (Runs.load1 Try.underlying3 rfl rfl (h7.ocell (i := 3) rfl rfl)) rfl ?_
      refine WL.call can61 rfl rfl (qalive_c _ m.jb m.ep h7 hR.s (by omega)) ?_
      rintro _ w12 ⟨rfl, h12⟩
      refine ⟨_, rfl, ?_⟩
      refine WL.v (Runs.boolT (c := false) (Runs.move rfl) g0) rfl ?_
      refine WL.gon rfl rfl rfl ?_
      refine WL.v (Runs.fld fld31_3 rfl) rfl ?_
      refine WL.gon rfl rfl rfl ?_
      refine WL.v (Runs.load1 Try.underlying4 rfl rfl (h12.ocell (i := 2) rfl rfl)) rfl ?_
      refine WL.v (Runs.pick rfl rfl rfl) rfl ?_
      refine WL.nil (WN.thn ?_)
      refine WC.cond rfl (fun c13 => ?_) (fun c13 => ?_)
      · try simp only [dt, df, nt, nf, ba, il, ie] at c13
        first
        | (exfalso; omega)
        | skip
          refine WC.seq (WC.reg ?_)
          refine WL.v (Runs.build (vs := []) (cells := #[.bool false, Vi 0, Vi 0, Vi 0, Vi 0, Vi 0, .slice none 0 0, .bool false, Vi 0, Vi 0, Vi 0, Vi 0, Vi 0, Vi 0, Vi 0, .string ⟨#[]⟩, .bool false, .bool false, .bool false]) rfl (by kernel_rfl)) rfl ?_
          refine WL.storeAll h12 1 rfl rfl rfl inf49 rfl rfl rfl (Free.zero _) ?_
          intro  w14 h14
          try simp only [lz, ls, ez, es'] at h14
          refine WL.nil (WN.thn (WC.ret ?_))
          have hv : finishA id z m f = A0 := by unfold finishA; rw [if_neg (by rintro (hh | hh); exact p1 hh.2; rw [p0] at hh; cases hh.1), if_neg (by rw [p0]; decide), if_pos (.inr c13)]
          refine retA rfl (ResOk.blk h14 1 rfl Try.underlying49 rfl inf49 rfl rfl) ⟨F, none, 0, Le.refl F, by rw [hv] <;> rfl, by rw [hv]; exact .inl rfl, (((((h14.drop 0).drop 0).drop 0).drop 0).drop 0)⟩
      · try simp only [dt, df, nt, nf, ba, il, ie] at c13
        first
        | (exfalso; omega)
        | skip
          refine WC.skip (WN.thn (WC.seq ?_))
          refine WC.eregK h12 h12 (fun s_ => ([11] : List Nat).any (Nat.beq s_)) mixed (by kernel_rfl) (fun hx => ?_)
          intro w15 h15
          refine WE.p0 hx 0 (by rfl) (fun w_ => Runs.build (vs := []) (cells := #[.bool false, Vi 0, Vi 0, Vi 0, Vi 0, Vi 0, .slice none 0 0, .bool false, Vi 0, Vi 0, Vi 0, Vi 0, Vi 0, Vi 0, Vi 0, .string ⟨#[]⟩, .bool false, .bool false, .bool false]) rfl (by kernel_rfl)) rfl ?_
          refine WE.p0 hx 2 (by rfl) (fun w_ => Runs.fld fld31_2 rfl) rfl ?_
          refine WE.p0 hx 5 (by rfl) (fun w_ => Runs.move rfl) rfl ?_
          refine WE.p0 hx 7 (by rfl) (fun w_ => Runs.fld fld31_2 rfl) rfl ?_
          refine WE.v0 12 hx 1 (by rfl) (fun w_ hE_ => Runs.loadAll hE_ 3 rfl Try.underlying27 rfl inf27 rfl rfl) rfl ?_
          refine WE.v0 12 hx 3 (by rfl) (fun w_ hE_ => Runs.load1 Try.underlying3 rfl rfl (hE_.ocell (i := 2) rfl rfl)) rfl ?_
          refine WE.v0 12 hx 6 (by rfl) (fun w_ hE_ => Runs.loadAll hE_ 3 rfl Try.underlying27 rfl inf27 rfl rfl) rfl ?_
          refine WE.v0 12 hx 8 (by rfl) (fun w_ hE_ => Runs.load1 Try.underlying3 rfl rfl (hE_.ocell (i := 2) rfl rfl)) rfl ?_
          refine WE.p0 hx 9 (by rfl) (fun w_ => Runs.min rfl rfl) rfl ?_
          refine WE.op (.inr h15) (i := 4) (by rfl) (by kernel_rfl) ?_
          refine WL.call can49 rfl rfl ((show Calls _ _ #[.agg (acv none 0 A0), _, _, _] _ _ from qwrite_c _ (m := m) (a := A0) 6 f.cd h15)) ?_
          rintro _ w16 ⟨rfl, h16⟩
          refine ⟨_, rfl, ?_⟩
          refine WL.nil (WE.next ?_)
          refine WE.op (.inr h16) (i := 10) (by rfl) (by kernel_rfl) ?_
          refine WL.call can48 rfl rfl ((show Calls _ _ #[.agg (acv none 0 (wrM m 6 f.cd)), _, _, _, _] _ _ from qanswer_c _ id (m := m) (a := (wrM m 6 f.cd)) 9 (mn1 f.cd) h16)) ?_
          rintro _ w17 ⟨rfl, h17⟩
          refine ⟨_, rfl, ?_⟩
          refine WL.nil (WE.next ?_)
          refine WE.op (.inr h17) (i := 11) (by rfl) (by kernel_rfl) ?_
          refine WL.storeAll h17 1 rfl rfl rfl inf49 rfl rfl rfl (Free.zero _) ?_
          intro  w18 h18
          try simp only [lz, ls, ez, es'] at h18
          refine WL.nil (WE.next ?_)
          refine WE.fin (.inl ⟨11, rfl, by kernel_rfl⟩) (by kernel_rfl) ?_
          refine WN.thn (WC.ret ?_)
          have hv : finishA id z m f = anM id m (wrM m 6 f.cd) 9 (mn1 f.cd) := by unfold finishA; rw [if_neg (by rintro (hh | hh); exact p1 hh.2; rw [p0] at hh; cases hh.1), if_neg (by rw [p0]; decide), if_neg (by rintro (hh | hh); rw [g0] at hh; cases hh; rw [c13] at hh; cases hh)]
          refine retA rfl (ResOk.blk h18 1 rfl Try.underlying49 rfl inf49 rfl rfl) ⟨F, none, 0, Le.refl F, by rw [hv] <;> rfl, by rw [hv]; exact .inl rfl, (((((h18.drop 0).drop 0).drop 0).drop 0).drop 0)⟩
  · replace p0 := Bool.eq_false_iff.2 p0
    refine WC.reg ?_
    refine WL.v (Runs.boolT (c := false) (Runs.move rfl) p0) rfl ?_
    refine WL.v (Runs.move rfl) rfl ?_
    refine WL.goff rfl rfl rfl rfl ?_
    refine WL.goff rfl rfl rfl rfl ?_
    refine WL.goff rfl rfl rfl rfl ?_
    refine WL.v (Runs.pick rfl rfl rfl) rfl ?_
    refine WL.v (Runs.move rfl) rfl ?_
    refine WL.gon rfl rfl rfl ?_
    refine WL.v (Runs.boolT (c := false) (Runs.move rfl) p0) rfl ?_
    refine WL.gon rfl rfl rfl ?_
    refine WL.v (Runs.not rfl) rfl ?_
    refine WL.gon rfl rfl rfl ?_
    refine WL.v (Runs.move rfl) rfl ?_
    refine WL.gon rfl rfl rfl ?_
    refine WL.v (Runs.loadAll h7 4 rfl Try.underlying25 rfl inf25 rfl rfl) rfl ?_
    refine WL.gon rfl rfl rfl ?_
    refine WL.v (Runs.loadAll h7 3 rfl Try.underlying27 rfl inf27 rfl rfl) rfl ?_
    refine WL.gon rfl rfl rfl ?_
    refine WL.call can60 rfl rfl (qnwer_c _ hz hR h7) ?_
    rintro _ w19 ⟨rfl, h19⟩
    refine ⟨_, rfl, ?_⟩
    refine WL.gon rfl rfl rfl ?_
    refine WL.v (Runs.pick rfl rfl rfl) rfl ?_
    refine WL.v (Runs.pick rfl rfl rfl) rfl ?_
    refine WL.nil (WN.thn ?_)
    refine WC.cond rfl (fun c20 => ?_) (fun c20 => ?_)
    · try simp only [dt, df, nt, nf, ba, il, ie] at c20
      first
      | (exfalso; omega)
      | skip
        refine WC.seq (WC.reg ?_)
        refine WL.v (Runs.build (vs := []) (cells := #[.bool false, Vi 0, Vi 0, Vi 0, Vi 0, Vi 0, .slice none 0 0, .bool false, Vi 0, Vi 0, Vi 0, Vi 0, Vi 0, Vi 0, Vi 0, .string ⟨#[]⟩, .bool false, .bool false, .bool false]) rfl (by kernel_rfl)) rfl ?_
        refine WL.v (Runs.move rfl) rfl ?_
        refine WL.v (Runs.loadAll h19 3 rfl Try.underlying27 rfl inf27 rfl rfl) rfl ?_
        refine WL.call can48 rfl rfl ((show Calls _ _ #[.agg (acv none 0 A0), _, _, _, _] _ _ from qanswer_c _ id (m := m) (a := A0) 9 0 h19)) ?_
        rintro _ w21 ⟨rfl, h21⟩
        refine ⟨_, rfl, ?_⟩
        refine WL.storeAll h21 1 rfl rfl rfl inf49 rfl rfl rfl (Free.zero _) ?_
        intro  w22 h22
        try simp only [lz, ls, ez, es'] at h22
        refine WL.nil (WN.thn (WC.ret ?_))
        have hv : finishA id z m f = anM id m A0 9 0 := by unfold finishA; rw [if_pos (.inr ⟨p0, c20⟩)]
        refine retA rfl (ResOk.blk h22 1 rfl Try.underlying49 rfl inf49 rfl rfl) ⟨F, none, 0, Le.refl F, by rw [hv] <;> rfl, by rw [hv]; exact .inl rfl, (((((h22.drop 0).drop 0).drop 0).drop 0).drop 0)⟩
    · try simp only [dt, df, nt, nf, ba, il, ie] at c20
      first
      | (exfalso; omega)
      | skip
        refine WC.skip (WN.thn (WC.seq (WC.seq (WC.reg ?_))))
        refine WL.v (Runs.boolT (c := false) (Runs.move rfl) p0) rfl ?_
        refine WL.v (Runs.not rfl) rfl ?_
        refine WL.nil (WN.thn ?_)
        refine WC.condT rfl (rfl) ?_
        refine WC.seq ?_
        refine WC.eregK h19 h19 (fun s_ => ([6] : List Nat).any (Nat.beq s_)) mixed (by kernel_rfl) (fun hx => ?_)
        intro w23 h23
        refine WE.p0 hx 0 (by rfl) (fun w_ => Runs.build (vs := []) (cells := #[.bool false, Vi 0, Vi 0, Vi 0, Vi 0, Vi 0, .slice none 0 0, .bool false, Vi 0, Vi 0, Vi 0, Vi 0, Vi 0, Vi 0, Vi 0, .string ⟨#[]⟩, .bool false, .bool false, .bool false]) rfl (by kernel_rfl)) rfl ?_
        refine WE.p0 hx 3 (by rfl) (fun w_ => Runs.move rfl) rfl ?_
        refine WE.v0 12 hx 1 (by rfl) (fun w_ hE_ => Runs.loadAll hE_ 3 rfl Try.underlying27 rfl inf27 rfl rfl) rfl ?_
        refine WE.v0 12 hx 4 (by rfl) (fun w_ hE_ => Runs.loadAll hE_ 3 rfl Try.underlying27 rfl inf27 rfl rfl) rfl ?_
        refine WE.op (.inr h23) (i := 2) (by rfl) (by kernel_rfl) ?_
        refine WL.call can49 rfl rfl ((show Calls _ _ #[.agg (acv none 0 A0), _, _, _] _ _ from qwrite_c _ (m := m) (a := A0) 7 0 h23)) ?_
        rintro _ w24 ⟨rfl, h24⟩
        refine ⟨_, rfl, ?_⟩
        refine WL.nil (WE.next ?_)
        refine WE.op (.inr h24) (i := 5) (by rfl) (by kernel_rfl) ?_
        refine WL.call can48 rfl rfl ((show Calls _ _ #[.agg (acv none 0 (wrM m 7 0)), _, _, _, _] _ _ from qanswer_c _ id (m := m) (a := (wrM m 7 0)) 9 0 h24)) ?_
        rintro _ w25 ⟨rfl, h25⟩
        refine ⟨_, rfl, ?_⟩
        refine WL.nil (WE.next ?_)
        refine WE.op (.inr h25) (i := 6) (by rfl) (by kernel_rfl) ?_
        refine WL.storeAll h25 1 rfl rfl rfl inf49 rfl rfl rfl (Free.zero _) ?_
        intro  w26 h26
        try simp only [lz, ls, ez, es'] at h26
        refine WL.nil (WE.next ?_)
        refine WE.fin (.inl ⟨6, rfl, by kernel_rfl⟩) (by kernel_rfl) ?_
        refine WN.thn (WC.ret ?_)
        have hv : finishA id z m f = anM id m (wrM m 7 0) 9 0 := by unfold finishA; rw [if_neg (by rintro (hh | hh); rw [p0] at hh; cases hh.1; rw [c20] at hh; cases hh.2), if_pos p0]
        refine retA rfl (ResOk.blk h26 1 rfl Try.underlying49 rfl inf49 rfl rfl) ⟨F, none, 0, Le.refl F, by rw [hv] <;> rfl, by rw [hv]; exact .inl rfl, (((((h26.drop 0).drop 0).drop 0).drop 0).drop 0)⟩
end Rc
end Go.Proofs.Ytanlminnobonnaa
