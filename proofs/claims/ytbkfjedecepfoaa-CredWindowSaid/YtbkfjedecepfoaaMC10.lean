/- Some answers that the document gives. -/
import Derived.Test.YtbkfjedecepfoaaMC9
namespace Go.Proofs.Ytbkfjedecepfoaa
open Go Go.RowKit B
set_option linter.unusedVariables false
set_option linter.unusedSimpArgs false
namespace Cr
open Wir (numN okL rdn cerr rerr rval rnx Vi mayN numB listB rdN rdL rdEnd)

theorem inf39 : Inf Try.prog 39 (.agg #[.int .i64 0, .int .i64 0, .int .i64 0, .int .i64 0, .int .i64 0, .int .i64 0]) 6 48 := by unfold Inf; kernel_rfl
theorem can16 : B.Can Try.prog 16 := ⟨_, Try.func16, by kernel_rfl, rfl⟩   -- roundhouse/roundhouseref06.Same
theorem can17 : B.Can Try.prog 17 := ⟨_, Try.func17, by kernel_rfl, rfl⟩   -- roundhouse/cred.Open
theorem can19 : B.Can Try.prog 19 := ⟨_, Try.func19, by kernel_rfl, rfl⟩   -- roundhouse/cred.Sign
theorem can21 : B.Can Try.prog 21 := ⟨_, Try.func21, by kernel_rfl, rfl⟩   -- roundhouse/cred.Allows
def c0 : C := ⟨5, 1, 2, 3, 10, [0, 2], 4⟩
theorem C1.to {W : World} {F : Snap} {cs : List Res} {w : World} {P : Program} {f : FuncId} {a : Array Value} {α : Type} {g : α → Value} {x y : α} (h1 : x = y) (h : Calls P f a w fun r w' => r = .returned (g x) ∧ St W F cs w') : Calls P f a w fun r w' => r = .returned (g y) ∧ St W F cs w' := by
  subst h1
  exact h
theorem Op.to {W : World} {F : Snap} {cs : List Res} {w : World} {P : Program} {f : FuncId} {a : Array Value} {k l : List UInt8} {c : C} {e : Int} (h1 : openM k l = (c, e)) (h : Calls P f a w fun r w' => ∃ G A cap, Le F G ∧ r = .returned (.tuple #[(openM k l).1.val A cap, Vi (openM k l).2]) ∧ RdS (Kd.one Vi) G A (openM k l).1.nd ∧ St W G cs w') : Calls P f a w fun r w' => ∃ G A cap, Le F G ∧ r = .returned (.tuple #[c.val A cap, Vi e]) ∧ RdS (Kd.one Vi) G A c.nd ∧ St W G cs w' := by
  rw [h1] at h
  exact h
theorem hi_1 {n : Nat} (h : n ≠ 0) (h2 : n < 256) : Wir.hi n = [UInt8.ofNat n] := by
  rw [Wir.hi_s h, Nat.div_eq_of_lt h2, Wir.hi_0]; rfl
theorem ok_0 : okC c0 := by decide
theorem enc_0 : encC c0 = [1, 5, 1, 1, 1, 2, 1, 3, 1, 10, 1, 4, 1, 2, 0, 1, 2] := by
  rw [encC_y ok_0, enc_six, listB_yes (ok_nd ok_0.2.2.2.2.2.2) (by decide)]
  have h5 : numB c0.jb = [1, 5] := by rw [Wir.numB_y (by decide)]; unfold Wir.numN; rw [show c0.jb.toNat = 5 from rfl, hi_1 (by decide) (by decide)]; rfl
  have h1 : numB c0.ep = [1, 1] := by rw [Wir.numB_y (by decide)]; unfold Wir.numN; rw [show c0.ep.toNat = 1 from rfl, hi_1 (by decide) (by decide)]; rfl
  have h2 : numB c0.st = [1, 2] := by rw [Wir.numB_y (by decide)]; unfold Wir.numN; rw [show c0.st.toNat = 2 from rfl, hi_1 (by decide) (by decide)]; rfl
  have h3 : numB c0.fr = [1, 3] := by rw [Wir.numB_y (by decide)]; unfold Wir.numN; rw [show c0.fr.toNat = 3 from rfl, hi_1 (by decide) (by decide)]; rfl
  have h10 : numB c0.un = [1, 10] := by rw [Wir.numB_y (by decide)]; unfold Wir.numN; rw [show c0.un.toNat = 10 from rfl, hi_1 (by decide) (by decide)]; rfl
  have h4 : numB c0.co = [1, 4] := by rw [Wir.numB_y (by decide)]; unfold Wir.numN; rw [show c0.co.toNat = 4 from rfl, hi_1 (by decide) (by decide)]; rfl
  have g2 : numB ((c0.nd.length : Nat) : Int) = [1, 2] := h2
  have g0 : numB 0 = [0] := by rw [Wir.numB_y (by decide)]; unfold Wir.numN; rw [show (0 : Int).toNat = 0 from rfl, Wir.hi_0]; rfl
  have gl : c0.nd.flatMap numB = [0, 1, 2] := by
    show [0, 2].flatMap numB = _
    simp only [List.flatMap_cons, List.flatMap_nil]
    rw [g0, show numB 2 = [1, 2] from h2]; rfl
  rw [h5, h1, h2, h3, h10, h4, g2, gl]; rfl
theorem sig_len : (signM [107, 101, 121] c0).length = 49 := by rw [signM_len ok_0, enc_0]; rfl
theorem other_0 : decide (ShaM.hmac [75, 101, 121] [1, 5, 1, 1, 1, 2, 1, 3, 1, 10, 1, 4, 1, 2, 0, 1, 2] = ShaM.hmac [107, 101, 121] [1, 5, 1, 1, 1, 2, 1, 3, 1, 10, 1, 4, 1, 2, 0, 1, 2]) = false := by decide +kernel
theorem lv_o : openM [107, 101, 121] (signM [107, 101, 121] c0) = (c0, 0) := openM_sign ok_0
theorem lv_x : openM [75, 101, 121] (signM [107, 101, 121] c0) = (C0, 7) := by
  refine openM_n (by rw [sig_len]; omega) ?_
  rw [d32_sign ok_0, t32_sign ok_0, enc_0]
  exact of_decide_eq_false other_0
theorem lv_c : openM [107, 101, 121] ((signM [107, 101, 121] c0).take 31) = (C0, 2) := openM_cut (by rw [List.length_take, sig_len]; omega)
theorem lv_0 : allowsM c0 ⟨5, 1, 2, 2, 4, 9⟩ = 0 := by decide
theorem lv_8 : allowsM c0 ⟨5, 1, 2, 2, 4, 10⟩ = 8 := by decide
theorem lv_9 : allowsM c0 ⟨5, 1, 2, 2, 5, 9⟩ = 9 := by decide
theorem lv_1 : allowsM C0 ⟨5, 1, 2, 2, 4, 9⟩ = 1 := by decide
set_option maxRecDepth 100000 in
set_option maxHeartbeats 1000000 in
theorem own_c {W : World} {F : Snap} {cs : List Res} (w : World) (a : Q) (h : St W F cs w) : Calls Try.prog 22 #[.agg #[Vi a.jb, Vi a.ep, Vi a.st, Vi a.nd, Vi a.co, Vi a.tm]] w fun r w' => r = .returned (.agg #[Vi a.jb, Vi a.ep, Vi a.st, Vi a.nd, Vi a.co, Vi a.tm]) ∧ St W F cs w'  := by
  refine enter (P := Try.prog) (args := [.agg #[Vi a.jb, Vi a.ep, Vi a.st, Vi a.nd, Vi a.co, Vi a.tm]]) Try.func22 rfl rfl rfl ?_
  refine WC.seq ?_
  refine WC.reg ?_
  refine WL.box rfl h rfl ?_
  intro b1 w1 h1
  refine WL.alloc' rfl h1 inf39 ?_
  intro b2 w2 h2
  refine WL.nil ?_
  refine WN.thn ?_
  refine WC.seq ?_
  refine WC.reg ?_
  refine WL.v (Runs.fld fld37_0 rfl) rfl ?_
  refine WL.v (Runs.load1 Try.underlying3 rfl rfl (h2.ocell (i := 1) rfl rfl)) rfl ?_
  refine WL.v (Runs.fld fld37_1 rfl) rfl ?_
  refine WL.v (Runs.load1 Try.underlying3 rfl rfl (h2.ocell (i := 1) rfl rfl)) rfl ?_
  refine WL.v (Runs.fld fld37_2 rfl) rfl ?_
  refine WL.v (Runs.load1 Try.underlying3 rfl rfl (h2.ocell (i := 1) rfl rfl)) rfl ?_
  refine WL.v (Runs.fld fld37_3 rfl) rfl ?_
  refine WL.v (Runs.load1 Try.underlying3 rfl rfl (h2.ocell (i := 1) rfl rfl)) rfl ?_
  refine WL.v (Runs.fld fld37_4 rfl) rfl ?_
  refine WL.v (Runs.load1 Try.underlying3 rfl rfl (h2.ocell (i := 1) rfl rfl)) rfl ?_
  refine WL.v (Runs.fld fld37_5 rfl) rfl ?_
  refine WL.v (Runs.load1 Try.underlying3 rfl rfl (h2.ocell (i := 1) rfl rfl)) rfl ?_
  refine WL.v (Runs.build (vs := [(0, Vi a.jb), (1, Vi a.ep), (2, Vi a.st), (3, Vi a.nd), (4, Vi a.co), (5, Vi a.tm)]) (cells := #[Vi a.jb, Vi a.ep, Vi a.st, Vi a.nd, Vi a.co, Vi a.tm]) rfl (by kernel_rfl)) rfl ?_
  refine WL.storeAll h2 0 rfl rfl rfl inf39 rfl rfl rfl (Free.zero _) ?_
  intro  w3 h3
  try simp only [List.set_cons_zero, List.set_cons_succ, List.eraseIdx_cons_zero, List.eraseIdx_cons_succ] at h3
  refine WL.nil ?_
  refine WN.thn ?_
  refine WC.ret ?_
  exact retA rfl (v := .agg #[Vi a.jb, Vi a.ep, Vi a.st, Vi a.nd, Vi a.co, Vi a.tm]) ⟨_, rfl, run_loadVarA (vs := [Vi a.jb, Vi a.ep, Vi a.st, Vi a.nd, Vi a.co, Vi a.tm]) Try.underlying39 rfl inf39 rfl (fun j v hv => by rw [add_mk, Nat.zero_add]; exact h3.ocell (i := 0) rfl (by simpa using hv))⟩ ⟨rfl, ((h3.drop 0).drop 0)⟩
set_option maxRecDepth 100000 in
set_option maxHeartbeats 8000000 in
theorem live_c {W : World} {F : Snap} {cs : List Res} (w : World) (h : St W F cs w) : Calls Try.prog 9 #[] w fun r w' => r = .returned (.bool true) ∧ St W F cs w'  := by
  refine enter (P := Try.prog) (args := []) Try.func9 rfl rfl rfl ?_
  have hle : Le F F := Le.refl F
  refine WC.seq ?_
  refine WC.reg ?_
  refine WL.v (Runs.assign rfl) rfl ?_
  refine WL.nil ?_
  refine WN.thn ?_
  refine WC.seq ?_
  refine WC.reg ?_
  refine WL.lit (vs := ([0, 2] : List Int).map Vi) h rfl Try.underlying22 inf3 rfl rfl rfl rfl rfl ?_
  intro lit12 w1 h1
  try simp only [List.set_cons_zero, List.set_cons_succ, List.eraseIdx_cons_zero, List.eraseIdx_cons_succ] at h1
  obtain ⟨G12, gl12, rd12, hS12⟩ := St.litRd (xs := ([0, 2] : List Int)) (f := Vi) h1
  replace h1 := hS12
  
  replace hle := Le.trans hle gl12
  refine WL.v (Runs.build (vs := [(0, Vi 5), (1, Vi 1), (2, Vi 2), (3, Vi 3), (4, Vi 10), (6, Vi 4), (5, .slice (some ⟨lit12, 0, none⟩) 2 2)]) (cells := #[Vi 5, Vi 1, Vi 2, Vi 3, Vi 10, .slice (some ⟨lit12, 0, none⟩) 2 2, Vi 4]) rfl (by kernel_rfl)) rfl ?_
  refine WL.alloc' rfl h1 inf24 ?_
  intro b1 w2 h2
  refine WL.storeAll h2 0 rfl rfl rfl inf24 rfl rfl rfl (Free.zero _) ?_
  intro  w3 h3
  try simp only [List.set_cons_zero, List.set_cons_succ, List.eraseIdx_cons_zero, List.eraseIdx_cons_succ] at h3
  refine WL.nil ?_
  refine WN.thn ?_
  refine WC.seq ?_
  refine WC.reg ?_
  refine WL.v (Runs.loadAll h3 0 rfl Try.underlying24 rfl inf24 rfl rfl) rfl ?_
  refine WL.call can19 rfl rfl (sign_c (c := c0) _ [107, 101, 121] (by decide) h3 rd12 (by decide)) ?_
  rintro _ w4 ⟨rfl, h4⟩
  refine ⟨_, rfl, ?_⟩
  refine WL.v (Runs.assign rfl) rfl ?_
  refine WL.nil ?_
  refine WN.thn ?_
  refine WC.seq ?_
  refine WC.reg ?_
  refine WL.v (Runs.move rfl) rfl ?_
  refine WL.call can17 rfl rfl ((Op.to lv_o (open_c _ [107, 101, 121] (signM [107, 101, 121] c0) h4 (by decide) (by rw [sig_len]; decide)))) ?_
  rintro _ w5 ⟨Ga, Aa, capa, hGa, rfl, rda, h5⟩
  refine ⟨_, rfl, ?_⟩
  replace rd12 := rd12.mono hGa
  replace hle := Le.trans hle hGa
  refine WL.v (Runs.move rfl) rfl ?_
  refine WL.v (Runs.extract rfl rfl) rfl ?_
  refine WL.v (Runs.extract rfl rfl) rfl ?_
  refine WL.alloc' rfl h5 inf24 ?_
  intro b3 w6 h6
  refine WL.storeAll h6 0 rfl rfl rfl inf24 rfl rfl rfl (Free.zero _) ?_
  intro  w7 h7
  try simp only [List.set_cons_zero, List.set_cons_succ, List.eraseIdx_cons_zero, List.eraseIdx_cons_succ] at h7
  refine WL.v (Runs.assign rfl) rfl ?_
  refine WL.nil ?_
  refine WN.thn ?_
  refine WC.seq ?_
  refine WC.reg ?_
  refine WL.v (Runs.move rfl) rfl ?_
  refine WL.call can17 rfl rfl ((Op.to lv_x (open_c _ [75, 101, 121] (signM [107, 101, 121] c0) h7 (by decide) (by rw [sig_len]; decide)))) ?_
  rintro _ w8 ⟨Gb, Ab, capb, hGb, rfl, rdb, h8⟩
  refine ⟨_, rfl, ?_⟩
  replace rd12 := rd12.mono hGb
  replace rda := rda.mono hGb
  replace hle := Le.trans hle hGb
  refine WL.v (Runs.move rfl) rfl ?_
  refine WL.v (Runs.extract rfl rfl) rfl ?_
  refine WL.v (Runs.extract rfl rfl) rfl ?_
  refine WL.alloc' rfl h8 inf24 ?_
  intro b5 w9 h9
  refine WL.storeAll h9 0 rfl rfl rfl inf24 rfl rfl rfl (Free.zero _) ?_
  intro  w10 h10
  try simp only [List.set_cons_zero, List.set_cons_succ, List.eraseIdx_cons_zero, List.eraseIdx_cons_succ] at h10
  refine WL.v (Runs.assign rfl) rfl ?_
  refine WL.nil ?_
  refine WN.thn ?_
  refine WC.seq ?_
  refine WC.reg ?_
  refine WL.v (Runs.move rfl) rfl ?_
  refine WL.v (Runs.move rfl) rfl ?_
  refine WL.v (Runs.intT (n := 49) (Runs.lslen Try.underlying9 rfl rfl) (by rw [sig_len]; rfl)) rfl ?_
  refine WL.v (Runs.intT (n := 31) (Runs.min rfl rfl) rfl) rfl ?_
  refine WL.v (Runs.lssl_hi Try.underlying9 rfl rfl (m := 31) rfl (by rw [sig_len]; decide)) rfl ?_
  refine WL.call can17 rfl rfl ((Op.to lv_c (open_c _ [107, 101, 121] ((signM [107, 101, 121] c0).take 31) h10 (by decide) (by rw [List.length_take, sig_len]; decide)))) ?_
  rintro _ w11 ⟨Gc, Ac, capc, hGc, rfl, rdc, h11⟩
  refine ⟨_, rfl, ?_⟩
  replace rd12 := rd12.mono hGc
  replace rda := rda.mono hGc
  replace rdb := rdb.mono hGc
  replace hle := Le.trans hle hGc
  refine WL.v (Runs.move rfl) rfl ?_
  refine WL.v (Runs.extract rfl rfl) rfl ?_
  refine WL.v (Runs.extract rfl rfl) rfl ?_
  refine WL.alloc' rfl h11 inf24 ?_
  intro b7 w12 h12
  refine WL.storeAll h12 0 rfl rfl rfl inf24 rfl rfl rfl (Free.zero _) ?_
  intro  w13 h13
  try simp only [List.set_cons_zero, List.set_cons_succ, List.eraseIdx_cons_zero, List.eraseIdx_cons_succ] at h13
  refine WL.v (Runs.assign rfl) rfl ?_
  refine WL.nil ?_
  refine WN.thn ?_
  refine WC.seq ?_
  refine WC.reg ?_
  refine WL.v (Runs.build (vs := [(0, Vi 5), (1, Vi 1), (2, Vi 2), (3, Vi 2), (4, Vi 4), (5, Vi 9)]) (cells := #[Vi 5, Vi 1, Vi 2, Vi 2, Vi 4, Vi 9]) rfl (by kernel_rfl)) rfl ?_
  refine WL.alloc' rfl h13 inf39 ?_
  intro b9 w14 h14
  refine WL.storeAll h14 0 rfl rfl rfl inf39 rfl rfl rfl (Free.zero _) ?_
  intro  w15 h15
  try simp only [List.set_cons_zero, List.set_cons_succ, List.eraseIdx_cons_zero, List.eraseIdx_cons_succ] at h15
  refine WL.nil ?_
  refine WN.thn ?_
  refine WC.seq ?_
  refine WC.reg ?_
  refine WL.v (Runs.loadAll h15 0 rfl Try.underlying39 rfl inf39 rfl rfl) rfl ?_
  refine WL.alloc' rfl h15 inf39 ?_
  intro b10 w16 h16
  refine WL.storeAll h16 0 rfl rfl rfl inf39 rfl rfl rfl (Free.zero _) ?_
  intro  w17 h17
  try simp only [List.set_cons_zero, List.set_cons_succ, List.eraseIdx_cons_zero, List.eraseIdx_cons_succ] at h17
  refine WL.nil ?_
  refine WN.thn ?_
  refine WC.seq ?_
  refine WC.reg ?_
  refine WL.v (Runs.fld fld39_5 rfl) rfl ?_
  refine WL.store' h17 0 rfl rfl rfl inf3 rfl rfl (Free.zero _) (Nat.le_of_ble_eq_true rfl) ?_
  intro  w18 h18
  try simp only [List.set_cons_zero, List.set_cons_succ, List.eraseIdx_cons_zero, List.eraseIdx_cons_succ] at h18
  replace h18 : St W Gc ([(b10, .cells #[Vi 5, Vi 1, Vi 2, Vi 2, Vi 4, Vi 10] 39 (0, 0))] :: [(b9, .cells #[Vi 5, Vi 1, Vi 2, Vi 2, Vi 4, Vi 9] 39 (0, 0))] :: [(b7, .cells #[Vi 0, Vi 0, Vi 0, Vi 0, Vi 0, .slice Ac 0 capc, Vi 0] 24 (0, 0))] :: [(b5, .cells #[Vi 0, Vi 0, Vi 0, Vi 0, Vi 0, .slice Ab 0 capb, Vi 0] 24 (0, 0))] :: [(b3, .cells #[Vi 5, Vi 1, Vi 2, Vi 3, Vi 10, .slice Aa 2 capa, Vi 4] 24 (0, 0))] :: [(b1, .cells #[Vi 5, Vi 1, Vi 2, Vi 3, Vi 10, .slice (some ⟨lit12, 0, none⟩) 2 2, Vi 4] 24 (0, 0))] :: cs) w18 := h18
  refine WL.nil ?_
  refine WN.thn ?_
  refine WC.seq ?_
  refine WC.reg ?_
  refine WL.v (Runs.loadAll h18 1 rfl Try.underlying39 rfl inf39 rfl rfl) rfl ?_
  refine WL.alloc' rfl h18 inf39 ?_
  intro b11 w19 h19
  refine WL.storeAll h19 0 rfl rfl rfl inf39 rfl rfl rfl (Free.zero _) ?_
  intro  w20 h20
  try simp only [List.set_cons_zero, List.set_cons_succ, List.eraseIdx_cons_zero, List.eraseIdx_cons_succ] at h20
  refine WL.nil ?_
  refine WN.thn ?_
  refine WC.seq ?_
  refine WC.reg ?_
  refine WL.v (Runs.fld fld39_4 rfl) rfl ?_
  refine WL.store' h20 0 rfl rfl rfl inf3 rfl rfl (Free.zero _) (Nat.le_of_ble_eq_true rfl) ?_
  intro  w21 h21
  try simp only [List.set_cons_zero, List.set_cons_succ, List.eraseIdx_cons_zero, List.eraseIdx_cons_succ] at h21
  replace h21 : St W Gc ([(b11, .cells #[Vi 5, Vi 1, Vi 2, Vi 2, Vi 5, Vi 9] 39 (0, 0))] :: [(b10, .cells #[Vi 5, Vi 1, Vi 2, Vi 2, Vi 4, Vi 10] 39 (0, 0))] :: [(b9, .cells #[Vi 5, Vi 1, Vi 2, Vi 2, Vi 4, Vi 9] 39 (0, 0))] :: [(b7, .cells #[Vi 0, Vi 0, Vi 0, Vi 0, Vi 0, .slice Ac 0 capc, Vi 0] 24 (0, 0))] :: [(b5, .cells #[Vi 0, Vi 0, Vi 0, Vi 0, Vi 0, .slice Ab 0 capb, Vi 0] 24 (0, 0))] :: [(b3, .cells #[Vi 5, Vi 1, Vi 2, Vi 3, Vi 10, .slice Aa 2 capa, Vi 4] 24 (0, 0))] :: [(b1, .cells #[Vi 5, Vi 1, Vi 2, Vi 3, Vi 10, .slice (some ⟨lit12, 0, none⟩) 2 2, Vi 4] 24 (0, 0))] :: cs) w21 := h21
  refine WL.nil ?_
  refine WN.thn ?_
  refine WC.seq ?_
  refine WC.reg ?_
  refine WL.v (Runs.move rfl) rfl ?_
  refine WL.v (Runs.intT (n := 49) (Runs.lslen Try.underlying9 rfl rfl) (by rw [sig_len]; rfl)) rfl ?_
  refine WL.v (Runs.boolT (c := true) (Runs.eql rfl rfl) rfl) rfl ?_
  refine WL.v (Runs.move rfl) rfl ?_
  refine WL.gon rfl rfl rfl ?_
  refine WL.v (Runs.move rfl) rfl ?_
  refine WL.gon rfl rfl rfl ?_
  refine WL.v (Runs.boolT (c := true) (Runs.eql rfl rfl) rfl) rfl ?_
  refine WL.v (Runs.pick rfl rfl rfl) rfl ?_
  refine WL.v (Runs.move rfl) rfl ?_
  refine WL.gon rfl rfl rfl ?_
  refine WL.v (Runs.loadAll h21 5 rfl Try.underlying24 rfl inf24 rfl rfl) rfl ?_
  refine WL.gon rfl rfl rfl ?_
  refine WL.v (Runs.loadAll h21 6 rfl Try.underlying24 rfl inf24 rfl rfl) rfl ?_
  refine WL.gon rfl rfl rfl ?_
  refine WL.call can16 rfl rfl (qsame_c (c := c0) _ h21 rda (by decide) rd12) ?_
  rintro _ w22 ⟨rfl, h22⟩
  refine ⟨_, rfl, ?_⟩
  refine WL.v (Runs.pick rfl rfl rfl) rfl ?_
  refine WL.v (Runs.move rfl) rfl ?_
  refine WL.gon rfl rfl rfl ?_
  refine WL.v (Runs.move rfl) rfl ?_
  refine WL.gon rfl rfl rfl ?_
  refine WL.v (Runs.boolT (c := true) (Runs.eql rfl rfl) rfl) rfl ?_
  refine WL.v (Runs.pick rfl rfl rfl) rfl ?_
  refine WL.v (Runs.move rfl) rfl ?_
  refine WL.gon rfl rfl rfl ?_
  refine WL.v (Runs.move rfl) rfl ?_
  refine WL.gon rfl rfl rfl ?_
  refine WL.v (Runs.boolT (c := true) (Runs.eql rfl rfl) rfl) rfl ?_
  refine WL.v (Runs.pick rfl rfl rfl) rfl ?_
  refine WL.v (Runs.move rfl) rfl ?_
  refine WL.gon rfl rfl rfl ?_
  refine WL.v (Runs.loadAll h22 6 rfl Try.underlying24 rfl inf24 rfl rfl) rfl ?_
  refine WL.gon rfl rfl rfl ?_
  refine WL.v (Runs.loadAll h22 2 rfl Try.underlying39 rfl inf39 rfl rfl) rfl ?_
  refine WL.gon rfl rfl rfl ?_
  refine WL.call can21 rfl rfl ((C1.to (g := Vi) lv_0 (allows_c (c := c0) _ ⟨5, 1, 2, 2, 4, 9⟩ h22 rd12 (by decide)))) ?_
  rintro _ w23 ⟨rfl, h23⟩
  refine ⟨_, rfl, ?_⟩
  refine WL.gon rfl rfl rfl ?_
  refine WL.v (Runs.boolT (c := true) (Runs.eql rfl rfl) rfl) rfl ?_
  refine WL.v (Runs.pick rfl rfl rfl) rfl ?_
  refine WL.v (Runs.move rfl) rfl ?_
  refine WL.gon rfl rfl rfl ?_
  refine WL.v (Runs.loadAll h23 6 rfl Try.underlying24 rfl inf24 rfl rfl) rfl ?_
  refine WL.gon rfl rfl rfl ?_
  refine WL.v (Runs.loadAll h23 1 rfl Try.underlying39 rfl inf39 rfl rfl) rfl ?_
  refine WL.gon rfl rfl rfl ?_
  refine WL.call can21 rfl rfl ((C1.to (g := Vi) lv_8 (allows_c (c := c0) _ ⟨5, 1, 2, 2, 4, 10⟩ h23 rd12 (by decide)))) ?_
  rintro _ w24 ⟨rfl, h24⟩
  refine ⟨_, rfl, ?_⟩
  refine WL.gon rfl rfl rfl ?_
  refine WL.v (Runs.boolT (c := true) (Runs.eql rfl rfl) rfl) rfl ?_
  refine WL.v (Runs.pick rfl rfl rfl) rfl ?_
  refine WL.v (Runs.move rfl) rfl ?_
  refine WL.gon rfl rfl rfl ?_
  refine WL.v (Runs.loadAll h24 6 rfl Try.underlying24 rfl inf24 rfl rfl) rfl ?_
  refine WL.gon rfl rfl rfl ?_
  refine WL.v (Runs.loadAll h24 0 rfl Try.underlying39 rfl inf39 rfl rfl) rfl ?_
  refine WL.gon rfl rfl rfl ?_
  refine WL.call can21 rfl rfl ((C1.to (g := Vi) lv_9 (allows_c (c := c0) _ ⟨5, 1, 2, 2, 5, 9⟩ h24 rd12 (by decide)))) ?_
  rintro _ w25 ⟨rfl, h25⟩
  refine ⟨_, rfl, ?_⟩
  refine WL.gon rfl rfl rfl ?_
  refine WL.v (Runs.boolT (c := true) (Runs.eql rfl rfl) rfl) rfl ?_
  refine WL.v (Runs.pick rfl rfl rfl) rfl ?_
  refine WL.v (Runs.move rfl) rfl ?_
  refine WL.gon rfl rfl rfl ?_
  refine WL.v (Runs.build (vs := []) (cells := #[Vi 0, Vi 0, Vi 0, Vi 0, Vi 0, .slice none 0 0, Vi 0]) rfl (by kernel_rfl)) rfl ?_
  refine WL.gon rfl rfl rfl ?_
  refine WL.v (Runs.loadAll h25 2 rfl Try.underlying39 rfl inf39 rfl rfl) rfl ?_
  refine WL.gon rfl rfl rfl ?_
  refine WL.call can21 rfl rfl ((C1.to (g := Vi) lv_1 (allows_c (c := C0) (A := none) (cap := 0) _ ⟨5, 1, 2, 2, 4, 9⟩ h25 (.inl rfl) (by decide)))) ?_
  rintro _ w26 ⟨rfl, h26⟩
  refine ⟨_, rfl, ?_⟩
  refine WL.gon rfl rfl rfl ?_
  refine WL.v (Runs.boolT (c := true) (Runs.eql rfl rfl) rfl) rfl ?_
  refine WL.v (Runs.pick rfl rfl rfl) rfl ?_
  refine WL.v (Runs.assign rfl) rfl ?_
  refine WL.nil ?_
  refine WN.thn ?_
  refine WC.ret ?_
  exact ret1 rfl rfl ⟨rfl, ((((((((h26.drop 0).drop 0).drop 0).drop 0).drop 0).drop 0).drop 0)).weak hle⟩
end Cr
end Go.Proofs.Ytbkfjedecepfoaa
