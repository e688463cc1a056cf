/- Walks of package journal: Read, Repair. -/
import Derived.Test.YthjcfhfbaeokeaaMBaseAE
import Derived.Test.YthjcfhfbaeokeaaMJ5
namespace Go.Proofs.Ythjcfhfbaeokeaa
open Go Go.RowKit B
set_option linter.unusedVariables false
set_option linter.unusedSimpArgs false
namespace Jo
open Wir (Vi textB numB rdT rdEnd wtext_c)

theorem inf3 : Inf Try.prog 3 (.int .i64 0) 1 8 := by unfold Inf; kernel_rfl
theorem inf32 : Inf Try.prog 32 (.slice none 0 0) 1 24 := by unfold Inf; kernel_rfl
theorem can17 : B.Can Try.prog 17 := ⟨_, Try.func17, by kernel_rfl, rfl⟩   -- roundhouse/journal.Read
theorem can32 : B.Can Try.prog 32 := ⟨_, Try.func32, by kernel_rfl, rfl⟩   -- roundhouse/journal.records
abbrev entC (x : Ent) : List Value := [Vi x.1, .string (bs x.2)]
def KEn : Kd Ent := Kd.rows 2 entC (fun _ => rfl)
theorem recsM_le {log : List UInt8} : ∀ {n q : Nat} {out : List Ent}, q ≤ log.length → (recsM log n q out).2 ≤ log.length
  | 0, q, out, h => h
  | n + 1, q, out, h => by
    rw [recsM]
    split
    · split
      · exact h
      · rename_i x hx
        have := (first_pos hx).2.2
        rw [List.length_drop] at this
        exact recsM_le (by omega)
    · exact h
theorem readM_le (log : List UInt8) : (readM log).2 ≤ log.length := recsM_le (Nat.zero_le _)
/-- from the last snapshot on -/
def sinceS (acc : List Ent) (x : Ent) : List Ent := if x.1 = 1 then [x] else acc ++ [x]
def sinceL (xs : List Ent) : List Ent := xs.foldl sinceS []
theorem sinceL_snoc (xs : List Ent) (x : Ent) : sinceL (xs ++ [x]) = if x.1 = 1 then [x] else sinceL xs ++ [x] := by
  unfold sinceL
  rw [List.foldl_append]; rfl
theorem sinceS_len : ∀ (xs acc : List Ent), (xs.foldl sinceS acc).length ≤ acc.length + xs.length
  | [], acc => Nat.le_refl _
  | x :: xs, acc => by
    rw [List.foldl_cons]
    have h1 := sinceS_len xs (sinceS acc x)
    have h2 : (sinceS acc x).length ≤ acc.length + 1 := by
      unfold sinceS
      split
      · exact Nat.le_add_left _ _
      · rw [List.length_append]; exact Nat.le_refl _
    rw [List.length_cons]
    omega
theorem sinceL_len (xs : List Ent) : (sinceL xs).length ≤ xs.length := by
  have := sinceS_len xs []
  show (xs.foldl sinceS []).length ≤ xs.length
  simpa using this
set_option maxRecDepth 100000 in
set_option maxHeartbeats 4000000 in
theorem read_c {W : World} {F : Snap} {cs : List Res} (w : World) (l : List UInt8) (h : St W F cs w) (hl : l.length ≤ 100000) : Calls Try.prog 17 #[.string (bs l)] w fun r w' => ∃ G A cap, Le F G ∧ r = .returned (.tuple #[.slice A (readM l).1.length cap, Vi ((readM l).2 : Nat)]) ∧ (readM l).1.length ≤ cap ∧ RdS KEn G A (readM l).1 ∧ St W G cs w'  := by
  refine enterM (P := Try.prog) (args := [.string (bs l)]) Try.func17 rfl rfl rfl ?_
  refine WC.seq ?_
  refine WC.reg ?_
  refine WL.v (Runs.assign rfl) rfl ?_
  refine WL.v (Runs.assign rfl) rfl ?_
  refine WL.nil ?_
  refine WN.thn ?_
  refine WC.seq ?_
  refine WC.reg ?_
  refine WL.alloc' rfl h inf32 ?_
  intro b4 w1 h1
  refine WL.nil ?_
  refine WN.thn ?_
  refine WC.seq ?_
  refine WC.reg ?_
  refine WL.alloc' rfl h1 inf3 ?_
  intro b5 w2 h2
  refine WL.store' h2 0 rfl rfl rfl inf3 rfl rfl (Free.zero _) (Nat.le_of_ble_eq_true rfl) ?_
  intro  w3 h3
  try simp only [List.set_cons_zero, List.set_cons_succ, List.eraseIdx_cons_zero, List.eraseIdx_cons_succ] at h3
  refine WL.nil ?_
  refine WN.thn ?_
  refine WC.seq ?_
  refine WC.seq ?_
  refine WC.reg ?_
  refine WL.v (Runs.move rfl) rfl ?_
  refine WL.call can32 rfl rfl (records_c _ l h3) ?_
  rintro _ w4 ⟨b9, rfl, h4⟩
  refine ⟨_, rfl, ?_⟩
  refine WL.nil ?_
  refine WN.thn ?_
  refine WC.block ?_
  obtain ⟨G1, hG1, gf1, hS1⟩ := h4.freeze (i := 0) rfl
  have hb1 : cellF G1 ⟨b9, 0, none⟩ = some (.string (bs l)) := by unfold cellF; simp only [gf1 _ List.mem_cons_self]; rfl
  have hN := hS1.nilRes
  refine WC.range (σ := Snap × Res × Value) (fun s => Le G1 s.1 ∧ RowM 50 2 entC s.2.1 s.2.2 (readM l).1) (fun s => s.1) (fun s => s.2.1 :: [(b5, .cells #[Vi ((readM l).2 : Nat)] 3 (0, 0))] :: [(b4, .cells #[s.2.2] 32 (0, 0))] :: cs) hN rfl (enters_ Try.func40 (by kernel_rfl) rfl) ?_ ?_
  · intro fn tm y Dd w1 hag hsz hS1
    refine (recs_c w1 (K := fun out q G csx => Le G1 G ∧ out.length ≤ q ∧ ∃ r v, RowM 50 2 entC r v out ∧ csx = ([(y, .loop (lrec fn tm _ _ _ Dd .ready))] :: [(Dd, .deferred (some []))] :: r :: [(b5, .cells #[Vi (q : Nat)] 3 (0, 0))] :: [(b4, .cells #[v] 32 (0, 0))] :: cs)) hl (fun out q G csx hK => cellF_le hK.1 hb1) ?_ ⟨Le.refl _, Nat.zero_le _, [], _, RowM.nil _ _ _, rfl⟩ hS1).mono ?_
    rotate_left
    · rintro e w2 ⟨hv, G, csx, ⟨hle2, _, r, v, hr, rfl⟩, hS2⟩
      exact ⟨hv, ⟨G, r, v⟩, ⟨hle2, hr⟩, hS2⟩
    rintro out q x G csx w2 ⟨hle2, hlen, r, v, hr, rfl⟩ hfm hq hS2
    have hpos := first_pos hfm
    have hp1 := recB_pos hpos.1
    obtain ⟨A, cap, rfl, hcap⟩ := hr.val
    refine yield_c hS2 (i := 0) rfl rfl hsz hag rfl rfl ?_
    refine RC.seq ?_
    refine RC.reg begP_out (by kernel_rfl) ?_
    refine WL.alloc' rfl hS2 inf50 ?_
    intro b6 w5 h5
    refine WL.storeAll h5 0 rfl rfl rfl inf50 rfl rfl rfl (Free.zero _) ?_
    intro  w6 h6
    try simp only [List.set_cons_zero, List.set_cons_succ, List.eraseIdx_cons_zero, List.eraseIdx_cons_succ] at h6
    refine WL.nil ?_
    refine RN.wn ?_
    refine RN.thn ?_
    refine RC.reg begP_out (by kernel_rfl) ?_
    refine WL.v (Runs.assign rfl) rfl ?_
    refine WL.nil ?_
    refine RN.wn ?_
    refine RN.beg h6 (i := 1) rfl rfl ?_
    intro wb hb_
    simp only [List.set_cons_zero, List.set_cons_succ] at hb_
    refine RC.block ?_
    refine RC.reg rndP_out (by kernel_rfl) ?_
    refine WL.v (Runs.load1 Try.underlying32 rfl rfl (hb_.ocell (i := 5) rfl rfl)) rfl ?_
    refine WL.v (Runs.loadAll hb_ 0 rfl Try.underlying50 rfl inf50 rfl rfl) rfl ?_
    refine WL.buildSlice (vs := [entA x]) hb_ rfl Try.underlying32 (inf50.elem rfl rfl) rfl rfl rfl (by decide) ?_
    intro lit14 w7 h7
    try simp only [List.set_cons_zero, List.set_cons_succ, List.eraseIdx_cons_zero, List.eraseIdx_cons_succ] at h7
    refine WL.appM (f := entC) (ys := [x]) 4 h7 rfl rfl rfl rfl Try.underlying32 Try.underlying32 (.inr ⟨_, rfl⟩) (inf50.elem rfl rfl) hr (Src.litM h7 0 rfl rfl rfl) rfl (by first | omega | (simp; done) | (simp; omega)) (by first | omega | (simp; done) | (simp; omega)) ?_
    intro r8 v8 w9 hr8 h9
    simp only [List.set_cons_zero, List.set_cons_succ] at h9
    replace h9 := h9.drop 0
    simp only [List.eraseIdx_cons_zero, List.eraseIdx_cons_succ] at h9
    obtain ⟨A8, cap8, rfl, hcap8⟩ := hr8.val
    refine WL.v (Runs.move rfl) rfl ?_
    refine WL.store' h9 5 rfl rfl rfl inf32 rfl rfl (Free.zero _) (Nat.le_of_ble_eq_true rfl) ?_
    intro  w10 h10
    try simp only [List.set_cons_zero, List.set_cons_succ, List.eraseIdx_cons_zero, List.eraseIdx_cons_succ] at h10
    refine WL.store' h10 4 rfl rfl rfl inf3 rfl rfl (Free.zero _) (Nat.le_of_ble_eq_true rfl) ?_
    intro  w11 h11
    try simp only [List.set_cons_zero, List.set_cons_succ, List.eraseIdx_cons_zero, List.eraseIdx_cons_succ] at h11
    refine WL.nil ?_
    refine RN.wn ?_
    refine RN.blk ?_
    replace h11 := h11.drop 0
    try simp only [List.eraseIdx_cons_zero] at h11
    refine RN.fin h11 (i := 0) rfl ?_
    intro wf hf_
    exact ⟨rfl, G, _, ⟨hle2, by rw [List.length_append]; show out.length + 1 ≤ _; omega, r8, _, hr8, rfl⟩, hf_⟩
  · rintro ⟨G, r, v⟩ Dd w3 ⟨hle2, hr⟩ hS3
    obtain ⟨A, cap, rfl, hcap⟩ := hr.val
    refine WN.blk ?_
    refine WN.thn ?_
    refine WC.seq ?_
    refine WC.qreg (C := fun w_ => St W _ _ w_) mixed (by kernel_rfl) (hS3.drew) ?_
    refine WQ.val (fun w_ hC_ => Runs.load1 Try.underlying32 rfl rfl (hC_.ocell (i := 3) rfl rfl)) rfl ?_
    refine WQ.val (fun w_ hC_ => Runs.load1 Try.underlying3 rfl rfl (hC_.ocell (i := 2) rfl rfl)) rfl ?_
    refine WQ.val (fun w_ hC_ => Runs.assign rfl) rfl ?_
    refine WQ.val (fun w_ hC_ => Runs.assign rfl) rfl ?_
    refine WQ.fin ?_
    intro w12 h12
    refine WN.thn ?_
    refine WC.ret ?_
    refine retM2 h12 (i := 0) rfl rfl rfl rfl (fun w9 hS9 => ?_)
    obtain ⟨G2, h91, h92, h93⟩ := hS9.freeze (i := 0) rfl
    exact ⟨G2, A, cap, Le.trans hG1 (Le.trans hle2 h91), rfl, hcap, RowM.read (f := entC) (m := 2) (fun _ => rfl) hr rfl h92, (h93.drop 0).drop 0⟩
set_option maxRecDepth 100000 in
set_option maxHeartbeats 1000000 in
theorem repair_c {W : World} {F : Snap} {cs : List Res} (w : World) (l : List UInt8) (h : St W F cs w) (hl : l.length ≤ 100000) : Calls Try.prog 21 #[.string (bs l)] w fun r w' => ∃ G, Le F G ∧ r = .returned (.string (bs (l.take (readM l).2))) ∧ St W G cs w'  := by
  refine enter (P := Try.prog) (args := [.string (bs l)]) Try.func21 rfl rfl rfl ?_
  refine WC.seq ?_
  refine WC.reg ?_
  refine WL.v (Runs.assign rfl) rfl ?_
  refine WL.nil ?_
  refine WN.thn ?_
  refine WC.seq ?_
  refine WC.reg ?_
  refine WL.v (Runs.move rfl) rfl ?_
  refine WL.call can17 rfl rfl (read_c _ l h hl) ?_
  rintro _ w1 ⟨G, A, cap, hG, rfl, hcap, hrd, h1⟩
  refine ⟨_, rfl, ?_⟩
  refine WL.v (Runs.move rfl) rfl ?_
  refine WL.v (Runs.extract rfl rfl) rfl ?_
  refine WL.v (Runs.extract rfl rfl) rfl ?_
  refine WL.v (Runs.assign rfl) rfl ?_
  refine WL.v (Runs.assign rfl) rfl ?_
  refine WL.nil ?_
  refine WN.thn ?_
  refine WC.seq ?_
  refine WC.reg ?_
  refine WL.v (Runs.move rfl) rfl ?_
  refine WL.v (Runs.move rfl) rfl ?_
  refine WL.v (Runs.lssl_hi Try.underlying9 rfl rfl (m := (readM l).2) rfl (readM_le l)) rfl ?_
  refine WL.v (Runs.assign rfl) rfl ?_
  refine WL.nil ?_
  refine WN.thn ?_
  refine WC.ret ?_
  exact ret1 rfl rfl ⟨G, hG, rfl, h1⟩
set_option maxRecDepth 100000 in
set_option maxHeartbeats 4000000 in
theorem since_c {W : World} {F : Snap} {cs : List Res} (w : World) (l : List UInt8) (h : St W F cs w) (hl : l.length ≤ 100000) : Calls Try.prog 23 #[.string (bs l)] w fun r w' => ∃ G A cap, Le F G ∧ r = .returned (.slice A (sinceL (readM l).1).length cap) ∧ (sinceL (readM l).1).length ≤ cap ∧ RdS KEn G A (sinceL (readM l).1) ∧ St W G cs w'  := by
  refine enterM (P := Try.prog) (args := [.string (bs l)]) Try.func23 rfl rfl rfl ?_
  refine WC.seq ?_
  refine WC.reg ?_
  refine WL.v (Runs.assign rfl) rfl ?_
  refine WL.nil ?_
  refine WN.thn ?_
  refine WC.seq ?_
  refine WC.reg ?_
  refine WL.alloc' rfl h inf32 ?_
  intro b3 w1 h1
  refine WL.nil ?_
  refine WN.thn ?_
  refine WC.seq ?_
  refine WC.seq ?_
  refine WC.reg ?_
  refine WL.v (Runs.move rfl) rfl ?_
  refine WL.call can32 rfl rfl (records_c _ l h1) ?_
  rintro _ w2 ⟨b9, rfl, h2⟩
  refine ⟨_, rfl, ?_⟩
  refine WL.nil ?_
  refine WN.thn ?_
  refine WC.block ?_
  obtain ⟨G1, hG1, gf1, hS1⟩ := h2.freeze (i := 0) rfl
  have hb1 : cellF G1 ⟨b9, 0, none⟩ = some (.string (bs l)) := by unfold cellF; simp only [gf1 _ List.mem_cons_self]; rfl
  have hN := hS1.nilRes
  refine WC.range (σ := Snap × Res × Value) (fun s => Le G1 s.1 ∧ RowM 50 2 entC s.2.1 s.2.2 (sinceL (readM l).1)) (fun s => s.1) (fun s => s.2.1 :: [(b3, .cells #[s.2.2] 32 (0, 0))] :: cs) hN rfl (enters_ Try.func40 (by kernel_rfl) rfl) ?_ ?_
  · intro fn tm y Dd w1 hag hsz hS1
    refine (recs_c w1 (K := fun out q G csx => Le G1 G ∧ out.length ≤ q ∧ ∃ r v, RowM 50 2 entC r v (sinceL out) ∧ csx = ([(y, .loop (lrec fn tm _ _ _ Dd .ready))] :: [(Dd, .deferred (some []))] :: r :: [(b3, .cells #[v] 32 (0, 0))] :: cs)) hl (fun out q G csx hK => cellF_le hK.1 hb1) ?_ ⟨Le.refl _, Nat.zero_le _, [], _, RowM.nil _ _ _, rfl⟩ hS1).mono ?_
    rotate_left
    · rintro e w2 ⟨hv, G, csx, ⟨hle2, _, r, v, hr, rfl⟩, hS2⟩
      exact ⟨hv, ⟨G, r, v⟩, ⟨hle2, hr⟩, hS2⟩
    rintro out q x G csx w2 ⟨hle2, hlen, r, v, hr, rfl⟩ hfm hq hS2
    have hpos := first_pos hfm
    have hp1 := recB_pos hpos.1
    obtain ⟨A, cap, rfl, hcap⟩ := hr.val
    refine yield_c hS2 (i := 0) rfl rfl hsz hag rfl rfl ?_
    have hsl := sinceL_len out
    refine RC.reg begP_out (by kernel_rfl) ?_
    refine WL.alloc' rfl hS2 inf50 ?_
    intro b4 w3 h3
    refine WL.storeAll h3 0 rfl rfl rfl inf50 rfl rfl rfl (Free.zero _) ?_
    intro  w4 h4
    try simp only [List.set_cons_zero, List.set_cons_succ, List.eraseIdx_cons_zero, List.eraseIdx_cons_succ] at h4
    refine WL.nil ?_
    refine RN.wn ?_
    refine RN.beg h4 (i := 1) rfl rfl ?_
    intro wb hb_
    simp only [List.set_cons_zero, List.set_cons_succ] at hb_
    refine RC.block ?_
    refine RC.seq ?_
    refine RC.seq ?_
    refine RC.reg rndP_out (by kernel_rfl) ?_
    refine WL.v (Runs.fld fld50_0 rfl) rfl ?_
    refine WL.v (Runs.load1 Try.underlying3 rfl rfl (hb_.ocell (i := 0) rfl rfl)) rfl ?_
    refine WL.v (Runs.eql rfl rfl) rfl ?_
    refine WL.nil ?_
    refine RN.wn ?_
    refine RN.thn ?_
    refine RC.cond rfl (fun c5 => ?_) (fun c5 => ?_)
    · try simp only [decide_eq_true_eq, decide_eq_false_iff_not, Bool.not_eq_true', Bool.not_eq_false', Bool.and_eq_true, Int.not_lt, Int.not_le] at c5
      first
      | (exfalso; omega)
      | skip
        refine RC.reg rndP_out (by kernel_rfl) ?_
        refine WL.store' hb_ 4 rfl rfl rfl inf32 rfl rfl (Free.zero _) (Nat.le_of_ble_eq_true rfl) ?_
        intro  w6 h6
        try simp only [List.set_cons_zero, List.set_cons_succ, List.eraseIdx_cons_zero, List.eraseIdx_cons_succ] at h6
        replace h6 := h6.setNil (i := 3) (Nat.le_of_ble_eq_true rfl)
        simp only [List.set_cons_zero, List.set_cons_succ] at h6
        refine WL.nil ?_
        refine RN.wn ?_
        refine RN.thn ?_
        refine RC.reg rndP_out (by kernel_rfl) ?_
        refine WL.v (Runs.load1 Try.underlying32 rfl rfl (h6.ocell (i := 4) rfl rfl)) rfl ?_
        refine WL.v (Runs.loadAll h6 0 rfl Try.underlying50 rfl inf50 rfl rfl) rfl ?_
        refine WL.buildSlice (vs := [entA x]) h6 rfl Try.underlying32 (inf50.elem rfl rfl) rfl rfl rfl (by decide) ?_
        intro lit14 w7 h7
        try simp only [List.set_cons_zero, List.set_cons_succ, List.eraseIdx_cons_zero, List.eraseIdx_cons_succ] at h7
        refine WL.appM (f := entC) (ys := [x]) 4 h7 rfl rfl rfl rfl Try.underlying32 Try.underlying32 (.inr ⟨_, rfl⟩) (inf50.elem rfl rfl) (RowM.nil 50 2 entC) (Src.litM h7 0 rfl rfl rfl) rfl (by first | omega | (simp; done) | (simp; omega)) (by first | omega | (simp; done) | (simp; omega)) ?_
        intro r8 v8 w9 hr8 h9
        simp only [List.set_cons_zero, List.set_cons_succ] at h9
        replace h9 := h9.drop 0
        simp only [List.eraseIdx_cons_zero, List.eraseIdx_cons_succ] at h9
        obtain ⟨A8, cap8, rfl, hcap8⟩ := hr8.val
        refine WL.store' h9 4 rfl rfl rfl inf32 rfl rfl (Free.zero _) (Nat.le_of_ble_eq_true rfl) ?_
        intro  w10 h10
        try simp only [List.set_cons_zero, List.set_cons_succ, List.eraseIdx_cons_zero, List.eraseIdx_cons_succ] at h10
        refine WL.nil ?_
        refine RN.wn ?_
        refine RN.blk ?_
        replace h10 := h10.drop 0
        try simp only [List.eraseIdx_cons_zero] at h10
        refine RN.fin h10 (i := 0) rfl ?_
        intro wf hf_
        exact ⟨rfl, G, _, ⟨hle2, by rw [List.length_append]; show out.length + 1 ≤ _; omega, r8, _, (by rw [sinceL_snoc, if_pos c5]; exact hr8), rfl⟩, hf_⟩
    · try simp only [decide_eq_true_eq, decide_eq_false_iff_not, Bool.not_eq_true', Bool.not_eq_false', Bool.and_eq_true, Int.not_lt, Int.not_le] at c5
      first
      | (exfalso; omega)
      | skip
        refine RC.skip ?_
        refine RN.thn ?_
        refine RC.reg rndP_out (by kernel_rfl) ?_
        refine WL.v (Runs.load1 Try.underlying32 rfl rfl (hb_.ocell (i := 4) rfl rfl)) rfl ?_
        refine WL.v (Runs.loadAll hb_ 0 rfl Try.underlying50 rfl inf50 rfl rfl) rfl ?_
        refine WL.buildSlice (vs := [entA x]) hb_ rfl Try.underlying32 (inf50.elem rfl rfl) rfl rfl rfl (by decide) ?_
        intro lit14 w11 h11
        try simp only [List.set_cons_zero, List.set_cons_succ, List.eraseIdx_cons_zero, List.eraseIdx_cons_succ] at h11
        refine WL.appM (f := entC) (ys := [x]) 4 h11 rfl rfl rfl rfl Try.underlying32 Try.underlying32 (.inr ⟨_, rfl⟩) (inf50.elem rfl rfl) hr (Src.litM h11 0 rfl rfl rfl) rfl (by first | omega | (simp; done) | (simp; omega)) (by first | omega | (simp; done) | (simp; omega)) ?_
        intro r12 v12 w13 hr12 h13
        simp only [List.set_cons_zero, List.set_cons_succ] at h13
        replace h13 := h13.drop 0
        simp only [List.eraseIdx_cons_zero, List.eraseIdx_cons_succ] at h13
        obtain ⟨A12, cap12, rfl, hcap12⟩ := hr12.val
        refine WL.store' h13 4 rfl rfl rfl inf32 rfl rfl (Free.zero _) (Nat.le_of_ble_eq_true rfl) ?_
        intro  w14 h14
        try simp only [List.set_cons_zero, List.set_cons_succ, List.eraseIdx_cons_zero, List.eraseIdx_cons_succ] at h14
        refine WL.nil ?_
        refine RN.wn ?_
        refine RN.blk ?_
        replace h14 := h14.drop 0
        try simp only [List.eraseIdx_cons_zero] at h14
        refine RN.fin h14 (i := 0) rfl ?_
        intro wf hf_
        exact ⟨rfl, G, _, ⟨hle2, by rw [List.length_append]; show out.length + 1 ≤ _; omega, r12, _, (by rw [sinceL_snoc, if_neg c5]; exact hr12), rfl⟩, hf_⟩
  · rintro ⟨G, r, v⟩ Dd w3 ⟨hle2, hr⟩ hS3
    obtain ⟨A, cap, rfl, hcap⟩ := hr.val
    refine WN.blk ?_
    refine WN.thn ?_
    refine WC.seq ?_
    refine WC.reg ?_
    refine WL.v (Runs.load1 Try.underlying32 rfl rfl (hS3.ocell (i := 2) rfl rfl)) rfl ?_
    refine WL.v (Runs.assign rfl) rfl ?_
    refine WL.nil ?_
    refine WN.thn ?_
    refine WC.ret ?_
    refine retM1 hS3 (i := 0) rfl rfl rfl (fun w9 hS9 => ?_)
    obtain ⟨G2, h91, h92, h93⟩ := hS9.freeze (i := 0) rfl
    exact ⟨G2, A, cap, Le.trans hG1 (Le.trans hle2 h91), rfl, hcap, RowM.read (f := entC) (m := 2) (fun _ => rfl) hr rfl h92, h93.drop 0⟩
end Jo
end Go.Proofs.Ythjcfhfbaeokeaa
