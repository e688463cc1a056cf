/- Walks of package sha: the schedule, and a block. -/
import Derived.Test.YtbkfjedecepfoaaMSha1
namespace Go.Proofs.Ytbkfjedecepfoaa
open Go Go.RowKit B
set_option linter.unusedVariables false
set_option linter.unusedSimpArgs false
namespace Sha
open ShaM (rotr Wd D8)

theorem inf5 : Inf Try.prog 5 (.int .u8 0) 1 1 := by unfold Inf; kernel_rfl
theorem inf93 : Inf Try.prog 93 (.int .u32 0) 1 4 := by unfold Inf; kernel_rfl
theorem can75 : B.Can Try.prog 75 := ⟨_, Try.func75, by kernel_rfl, rfl⟩   -- roundhouse/sha.rot
theorem set_first' {α : Type} {pre : List α} {z v : α} {n i : Nat} (h : pre.length = i) (hn : i < n) : (pre ++ List.replicate (n - i) z).set i v = pre ++ [v] ++ List.replicate (n - (i + 1)) z := by
  subst h
  have := set_first pre z v n hn
  simpa using this
theorem grow_step (bs : List UInt8) (j : Nat) (hj : j < 48) : (ShaM.grow j (ShaM.firsts bs 16) ++ List.replicate (64 - (16 + j)) (0 : Wd)).set (16 + j)
    ((ShaM.grow j (ShaM.firsts bs 16) ++ List.replicate (64 - (16 + j)) (0 : Wd)).getD j 0 + ShaM.s0 ((ShaM.grow j (ShaM.firsts bs 16) ++ List.replicate (64 - (16 + j)) (0 : Wd)).getD (j + 1) 0) + (ShaM.grow j (ShaM.firsts bs 16) ++ List.replicate (64 - (16 + j)) (0 : Wd)).getD (j + 9) 0 + ShaM.s1 ((ShaM.grow j (ShaM.firsts bs 16) ++ List.replicate (64 - (16 + j)) (0 : Wd)).getD (j + 14) 0)) =
    ShaM.grow (j + 1) (ShaM.firsts bs 16) ++ List.replicate (64 - (16 + (j + 1))) (0 : Wd) := by
  have hl : (ShaM.grow j (ShaM.firsts bs 16)).length = 16 + j := by rw [ShaM.grow_len, ShaM.firsts_len]
  have g : ∀ k, k < 16 + j → (ShaM.grow j (ShaM.firsts bs 16) ++ List.replicate (64 - (16 + j)) (0 : Wd)).getD k 0 = (ShaM.grow j (ShaM.firsts bs 16)).getD k 0 := by
    intro k hk
    have := getD_pre (ShaM.grow j (ShaM.firsts bs 16)) (0 : Wd) 0 64 k (by omega)
    rwa [hl] at this
  rw [g _ (by omega), g _ (by omega), g _ (by omega), g _ (by omega), set_first' hl (by omega)]
  show _ = (ShaM.grow j (ShaM.firsts bs 16) ++ [ShaM.ext (ShaM.grow j (ShaM.firsts bs 16))]) ++ _
  unfold ShaM.ext
  rw [hl, show 16 + j - 16 = j by omega, show 16 + j - 15 = j + 1 by omega, show 16 + j - 7 = j + 9 by omega, show 16 + j - 2 = j + 14 by omega, show 16 + j + 1 = 16 + (j + 1) by omega]
theorem first_step (bs : List UInt8) (i : Nat) (hi : i < 16) : (ShaM.firsts bs i ++ List.replicate (64 - i) (0 : Wd)).set i (ShaM.w0 bs i) = ShaM.firsts bs (i + 1) ++ List.replicate (64 - (i + 1)) (0 : Wd) := by
  rw [set_first' (ShaM.firsts_len bs i) (by omega), ShaM.firsts_succ]
set_option maxRecDepth 100000 in
set_option maxHeartbeats 2000000 in
theorem schedule_c {W : World} {F : Snap} {cs : List Res} {ad : Addr} {cap : Nat} {bs : List UInt8} (w : World) (h : St W F cs w) (hrd : ∀ i x, bs[i]? = some x → cellF F (ad.add i) = some (V8 x)) (hl : bs.length = 64) : Calls Try.prog 73 #[.slice (some ad) bs.length cap] w fun e w' => e = .returned (.agg ((ShaM.sched bs).map V32).toArray) ∧ St W F cs w'  := by
  refine enter (P := Try.prog) (args := [.slice (some ad) bs.length cap]) Try.func73 rfl rfl rfl ?_
  refine WC.seq ?_
  refine WC.reg ?_
  refine WL.alloc' rfl h inf104 ?_
  intro b2 w1 h1
  refine WL.nil ?_
  refine WN.thn ?_
  refine WC.seq ?_
  refine WC.reg ?_
  refine WL.alloc' rfl h1 inf104 ?_
  intro b3 w2 h2
  refine WL.nil ?_
  refine WN.thn ?_
  refine WC.seq ?_
  refine WC.seq ?_
  refine WC.reg ?_
  refine WL.v (Runs.move rfl) rfl ?_
  refine WL.nil ?_
  refine WN.thn ?_
  refine WC.block ?_
  refine WC.loop (σ := Nat) (fun i => [(0, .slice (some ad) bs.length cap), (2, .pointer (some ⟨b2, 0, none⟩)), (3, .pointer (some ⟨b3, 0, none⟩)), (8, .int .i64 (i : Int))]) (fun i w => i ≤ 16 ∧ St W F ([(b3, .cells ((ShaM.firsts bs i ++ List.replicate (64 - i) (0 : Wd)).map V32).toArray 104 (0, 0))] :: [(b2, .cells ((List.replicate 64 (0 : Wd)).map V32).toArray 104 (0, 0))] :: cs) w) (fun i => 16 - i) (0) ⟨rfl, rfl, rfl, rfl, trivial⟩ (⟨by omega, h2⟩) ?_
  rintro i w3 ⟨hi, hL⟩
  try dsimp only at hi hL
  refine WC.seq ?_
  refine WC.reg ?_
  refine WL.v (Runs.lss rfl rfl) rfl ?_
  refine WL.nil ?_
  refine WN.thn ?_
  refine WC.seq ?_
  refine WC.cond rfl (fun c4 => ?_) (fun c4 => ?_)
  · try simp only [decide_eq_true_eq, decide_eq_false_iff_not, Bool.not_eq_true', Bool.not_eq_false', Bool.and_eq_true, Int.not_lt, Int.not_le] at c4
    first
    | (exfalso; omega)
    | skip
      refine WC.skip ?_
      refine WN.thn ?_
      refine WC.seq ?_
      refine WC.block ?_
      refine WC.seq ?_
      refine WC.reg ?_
      refine WL.v (Runs.move rfl) rfl ?_
      refine WL.v (Runs.assign rfl) rfl ?_
      refine WL.nil ?_
      refine WN.thn ?_
      refine WC.dreg (fun w_ => St W F _ w_) (fun k => Nat.beq k 35) mixed (by kernel_rfl) (hL.drew) (fun hx => ?_)
      refine WM.pure hx (by rfl) rfl (fun w_ => Runs.move rfl) rfl ?_
      refine WM.pure hx (by rfl) rfl (fun w_ => Runs.move rfl) rfl ?_
      refine WM.pure hx (by rfl) rfl (fun w_ => Runs.move rfl) rfl ?_
      refine WM.pure hx (by rfl) rfl (fun w_ => Runs.muln rfl rfl (by omega)) rfl ?_
      refine WM.pure hx (by rfl) rfl (fun w_ => Runs.lidxN Try.underlying74 inf5 rfl rfl (n := 4 * i) (by omega) (by omega)) rfl ?_
      refine WM.val 3 hx (by rfl) rfl (by kernel_rfl) (fun w_ hC_ => Runs.loadR (0 : UInt8) hC_ hrd (n := 4 * i) (by omega) Try.underlying5 rfl rfl) rfl ?_
      refine WM.pure hx (by rfl) rfl (fun w_ => Runs.u8to32 Try.underlying5 Try.underlying93 rfl) rfl ?_
      refine WM.pure hx (by rfl) rfl (fun w_ => Runs.shl32 rfl rfl (by decide)) rfl ?_
      refine WM.pure hx (by rfl) rfl (fun w_ => Runs.move rfl) rfl ?_
      refine WM.pure hx (by rfl) rfl (fun w_ => Runs.move rfl) rfl ?_
      refine WM.pure hx (by rfl) rfl (fun w_ => Runs.muln rfl rfl (by omega)) rfl ?_
      refine WM.pure hx (by rfl) rfl (fun w_ => Runs.addn rfl rfl (by omega)) rfl ?_
      refine WM.pure hx (by rfl) rfl (fun w_ => Runs.lidxN Try.underlying74 inf5 rfl rfl (n := 4 * i + 1) (by omega) (by omega)) rfl ?_
      refine WM.val 3 hx (by rfl) rfl (by kernel_rfl) (fun w_ hC_ => Runs.loadR (0 : UInt8) hC_ hrd (n := 4 * i + 1) (by omega) Try.underlying5 rfl rfl) rfl ?_
      refine WM.pure hx (by rfl) rfl (fun w_ => Runs.u8to32 Try.underlying5 Try.underlying93 rfl) rfl ?_
      refine WM.pure hx (by rfl) rfl (fun w_ => Runs.shl32 rfl rfl (by decide)) rfl ?_
      refine WM.pure hx (by rfl) rfl (fun w_ => Runs.or32 rfl rfl) rfl ?_
      refine WM.pure hx (by rfl) rfl (fun w_ => Runs.move rfl) rfl ?_
      refine WM.pure hx (by rfl) rfl (fun w_ => Runs.move rfl) rfl ?_
      refine WM.pure hx (by rfl) rfl (fun w_ => Runs.muln rfl rfl (by omega)) rfl ?_
      refine WM.pure hx (by rfl) rfl (fun w_ => Runs.addn rfl rfl (by omega)) rfl ?_
      refine WM.pure hx (by rfl) rfl (fun w_ => Runs.lidxN Try.underlying74 inf5 rfl rfl (n := 4 * i + 2) (by omega) (by omega)) rfl ?_
      refine WM.val 3 hx (by rfl) rfl (by kernel_rfl) (fun w_ hC_ => Runs.loadR (0 : UInt8) hC_ hrd (n := 4 * i + 2) (by omega) Try.underlying5 rfl rfl) rfl ?_
      refine WM.pure hx (by rfl) rfl (fun w_ => Runs.u8to32 Try.underlying5 Try.underlying93 rfl) rfl ?_
      refine WM.pure hx (by rfl) rfl (fun w_ => Runs.shl32 rfl rfl (by decide)) rfl ?_
      refine WM.pure hx (by rfl) rfl (fun w_ => Runs.or32 rfl rfl) rfl ?_
      refine WM.pure hx (by rfl) rfl (fun w_ => Runs.move rfl) rfl ?_
      refine WM.pure hx (by rfl) rfl (fun w_ => Runs.move rfl) rfl ?_
      refine WM.pure hx (by rfl) rfl (fun w_ => Runs.muln rfl rfl (by omega)) rfl ?_
      refine WM.pure hx (by rfl) rfl (fun w_ => Runs.addn rfl rfl (by omega)) rfl ?_
      refine WM.pure hx (by rfl) rfl (fun w_ => Runs.lidxN Try.underlying74 inf5 rfl rfl (n := 4 * i + 3) (by omega) (by omega)) rfl ?_
      refine WM.val 3 hx (by rfl) rfl (by kernel_rfl) (fun w_ hC_ => Runs.loadR (0 : UInt8) hC_ hrd (n := 4 * i + 3) (by omega) Try.underlying5 rfl rfl) rfl ?_
      refine WM.pure hx (by rfl) rfl (fun w_ => Runs.u8to32 Try.underlying5 Try.underlying93 rfl) rfl ?_
      refine WM.pure hx (by rfl) rfl (fun w_ => Runs.or32 rfl rfl) rfl ?_
      refine WM.pure hx (by rfl) rfl (fun w_ => Runs.aidxN Try.underlying104 inf93 rfl rfl (n := i) (by omega) (by omega)) rfl ?_
      refine WM.toD hx rfl (by decide) (by kernel_rfl) ?_
      intro w5 h5
      refine WD.op (by rfl) rfl (by kernel_rfl) ?_
      refine WL.storeArr h5 0 rfl rfl (u := ShaM.w0 bs i) rfl inf93 rfl rfl (Free.zero _) (by simp [ShaM.firsts_len]; omega) ?_
      intro  w6 h6
      try simp only [List.set_cons_zero, List.set_cons_succ, List.eraseIdx_cons_zero, List.eraseIdx_cons_succ] at h6
      refine WL.nil ?_
      refine WD.next ?_
      refine WD.fin rfl (by kernel_rfl) ?_
      refine WN.blk ?_
      refine WN.thn ?_
      refine WC.reg ?_
      refine WL.v (Runs.addn rfl rfl (by omega)) rfl ?_
      refine WL.v (Runs.move rfl) rfl ?_
      refine WL.nil ?_
      refine WN.again (i + 1) (by omega) ⟨rfl, rfl, rfl, rfl, trivial⟩ ⟨by omega, ?_⟩
      rw [← first_step bs i (by omega)]
      exact h6
  · try simp only [decide_eq_true_eq, decide_eq_false_iff_not, Bool.not_eq_true', Bool.not_eq_false', Bool.and_eq_true, Int.not_lt, Int.not_le] at c4
    first
    | (exfalso; omega)
    | skip
      refine WC.exit ?_
      refine WX.thn ?_
      refine WX.cut ?_
      refine WX.hit ?_
      refine WN.thn ?_
      refine WC.seq ?_
      refine WC.seq ?_
      refine WC.reg ?_
      refine WL.v (Runs.assign rfl) rfl ?_
      refine WL.nil ?_
      refine WN.thn ?_
      refine WC.block ?_
      refine WC.loop (σ := Nat) (fun j => [(2, .pointer (some ⟨b2, 0, none⟩)), (3, .pointer (some ⟨b3, 0, none⟩)), (5, .int .i64 ((16 + j : Nat) : Int))]) (fun j w => j ≤ 48 ∧ St W F ([(b3, .cells ((ShaM.grow j (ShaM.firsts bs 16) ++ List.replicate (64 - (16 + j)) (0 : Wd)).map V32).toArray 104 (0, 0))] :: [(b2, .cells ((List.replicate 64 (0 : Wd)).map V32).toArray 104 (0, 0))] :: cs) w) (fun j => 48 - j) (0) ⟨rfl, rfl, rfl, trivial⟩ (⟨by omega, by obtain rfl : i = 16 := (by omega); exact hL⟩) ?_
      rintro j w7 ⟨hj, hL⟩
      try dsimp only at hj hL
      refine WC.seq ?_
      refine WC.seq ?_
      refine WC.reg ?_
      refine WL.v (Runs.move rfl) rfl ?_
      refine WL.v (Runs.lss rfl rfl) rfl ?_
      refine WL.nil ?_
      refine WN.thn ?_
      refine WC.cond rfl (fun c8 => ?_) (fun c8 => ?_)
      · try simp only [decide_eq_true_eq, decide_eq_false_iff_not, Bool.not_eq_true', Bool.not_eq_false', Bool.and_eq_true, Int.not_lt, Int.not_le] at c8
        first
        | (exfalso; omega)
        | skip
          refine WC.skip ?_
          refine WN.thn ?_
          refine WC.seq ?_
          refine WC.block ?_
          refine WC.seq ?_
          refine WC.qreg (C := fun w_ => St W F _ w_) mixed (by kernel_rfl) (hL.drew) ?_
          refine WQ.val (fun w_ hC_ => Runs.move rfl) rfl ?_
          refine WQ.val (fun w_ hC_ => Runs.subn rfl rfl (by omega)) rfl ?_
          refine WQ.val (fun w_ hC_ => Runs.aidxN Try.underlying104 inf93 rfl rfl (n := j + 1) (by omega) (by omega)) rfl ?_
          refine WQ.val (fun w_ hC_ => Runs.loadArr (0 : Wd) hC_ 0 rfl (n := j + 1) (by simp [ShaM.grow_len, ShaM.firsts_len]; omega) Try.underlying93 rfl rfl) rfl ?_
          refine WQ.val (fun w_ hC_ => Runs.move rfl) rfl ?_
          refine WQ.val (fun w_ hC_ => Runs.subn rfl rfl (by omega)) rfl ?_
          refine WQ.val (fun w_ hC_ => Runs.aidxN Try.underlying104 inf93 rfl rfl (n := j + 14) (by omega) (by omega)) rfl ?_
          refine WQ.val (fun w_ hC_ => Runs.loadArr (0 : Wd) hC_ 0 rfl (n := j + 14) (by simp [ShaM.grow_len, ShaM.firsts_len]; omega) Try.underlying93 rfl rfl) rfl ?_
          refine WQ.val (fun w_ hC_ => Runs.assign rfl) rfl ?_
          refine WQ.val (fun w_ hC_ => Runs.assign rfl) rfl ?_
          refine WQ.fin ?_
          intro w9 h9
          refine WN.thn ?_
          refine WC.dreg (fun w_ => St W F _ w_) (fun k => Nat.beq k 29) mixed (by kernel_rfl) (h9.drew) (fun hx => ?_)
          refine WM.pure hx (by rfl) rfl (fun w_ => Runs.move rfl) rfl ?_
          refine WM.pure hx (by rfl) rfl (fun w_ => Runs.move rfl) rfl ?_
          refine WM.pure hx (by rfl) rfl (fun w_ => Runs.subn rfl rfl (by omega)) rfl ?_
          refine WM.pure hx (by rfl) rfl (fun w_ => Runs.aidxN Try.underlying104 inf93 rfl rfl (n := j) (by omega) (by omega)) rfl ?_
          refine WM.val 3 hx (by rfl) rfl (by kernel_rfl) (fun w_ hC_ => Runs.loadArr (0 : Wd) hC_ 0 rfl (n := j) (by simp [ShaM.grow_len, ShaM.firsts_len]; omega) Try.underlying93 rfl rfl) rfl ?_
          refine WM.pure hx (by rfl) rfl (fun w_ => Runs.move rfl) rfl ?_
          refine WM.call 3 hx (by rfl) rfl (by kernel_rfl) can75 rfl rfl (fun w_ hC_ => (rot_c _ _ _ (by decide)).mono fun e w1 he => ⟨he.1, by rw [he.2]; exact hC_⟩) ?_
          refine WM.pure hx (by rfl) rfl (fun w_ => Runs.move rfl) rfl ?_
          refine WM.call 3 hx (by rfl) rfl (by kernel_rfl) can75 rfl rfl (fun w_ hC_ => (rot_c _ _ _ (by decide)).mono fun e w1 he => ⟨he.1, by rw [he.2]; exact hC_⟩) ?_
          refine WM.pure hx (by rfl) rfl (fun w_ => Runs.xor32 rfl rfl) rfl ?_
          refine WM.pure hx (by rfl) rfl (fun w_ => Runs.move rfl) rfl ?_
          refine WM.pure hx (by rfl) rfl (fun w_ => Runs.shr32 rfl rfl (by decide)) rfl ?_
          refine WM.pure hx (by rfl) rfl (fun w_ => Runs.xor32 rfl rfl) rfl ?_
          refine WM.pure hx (by rfl) rfl (fun w_ => Runs.add32 rfl rfl) rfl ?_
          refine WM.pure hx (by rfl) rfl (fun w_ => Runs.move rfl) rfl ?_
          refine WM.pure hx (by rfl) rfl (fun w_ => Runs.subn rfl rfl (by omega)) rfl ?_
          refine WM.pure hx (by rfl) rfl (fun w_ => Runs.aidxN Try.underlying104 inf93 rfl rfl (n := j + 9) (by omega) (by omega)) rfl ?_
          refine WM.val 3 hx (by rfl) rfl (by kernel_rfl) (fun w_ hC_ => Runs.loadArr (0 : Wd) hC_ 0 rfl (n := j + 9) (by simp [ShaM.grow_len, ShaM.firsts_len]; omega) Try.underlying93 rfl rfl) rfl ?_
          refine WM.pure hx (by rfl) rfl (fun w_ => Runs.add32 rfl rfl) rfl ?_
          refine WM.pure hx (by rfl) rfl (fun w_ => Runs.move rfl) rfl ?_
          refine WM.call 3 hx (by rfl) rfl (by kernel_rfl) can75 rfl rfl (fun w_ hC_ => (rot_c _ _ _ (by decide)).mono fun e w1 he => ⟨he.1, by rw [he.2]; exact hC_⟩) ?_
          refine WM.pure hx (by rfl) rfl (fun w_ => Runs.move rfl) rfl ?_
          refine WM.call 3 hx (by rfl) rfl (by kernel_rfl) can75 rfl rfl (fun w_ hC_ => (rot_c _ _ _ (by decide)).mono fun e w1 he => ⟨he.1, by rw [he.2]; exact hC_⟩) ?_
          refine WM.pure hx (by rfl) rfl (fun w_ => Runs.xor32 rfl rfl) rfl ?_
          refine WM.pure hx (by rfl) rfl (fun w_ => Runs.move rfl) rfl ?_
          refine WM.pure hx (by rfl) rfl (fun w_ => Runs.shr32 rfl rfl (by decide)) rfl ?_
          refine WM.pure hx (by rfl) rfl (fun w_ => Runs.xor32 rfl rfl) rfl ?_
          refine WM.pure hx (by rfl) rfl (fun w_ => Runs.add32 rfl rfl) rfl ?_
          refine WM.pure hx (by rfl) rfl (fun w_ => Runs.aidxN Try.underlying104 inf93 rfl rfl (n := 16 + j) (by omega) (by omega)) rfl ?_
          refine WM.toD hx rfl (by decide) (by kernel_rfl) ?_
          intro w10 h10
          refine WD.op (by rfl) rfl (by kernel_rfl) ?_
          refine WL.storeArr h10 0 rfl rfl rfl inf93 rfl rfl (Free.zero _) (by simp [ShaM.grow_len, ShaM.firsts_len]; omega) ?_
          intro  w11 h11
          try simp only [List.set_cons_zero, List.set_cons_succ, List.eraseIdx_cons_zero, List.eraseIdx_cons_succ] at h11
          refine WL.nil ?_
          refine WD.next ?_
          refine WD.fin rfl (by kernel_rfl) ?_
          refine WN.blk ?_
          refine WN.thn ?_
          refine WC.reg ?_
          refine WL.v (Runs.move rfl) rfl ?_
          refine WL.v (Runs.addn rfl rfl (by omega)) rfl ?_
          refine WL.v (Runs.assign rfl) rfl ?_
          refine WL.nil ?_
          refine WN.again (j + 1) (by omega) ⟨rfl, rfl, rfl, trivial⟩ ⟨by omega, ?_⟩
          rw [← grow_step bs j (by omega)]
          exact h11
      · try simp only [decide_eq_true_eq, decide_eq_false_iff_not, Bool.not_eq_true', Bool.not_eq_false', Bool.and_eq_true, Int.not_lt, Int.not_le] at c8
        first
        | (exfalso; omega)
        | skip
          refine WC.exit ?_
          refine WX.thn ?_
          refine WX.cut ?_
          refine WX.hit ?_
          refine WN.thn ?_
          refine WC.seq ?_
          refine WC.reg ?_
          obtain rfl : j = 48 := by omega
          have hS : St W F ([(b3, .cells ((ShaM.sched bs).map V32).toArray 104 (0, 0))] :: [(b2, .cells ((List.replicate 64 (0 : Wd)).map V32).toArray 104 (0, 0))] :: cs) w7 := by
            have e : ShaM.grow 48 (ShaM.firsts bs 16) ++ List.replicate (64 - (16 + 48)) (0 : Wd) = ShaM.sched bs := by simp [ShaM.sched]
            rw [← e]; exact hL
          refine WL.v (Runs.loadAll hS 0 rfl Try.underlying104 rfl inf104 (by simp [ShaM.sched_len]) rfl) rfl ?_
          refine WL.storeAll hS 1 rfl rfl rfl inf104 (by simp [ShaM.sched_len]) (by simp [ShaM.sched_len]) (by rw [List.all_eq_true]; intro v hv; simp at hv; obtain ⟨a, _, rfl⟩ := hv; rfl) (Free.zero _) ?_
          intro  w12 h12
          try simp only [List.set_cons_zero, List.set_cons_succ, List.eraseIdx_cons_zero, List.eraseIdx_cons_succ] at h12
          refine WL.nil ?_
          refine WN.thn ?_
          refine WC.ret ?_
          exact retA rfl ⟨_, rfl, run_loadVarA (vs := (ShaM.sched bs).map V32) Try.underlying104 rfl inf104 (by simp [ShaM.sched_len]) (fun j v hv => by rw [add_mk, Nat.zero_add]; exact h12.ocell (i := 1) rfl (by simpa using hv))⟩ ⟨rfl, (h12.drop 0).drop 0⟩
end Sha
end Go.Proofs.Ytbkfjedecepfoaa
