/- Walks of the reference of chapter 01: words, rows of bytes and of words. -/
import Derived.Test.YtbkfjedecepfoaaMBaseK
import Derived.Test.YtbkfjedecepfoaaMShaR
import Derived.Test.YtbkfjedecepfoaaMSha5
namespace Go.Proofs.Ytbkfjedecepfoaa
open Go Go.RowKit B
set_option linter.unusedVariables false
set_option linter.unusedSimpArgs false
namespace Sha
open ShaM (rotr Wd D8)

theorem inf3 : Inf Try.prog 3 (.int .i64 0) 1 8 := by unfold Inf; kernel_rfl
theorem can76 : B.Can Try.prog 76 := ⟨_, Try.func76, by kernel_rfl, rfl⟩   -- roundhouse/roundhouseref01.shr
set_option maxRecDepth 100000 in
set_option maxHeartbeats 1000000 in
theorem rk_c {W : World} {F : Snap} {cs : List Res} (w : World)  (h : St W F cs w) : Calls Try.prog 78 #[] w (Gives W F cs VI (ShaM.K))  := by
  refine enter (P := Try.prog) (args := []) Try.func78 rfl rfl rfl ?_
  
  refine WC.seq ?_
  refine WC.reg ?_
  refine WL.v (Runs.assign rfl) rfl ?_
  refine WL.nil ?_
  refine WN.thn ?_
  refine WC.seq ?_
  refine WC.reg ?_
  refine WL.lit (vs := (ShaM.K).map VI) h rfl Try.underlying22 inf3 rfl rfl rfl rfl rfl ?_
  intro lit1 w1 h1
  refine WL.v (Runs.assign rfl) rfl ?_
  refine WL.nil ?_
  refine WN.thn ?_
  refine WC.ret ?_
  exact ret1 rfl rfl (h1.litGives rfl)
set_option maxRecDepth 100000 in
set_option maxHeartbeats 1000000 in
theorem word_c {W : World} {F : Snap} {cs : List Res} (w : World) (x : Wd) (z : Int) (h : St W F cs w) (hz : 0 ≤ z) (hx : z % 4294967296 = (x.toNat : Int)) : Calls Try.prog 80 #[.int .i64 z] w fun e w' => e = .returned (VI x) ∧ St W F cs w'  := by
  refine enter (P := Try.prog) (args := [.int .i64 z]) Try.func80 rfl rfl rfl ?_
  refine WC.seq ?_
  refine WC.reg ?_
  refine WL.v (Runs.assign rfl) rfl ?_
  refine WL.nil ?_
  refine WN.thn ?_
  refine WC.seq ?_
  refine WC.reg ?_
  refine WL.v (Runs.move rfl) rfl ?_
  refine WL.v (Runs.intT (n := (x.toNat : Int)) (Runs.remn rfl rfl (by omega) (by omega)) hx) rfl ?_
  refine WL.v (Runs.assign rfl) rfl ?_
  refine WL.nil ?_
  refine WN.thn ?_
  refine WC.ret ?_
  exact ret1 rfl rfl ⟨rfl, h⟩
set_option maxRecDepth 100000 in
set_option maxHeartbeats 1000000 in
theorem rshr_c {W : World} {F : Snap} {cs : List Res} (w : World) (a n : Nat) (h : St W F cs w) (ha : a ≤ 9223372036854775807) (hn : n ≤ 64) : Calls Try.prog 76 #[.int .i64 (a : Int), .int .i64 (n : Int)] w fun e w' => e = .returned (.int .i64 ((a / 2 ^ n : Nat) : Int)) ∧ St W F cs w'  := by
  refine enter (P := Try.prog) (args := [.int .i64 (a : Int), .int .i64 (n : Int)]) Try.func76 rfl rfl rfl ?_
  refine WC.seq ?_
  refine WC.reg ?_
  refine WL.v (Runs.assign rfl) rfl ?_
  refine WL.nil ?_
  refine WN.thn ?_
  refine WC.seq ?_
  refine WC.seq ?_
  refine WC.reg ?_
  refine WL.v (Runs.assign rfl) rfl ?_
  refine WL.nil ?_
  refine WN.thn ?_
  refine WC.block ?_
  refine WC.loop (σ := Nat) (fun q_ => [(0, .int .i64 ((a / 2 ^ q_ : Nat) : Int)), (1, .int .i64 (n : Int)), (5, .int .i64 (q_ : Int))]) (fun q_ w => q_ ≤ n ∧ St W F cs w) (fun q_ => n - q_) (0) ⟨by show some (Value.int .i64 (a : Int)) = _; simp, rfl, rfl, trivial⟩ (⟨by omega, h⟩) ?_
  rintro i w1 ⟨hi, hL⟩
  try dsimp only at hi hL
  refine WC.sub (s := [(0, .int .i64 ((a / 2 ^ i : Nat) : Int)), (1, .int .i64 (n : Int)), (5, .int .i64 (i : Int))]) (by repeat (first | exact trivial | refine ⟨rfl, ?_⟩)) ?_
  refine WC.seq ?_
  refine WC.seq ?_
  refine WC.reg ?_
  refine WL.v (Runs.move rfl) rfl ?_
  refine WL.v (Runs.move rfl) rfl ?_
  refine WL.v (Runs.lss rfl rfl) rfl ?_
  refine WL.nil ?_
  refine WN.thn ?_
  refine WC.cond rfl (fun c2 => ?_) (fun c2 => ?_)
  · try simp only [decide_eq_true_eq, decide_eq_false_iff_not, Bool.not_eq_true', Bool.not_eq_false', Bool.and_eq_true, Int.not_lt, Int.not_le] at c2
    first
    | (exfalso; omega)
    | skip
      refine WC.skip ?_
      refine WN.thn ?_
      refine WC.seq ?_
      refine WC.block ?_
      refine WC.reg ?_
      refine WL.v (Runs.move rfl) rfl ?_
      refine WL.v (Runs.intT (n := ((a / 2 ^ (i + 1) : Nat) : Int)) (Runs.quon rfl rfl (by have h1 := Nat.div_le_self a (2 ^ i); generalize a / 2 ^ i = q at *; omega) (by omega)) (ShaR.div_next a i)) rfl ?_
      refine WL.v (Runs.assign rfl) rfl ?_
      refine WL.nil ?_
      refine WN.blk ?_
      refine WN.thn ?_
      refine WC.reg ?_
      refine WL.v (Runs.move rfl) rfl ?_
      refine WL.v (Runs.addn rfl rfl (by omega)) rfl ?_
      refine WL.v (Runs.assign rfl) rfl ?_
      refine WL.nil ?_
      exact WN.again (i + 1) (by omega) ⟨rfl, rfl, rfl, trivial⟩ ⟨by omega, hL⟩
  · try simp only [decide_eq_true_eq, decide_eq_false_iff_not, Bool.not_eq_true', Bool.not_eq_false', Bool.and_eq_true, Int.not_lt, Int.not_le] at c2
    first
    | (exfalso; omega)
    | skip
      refine WC.exit ?_
      refine WX.thn ?_
      refine WX.cut ?_
      refine WX.hit ?_
      refine WN.thn ?_
      refine WC.seq ?_
      refine WC.reg ?_
      refine WL.v (Runs.move rfl) rfl ?_
      refine WL.v (Runs.assign rfl) rfl ?_
      refine WL.nil ?_
      refine WN.thn ?_
      refine WC.ret ?_
      obtain rfl : i = n := by omega
      exact ret1 rfl rfl ⟨rfl, hL⟩
set_option maxRecDepth 100000 in
set_option maxHeartbeats 1000000 in
theorem rrot_c {W : World} {F : Snap} {cs : List Res} (w : World) (x : Wd) (n : Nat) (h : St W F cs w) (hn : n ≤ 31) : Calls Try.prog 79 #[VI x, .int .i64 (n : Int)] w fun e w' => e = .returned (VI (rotr x n)) ∧ St W F cs w'  := by
  refine enter (P := Try.prog) (args := [VI x, .int .i64 (n : Int)]) Try.func79 rfl rfl rfl ?_
  refine WC.seq ?_
  refine WC.reg ?_
  refine WL.v (Runs.assign rfl) rfl ?_
  refine WL.nil ?_
  refine WN.thn ?_
  refine WC.seq ?_
  refine WC.seq ?_
  refine WC.reg ?_
  refine WL.v (Runs.assign rfl) rfl ?_
  refine WL.nil ?_
  refine WN.thn ?_
  refine WC.block ?_
  refine WC.loop (σ := Nat) (fun q_ => [(0, VI (rotr x q_)), (1, .int .i64 (n : Int)), (5, .int .i64 (q_ : Int))]) (fun q_ w => q_ ≤ n ∧ St W F cs w) (fun q_ => n - q_) (0) ⟨by show some (VI x) = _; rw [ShaR.rotr0], rfl, rfl, trivial⟩ (⟨by omega, h⟩) ?_
  rintro i w1 ⟨hi, hL⟩
  try dsimp only at hi hL
  refine WC.sub (s := [(0, VI (rotr x i)), (1, .int .i64 (n : Int)), (5, .int .i64 (i : Int))]) (by repeat (first | exact trivial | refine ⟨rfl, ?_⟩)) ?_
  have hlt := (rotr x i).isLt
  refine WC.seq ?_
  refine WC.seq ?_
  refine WC.reg ?_
  refine WL.v (Runs.move rfl) rfl ?_
  refine WL.v (Runs.move rfl) rfl ?_
  refine WL.v (Runs.lss rfl rfl) rfl ?_
  refine WL.nil ?_
  refine WN.thn ?_
  refine WC.cond rfl (fun c2 => ?_) (fun c2 => ?_)
  · try simp only [decide_eq_true_eq, decide_eq_false_iff_not, Bool.not_eq_true', Bool.not_eq_false', Bool.and_eq_true, Int.not_lt, Int.not_le] at c2
    first
    | (exfalso; omega)
    | skip
      refine WC.skip ?_
      refine WN.thn ?_
      refine WC.seq ?_
      refine WC.block ?_
      refine WC.reg ?_
      refine WL.v (Runs.move rfl) rfl ?_
      refine WL.v (Runs.quon rfl rfl (by omega) (by omega)) rfl ?_
      refine WL.v (Runs.move rfl) rfl ?_
      refine WL.v (Runs.remn rfl rfl (by omega) (by omega)) rfl ?_
      refine WL.v (Runs.muln rfl rfl (by omega)) rfl ?_
      refine WL.v (Runs.intT (n := ((rotr x (i + 1)).toNat : Int)) (Runs.addn rfl rfl (by omega)) (ShaR.rot_next x i (by omega))) rfl ?_
      refine WL.v (Runs.assign rfl) rfl ?_
      refine WL.nil ?_
      refine WN.blk ?_
      refine WN.thn ?_
      refine WC.reg ?_
      refine WL.v (Runs.move rfl) rfl ?_
      refine WL.v (Runs.addn rfl rfl (by omega)) rfl ?_
      refine WL.v (Runs.assign rfl) rfl ?_
      refine WL.nil ?_
      exact WN.again (i + 1) (by omega) ⟨rfl, rfl, rfl, trivial⟩ ⟨by omega, hL⟩
  · try simp only [decide_eq_true_eq, decide_eq_false_iff_not, Bool.not_eq_true', Bool.not_eq_false', Bool.and_eq_true, Int.not_lt, Int.not_le] at c2
    first
    | (exfalso; omega)
    | skip
      refine WC.exit ?_
      refine WX.thn ?_
      refine WX.cut ?_
      refine WX.hit ?_
      refine WN.thn ?_
      refine WC.seq ?_
      refine WC.reg ?_
      refine WL.v (Runs.move rfl) rfl ?_
      refine WL.v (Runs.assign rfl) rfl ?_
      refine WL.nil ?_
      refine WN.thn ?_
      refine WC.ret ?_
      obtain rfl : i = n := by omega
      exact ret1 rfl rfl ⟨rfl, hL⟩
theorem rshrw_c {W : World} {F : Snap} {cs : List Res} (w : World) (x : Wd) (n : Nat) (h : St W F cs w) (hn : n ≤ 64) : Calls Try.prog 76 #[VI x, .int .i64 (n : Int)] w fun e w' => e = .returned (VI (x >>> n)) ∧ St W F cs w' := by
  have := rshr_c w x.toNat n h (by have := x.isLt; omega) hn
  rwa [← ShaR.shr_toNat] at this
theorem take_next {α : Type} {l : List α} {i : Nat} (d : α) (hi : i < l.length) : l.take i ++ [l.getD i d] = l.take (i + 1) := by
  rw [List.take_succ_eq_append_getElem hi, List.getD_eq_getElem?_getD, List.getElem?_eq_getElem hi]; rfl
set_option maxRecDepth 100000 in
set_option maxHeartbeats 1000000 in
theorem rpad_c {W : World} {F : Snap} {cs : List Res} (w : World) (s : ByteArray) (h : St W F cs w) (hs : s.size ≤ 1000000) : Calls Try.prog 70 #[.string s] w (Gives W F cs VB (ShaM.pad s.data.toList))  := by
  refine enter (P := Try.prog) (args := [.string s]) Try.func70 rfl rfl rfl ?_
  obtain ⟨S, hS⟩ : ∃ S, S = s.data.toList := ⟨_, rfl⟩
  have hSl : S.length = s.size := by rw [hS]; simp
  have hp : ShaM.pads S.length = (119 - S.length % 64) % 64 := rfl
  rw [← hS]
  replace h := h.nilRes
  refine WC.seq ?_
  refine WC.reg ?_
  refine WL.v (Runs.assign rfl) rfl ?_
  refine WL.nil ?_
  refine WN.thn ?_
  refine WC.seq ?_
  refine WC.reg ?_
  refine WL.v (Runs.assign rfl) rfl ?_
  refine WL.nil ?_
  refine WN.thn ?_
  refine WC.seq ?_
  refine WC.seq ?_
  refine WC.reg ?_
  refine WL.v (Runs.assign rfl) rfl ?_
  refine WL.nil ?_
  refine WN.thn ?_
  refine WC.block ?_
  refine WC.loop (σ := Nat × Res × Value) (fun q_ => [(0, .string s), (3, q_.2.2), (4, .int .i64 (q_.1 : Int))]) (fun q_ w => q_.1 ≤ s.size ∧ Row 3 VB q_.2.1 q_.2.2 (S.take q_.1) ∧ St W F (q_.2.1 :: cs) w) (fun q_ => s.size - q_.1) (⟨0, [], .slice none 0 0⟩) (by repeat (first | exact trivial | refine ⟨rfl, ?_⟩)) (⟨by omega, Row.nil _ _, h⟩) ?_
  rintro ⟨i, r, v⟩ w1 ⟨hi, hrb, hL⟩
  try dsimp only at hi hrb hL
  refine WC.sub (s := [(0, .string s), (3, v), (4, .int .i64 (i : Int))]) (by repeat (first | exact trivial | refine ⟨rfl, ?_⟩)) ?_
  obtain ⟨A, cap, rfl, hcap⟩ := hrb.val
  have hlen : (S.take i).length = i := by rw [List.length_take]; omega
  refine WC.seq ?_
  refine WC.seq ?_
  refine WC.reg ?_
  refine WL.v (Runs.move rfl) rfl ?_
  refine WL.v (Runs.move rfl) rfl ?_
  refine WL.v (Runs.slen Try.underlying9 rfl rfl) rfl ?_
  refine WL.v (Runs.lss rfl rfl) rfl ?_
  refine WL.nil ?_
  refine WN.thn ?_
  refine WC.cond rfl (fun c2 => ?_) (fun c2 => ?_)
  · try simp only [decide_eq_true_eq, decide_eq_false_iff_not, Bool.not_eq_true', Bool.not_eq_false', Bool.and_eq_true, Int.not_lt, Int.not_le] at c2
    first
    | (exfalso; omega)
    | skip
      refine WC.skip ?_
      refine WN.thn ?_
      refine WC.seq ?_
      refine WC.block ?_
      refine WC.reg ?_
      refine WL.v (Runs.move rfl) rfl ?_
      refine WL.v (Runs.move rfl) rfl ?_
      refine WL.v (Runs.move rfl) rfl ?_
      refine WL.v (Runs.sidx8 Try.underlying9 rfl rfl (n := i) rfl (by omega)) rfl ?_
      refine WL.v (Runs.u8toI Try.underlying5 Try.underlying3 rfl) rfl ?_
      refine WL.lit (vs := (([s.data.toList.getD i 0] : List UInt8)).map VB) hL rfl Try.underlying22 inf3 rfl rfl rfl rfl rfl ?_
      intro lit17 w3 h3
      refine WL.app (ys := ([s.data.toList.getD i 0] : List UInt8)) 1 h3 rfl rfl rfl rfl Try.underlying22 Try.underlying22 (.inr ⟨_, rfl⟩) inf3 rfl hrb (Src.lit h3 0 rfl rfl rfl) rfl rfl (by first | omega | (simp [lenb_len]; done) | (simp [lenb_len]; omega)) (by first | omega | (simp [lenb_len]; done) | (simp [lenb_len]; omega)) ?_
      intro r4 v4 w5 hr4 h5
      simp only [List.set_cons_zero, List.set_cons_succ] at h5
      replace h5 := h5.drop 0
      simp only [List.eraseIdx_cons_zero, List.eraseIdx_cons_succ] at h5
      refine WL.v (Runs.assign rfl) rfl ?_
      refine WL.nil ?_
      refine WN.blk ?_
      refine WN.thn ?_
      refine WC.reg ?_
      refine WL.v (Runs.move rfl) rfl ?_
      refine WL.v (Runs.addn rfl rfl (by omega)) rfl ?_
      refine WL.v (Runs.assign rfl) rfl ?_
      refine WL.nil ?_
      refine WN.again (⟨i + 1, r4, v4⟩ : Nat × Res × Value) (by show s.size - (i + 1) < s.size - i; omega) ⟨rfl, rfl, rfl, trivial⟩ ⟨by show i + 1 ≤ _; omega, ?_, h5⟩
      have := hr4
      rwa [← hS, take_next _ (by omega)] at this
  · try simp only [decide_eq_true_eq, decide_eq_false_iff_not, Bool.not_eq_true', Bool.not_eq_false', Bool.and_eq_true, Int.not_lt, Int.not_le] at c2
    first
    | (exfalso; omega)
    | skip
      refine WC.exit ?_
      refine WX.thn ?_
      refine WX.cut ?_
      refine WX.hit ?_
      refine WN.thn ?_
      refine WC.seq ?_
      refine WC.reg ?_
      refine WL.v (Runs.move rfl) rfl ?_
      refine WL.lit (vs := (([0x80] : List UInt8)).map VB) hL rfl Try.underlying22 inf3 rfl rfl rfl rfl rfl ?_
      intro lit20 w6 h6
      refine WL.app (ys := ([0x80] : List UInt8)) 1 h6 rfl rfl rfl rfl Try.underlying22 Try.underlying22 (.inr ⟨_, rfl⟩) inf3 rfl hrb (Src.lit h6 0 rfl rfl rfl) rfl rfl (by first | omega | (simp [lenb_len]; done) | (simp [lenb_len]; omega)) (by first | omega | (simp [lenb_len]; done) | (simp [lenb_len]; omega)) ?_
      intro r7 v7 w8 hr7 h8
      simp only [List.set_cons_zero, List.set_cons_succ] at h8
      replace h8 := h8.drop 0
      simp only [List.eraseIdx_cons_zero, List.eraseIdx_cons_succ] at h8
      refine WL.v (Runs.assign rfl) rfl ?_
      refine WL.nil ?_
      refine WN.thn ?_
      refine WC.seq ?_
      refine WC.block ?_
      refine WC.loop (σ := Nat × Res × Value) (fun q_ => [(0, .string s), (3, q_.2.2)]) (fun q_ w => q_.1 ≤ ShaM.pads S.length ∧ Row 3 VB q_.2.1 q_.2.2 (S ++ [0x80] ++ List.replicate q_.1 0) ∧ St W F (q_.2.1 :: cs) w) (fun q_ => ShaM.pads S.length - q_.1) (⟨0, r7, v7⟩) (by repeat (first | exact trivial | refine ⟨rfl, ?_⟩)) (⟨by omega, by have hh := hr7; rw [List.take_of_length_le (by omega)] at hh; simpa using hh, h8⟩) ?_
      rintro ⟨k, r, v⟩ w9 ⟨hk, hrb, hL⟩
      try dsimp only at hk hrb hL
      refine WC.sub (s := [(0, .string s), (3, v)]) (by repeat (first | exact trivial | refine ⟨rfl, ?_⟩)) ?_
      obtain ⟨A, cap, rfl, hcap⟩ := hrb.val
      have hlen : (S ++ [0x80] ++ List.replicate k 0).length = S.length + 1 + k := by simp; omega
      refine WC.seq ?_
      refine WC.seq ?_
      refine WC.reg ?_
      refine WL.v (Runs.move rfl) rfl ?_
      refine WL.v (Runs.llen Try.underlying22 rfl rfl) rfl ?_
      refine WL.v (Runs.remn rfl rfl (by omega) (by omega)) rfl ?_
      refine WL.v (Runs.neq rfl rfl) rfl ?_
      refine WL.nil ?_
      refine WN.thn ?_
      refine WC.cond rfl (fun c10 => ?_) (fun c10 => ?_)
      · try simp only [decide_eq_true_eq, decide_eq_false_iff_not, Bool.not_eq_true', Bool.not_eq_false', Bool.and_eq_true, Int.not_lt, Int.not_le] at c10
        first
        | (exfalso; omega)
        | skip
          refine WC.skip ?_
          refine WN.thn ?_
          refine WC.block ?_
          refine WC.reg ?_
          refine WL.v (Runs.move rfl) rfl ?_
          refine WL.lit (vs := (([0] : List UInt8)).map VB) hL rfl Try.underlying22 inf3 rfl rfl rfl rfl rfl ?_
          intro lit27 w11 h11
          refine WL.app (ys := ([0] : List UInt8)) 1 h11 rfl rfl rfl rfl Try.underlying22 Try.underlying22 (.inr ⟨_, rfl⟩) inf3 rfl hrb (Src.lit h11 0 rfl rfl rfl) rfl rfl (by first | omega | (simp [lenb_len]; done) | (simp [lenb_len]; omega)) (by first | omega | (simp [lenb_len]; done) | (simp [lenb_len]; omega)) ?_
          intro r12 v12 w13 hr12 h13
          simp only [List.set_cons_zero, List.set_cons_succ] at h13
          replace h13 := h13.drop 0
          simp only [List.eraseIdx_cons_zero, List.eraseIdx_cons_succ] at h13
          refine WL.v (Runs.assign rfl) rfl ?_
          refine WL.nil ?_
          refine WN.blk ?_
          refine WN.again (⟨k + 1, r12, v12⟩ : Nat × Res × Value) (by show _ - (k + 1) < _ - k; omega) ⟨rfl, rfl, trivial⟩ ⟨by show k + 1 ≤ _; omega, ?_, h13⟩
          have := hr12
          rwa [List.append_assoc, ← List.replicate_succ'] at this
      · try simp only [decide_eq_true_eq, decide_eq_false_iff_not, Bool.not_eq_true', Bool.not_eq_false', Bool.and_eq_true, Int.not_lt, Int.not_le] at c10
        first
        | (exfalso; omega)
        | skip
          refine WC.exit ?_
          refine WX.thn ?_
          refine WX.cut ?_
          refine WX.hit ?_
          refine WN.thn ?_
          refine WC.seq ?_
          refine WC.seq ?_
          refine WC.reg ?_
          refine WL.v (Runs.assign rfl) rfl ?_
          refine WL.nil ?_
          refine WN.thn ?_
          refine WC.block ?_
          refine WC.loop (σ := Nat × Res × Value) (fun q_ => [(0, .string s), (3, q_.2.2), (5, .int .i64 (7 - (q_.1 : Int)))]) (fun q_ w => q_.1 ≤ 8 ∧ Row 3 VB q_.2.1 q_.2.2 ((S ++ [0x80] ++ List.replicate (ShaM.pads S.length) 0) ++ ShaM.lenb S.length q_.1) ∧ St W F (q_.2.1 :: cs) w) (fun q_ => 8 - q_.1) (⟨0, r, _⟩) (by repeat (first | exact trivial | refine ⟨rfl, ?_⟩)) (⟨by omega, by obtain rfl : k = ShaM.pads S.length := (by omega); simpa [ShaM.lenb] using hrb, hL⟩) ?_
          rintro ⟨i, r, v⟩ w14 ⟨hi, hrb, hL⟩
          try dsimp only at hi hrb hL
          refine WC.sub (s := [(0, .string s), (3, v), (5, .int .i64 (7 - (i : Int)))]) (by repeat (first | exact trivial | refine ⟨rfl, ?_⟩)) ?_
          obtain ⟨A, cap, rfl, hcap⟩ := hrb.val
          have hlen : ((S ++ [0x80] ++ List.replicate (ShaM.pads S.length) 0) ++ ShaM.lenb S.length i).length = S.length + 1 + ShaM.pads S.length + i := by simp [lenb_len]; omega
          refine WC.seq ?_
          refine WC.seq ?_
          refine WC.reg ?_
          refine WL.v (Runs.move rfl) rfl ?_
          refine WL.v (Runs.geq rfl rfl) rfl ?_
          refine WL.nil ?_
          refine WN.thn ?_
          refine WC.cond rfl (fun c15 => ?_) (fun c15 => ?_)
          · try simp only [decide_eq_true_eq, decide_eq_false_iff_not, Bool.not_eq_true', Bool.not_eq_false', Bool.and_eq_true, Int.not_lt, Int.not_le] at c15
            first
            | (exfalso; omega)
            | skip
              refine WC.skip ?_
              refine WN.thn ?_
              refine WC.seq ?_
              refine WC.block ?_
              refine WC.reg ?_
              refine WL.v (Runs.move rfl) rfl ?_
              refine WL.v (Runs.move rfl) rfl ?_
              refine WL.v (Runs.slen Try.underlying9 rfl rfl) rfl ?_
              refine WL.v (Runs.intT (n := ((8 * s.size : Nat) : Int)) (Runs.muln rfl rfl (by omega)) (by omega)) rfl ?_
              refine WL.v (Runs.move rfl) rfl ?_
              refine WL.v (Runs.intT (n := ((8 * (7 - i) : Nat) : Int)) (Runs.muln rfl rfl (by omega)) (by omega)) rfl ?_
              refine WL.call can76 rfl rfl (rshr_c _ (8 * s.size) (8 * (7 - i)) hL (by omega) (by omega)) ?_
              rintro _ w16 ⟨rfl, h16⟩
              refine ⟨_, rfl, ?_⟩
              refine WL.v (Runs.intT (n := ((UInt8.ofNat (8 * s.size / 2 ^ (8 * (7 - i)))).toNat : Int)) (Runs.remn rfl rfl (Int.natCast_nonneg _) (by decide)) (ShaR.len_byte _ _)) rfl ?_
              refine WL.lit (vs := (([UInt8.ofNat (8 * s.size / 2 ^ (8 * (7 - i)))] : List UInt8)).map VB) h16 rfl Try.underlying22 inf3 rfl rfl rfl rfl rfl ?_
              intro lit41 w17 h17
              refine WL.app (ys := ([UInt8.ofNat (8 * s.size / 2 ^ (8 * (7 - i)))] : List UInt8)) 1 h17 rfl rfl rfl rfl Try.underlying22 Try.underlying22 (.inr ⟨_, rfl⟩) inf3 rfl hrb (Src.lit h17 0 rfl rfl rfl) rfl rfl (by first | omega | (simp [lenb_len]; done) | (simp [lenb_len]; omega)) (by first | omega | (simp [lenb_len]; done) | (simp [lenb_len]; omega)) ?_
              intro r18 v18 w19 hr18 h19
              simp only [List.set_cons_zero, List.set_cons_succ] at h19
              replace h19 := h19.drop 0
              simp only [List.eraseIdx_cons_zero, List.eraseIdx_cons_succ] at h19
              refine WL.v (Runs.assign rfl) rfl ?_
              refine WL.nil ?_
              refine WN.blk ?_
              refine WN.thn ?_
              refine WC.reg ?_
              refine WL.v (Runs.move rfl) rfl ?_
              refine WL.v (Runs.subn rfl rfl (by omega)) rfl ?_
              refine WL.v (Runs.assign rfl) rfl ?_
              refine WL.nil ?_
              refine WN.again (⟨i + 1, r18, v18⟩ : Nat × Res × Value) (by show 8 - (i + 1) < 8 - i; omega) ⟨rfl, rfl, ?_, trivial⟩ ⟨by show i + 1 ≤ 8; omega, ?_, h19⟩
              · show some (Value.int .i64 (7 - (i : Int) - 1)) = some (.int .i64 (7 - ((i + 1 : Nat) : Int)))
                rw [show (7 - (i : Int) - 1) = 7 - ((i + 1 : Nat) : Int) by omega]
              · have := hr18
                rw [← hSl, show 8 * (7 - i) = 56 - 8 * i by omega] at this
                rwa [List.append_assoc, ← lenb_succ] at this
          · try simp only [decide_eq_true_eq, decide_eq_false_iff_not, Bool.not_eq_true', Bool.not_eq_false', Bool.and_eq_true, Int.not_lt, Int.not_le] at c15
            first
            | (exfalso; omega)
            | skip
              refine WC.exit ?_
              refine WX.thn ?_
              refine WX.cut ?_
              refine WX.hit ?_
              refine WN.thn ?_
              refine WC.seq ?_
              refine WC.reg ?_
              refine WL.v (Runs.move rfl) rfl ?_
              refine WL.v (Runs.assign rfl) rfl ?_
              refine WL.nil ?_
              refine WN.thn ?_
              refine WC.ret ?_
              obtain rfl : i = 8 := by omega
              exact ret1 rfl rfl (Row.gives hrb hL)
end Sha
end Go.Proofs.Ytbkfjedecepfoaa
