/- Walks of the reference of chapter 01: the schedule, a block. -/
import Derived.Test.YtbkfjedecepfoaaMSha8
namespace Go.Proofs.Ytbkfjedecepfoaa
open Go Go.RowKit B
set_option linter.unusedVariables false
set_option linter.unusedSimpArgs false
namespace Sha
open ShaM (rotr Wd D8)

theorem can79 : B.Can Try.prog 79 := ⟨_, Try.func79, by kernel_rfl, rfl⟩   -- roundhouse/roundhouseref01.rot
theorem can80 : B.Can Try.prog 80 := ⟨_, Try.func80, by kernel_rfl, rfl⟩   -- roundhouse/roundhouseref01.word
set_option maxRecDepth 100000 in
set_option maxHeartbeats 2000000 in
theorem rsched_c {W : World} {F : Snap} {cs : List Res} (w : World) {ad : Addr} {cap : Nat} {bs : List UInt8} (h : St W F cs w) (hrd : ∀ i x, bs[i]? = some x → cellF F (ad.add i) = some (VB x)) (hl : bs.length = 64) : Calls Try.prog 77 #[.slice (some ad) bs.length cap] w (Gives W F cs VI (ShaM.sched bs))  := by
  refine enter (P := Try.prog) (args := [.slice (some ad) bs.length cap]) Try.func77 rfl rfl rfl ?_
  replace h := h.nilRes
  refine WC.seq ?_
  refine WC.reg ?_
  refine WL.v (Runs.assign rfl) rfl ?_
  refine WL.nil ?_
  refine WN.thn ?_
  refine WC.seq ?_
  refine WC.reg ?_
  refine WL.v (Runs.assign rfl) rfl ?_
  refine WL.nil ?_
  refine WN.thn ?_
  refine WC.seq ?_
  refine WC.seq ?_
  refine WC.reg ?_
  refine WL.v (Runs.assign rfl) rfl ?_
  refine WL.nil ?_
  refine WN.thn ?_
  refine WC.block ?_
  refine WC.loop (σ := Nat × Res × Value) (fun q_ => [(0, .slice (some ad) bs.length cap), (3, q_.2.2), (4, .int .i64 (q_.1 : Int))]) (fun q_ w => q_.1 ≤ 16 ∧ Row 3 VI q_.2.1 q_.2.2 (ShaM.firsts bs q_.1) ∧ St W F (q_.2.1 :: cs) w) (fun q_ => 16 - q_.1) (⟨0, [], .slice none 0 0⟩) (by repeat (first | exact trivial | refine ⟨rfl, ?_⟩)) (⟨by omega, Row.nil _ _, h⟩) ?_
  rintro ⟨i, r, v⟩ w1 ⟨hi, hro, hL⟩
  try dsimp only at hi hro hL
  refine WC.sub (s := [(0, .slice (some ad) bs.length cap), (3, v), (4, .int .i64 (i : Int))]) (by repeat (first | exact trivial | refine ⟨rfl, ?_⟩)) ?_
  obtain ⟨A, cap1, rfl, hcap⟩ := hro.val
  have b0 := (bs.getD (4 * i) 0).toNat_lt
  have b1 := (bs.getD (4 * i + 1) 0).toNat_lt
  have b2 := (bs.getD (4 * i + 2) 0).toNat_lt
  have b3 := (bs.getD (4 * i + 3) 0).toNat_lt
  refine WC.seq ?_
  refine WC.seq ?_
  refine WC.reg ?_
  refine WL.v (Runs.move rfl) rfl ?_
  refine WL.v (Runs.lss rfl rfl) rfl ?_
  refine WL.nil ?_
  refine WN.thn ?_
  refine WC.cond rfl (fun c2 => ?_) (fun c2 => ?_)
  · try simp only [decide_eq_true_eq, decide_eq_false_iff_not, Bool.not_eq_true', Bool.not_eq_false', Bool.and_eq_true, Int.not_lt, Int.not_le] at c2
    first
    | (exfalso; omega)
    | skip
      refine WC.skip ?_
      refine WN.thn ?_
      refine WC.seq ?_
      refine WC.block ?_
      refine WC.dreg (fun w_ => St W _ _ w_) (fun k => Nat.beq k 30 || Nat.beq k 31) mixed (by kernel_rfl) (hL.drew) (fun hx => ?_)
      refine WM.pure hx (by rfl) rfl (fun w_ => Runs.move rfl) rfl ?_
      refine WM.pure hx (by rfl) rfl (fun w_ => Runs.move rfl) rfl ?_
      refine WM.pure hx (by rfl) rfl (fun w_ => Runs.move rfl) rfl ?_
      refine WM.pure hx (by rfl) rfl (fun w_ => Runs.muln rfl rfl (by omega)) rfl ?_
      refine WM.pure hx (by rfl) rfl (fun w_ => Runs.lidxN Try.underlying22 inf3 rfl rfl (n := 4 * i) (by omega) (by first | omega | (simp; omega))) rfl ?_
      refine WM.val 12 hx (by rfl) rfl (by kernel_rfl) (fun w_ hC_ => Runs.loadR (f := VB) (0 : UInt8) hC_ hrd (n := 4 * i) (by omega) Try.underlying3 rfl rfl) rfl ?_
      refine WM.pure hx (by rfl) rfl (fun w_ => Runs.muln rfl rfl (by omega)) rfl ?_
      refine WM.pure hx (by rfl) rfl (fun w_ => Runs.move rfl) rfl ?_
      refine WM.pure hx (by rfl) rfl (fun w_ => Runs.move rfl) rfl ?_
      refine WM.pure hx (by rfl) rfl (fun w_ => Runs.muln rfl rfl (by omega)) rfl ?_
      refine WM.pure hx (by rfl) rfl (fun w_ => Runs.addn rfl rfl (by omega)) rfl ?_
      refine WM.pure hx (by rfl) rfl (fun w_ => Runs.lidxN Try.underlying22 inf3 rfl rfl (n := 4 * i + 1) (by omega) (by first | omega | (simp; omega))) rfl ?_
      refine WM.val 12 hx (by rfl) rfl (by kernel_rfl) (fun w_ hC_ => Runs.loadR (f := VB) (0 : UInt8) hC_ hrd (n := 4 * i + 1) (by omega) Try.underlying3 rfl rfl) rfl ?_
      refine WM.pure hx (by rfl) rfl (fun w_ => Runs.muln rfl rfl (by omega)) rfl ?_
      refine WM.pure hx (by rfl) rfl (fun w_ => Runs.addn rfl rfl (by omega)) rfl ?_
      refine WM.pure hx (by rfl) rfl (fun w_ => Runs.move rfl) rfl ?_
      refine WM.pure hx (by rfl) rfl (fun w_ => Runs.move rfl) rfl ?_
      refine WM.pure hx (by rfl) rfl (fun w_ => Runs.muln rfl rfl (by omega)) rfl ?_
      refine WM.pure hx (by rfl) rfl (fun w_ => Runs.addn rfl rfl (by omega)) rfl ?_
      refine WM.pure hx (by rfl) rfl (fun w_ => Runs.lidxN Try.underlying22 inf3 rfl rfl (n := 4 * i + 2) (by omega) (by first | omega | (simp; omega))) rfl ?_
      refine WM.val 12 hx (by rfl) rfl (by kernel_rfl) (fun w_ hC_ => Runs.loadR (f := VB) (0 : UInt8) hC_ hrd (n := 4 * i + 2) (by omega) Try.underlying3 rfl rfl) rfl ?_
      refine WM.pure hx (by rfl) rfl (fun w_ => Runs.muln rfl rfl (by omega)) rfl ?_
      refine WM.pure hx (by rfl) rfl (fun w_ => Runs.addn rfl rfl (by omega)) rfl ?_
      refine WM.pure hx (by rfl) rfl (fun w_ => Runs.move rfl) rfl ?_
      refine WM.pure hx (by rfl) rfl (fun w_ => Runs.move rfl) rfl ?_
      refine WM.pure hx (by rfl) rfl (fun w_ => Runs.muln rfl rfl (by omega)) rfl ?_
      refine WM.pure hx (by rfl) rfl (fun w_ => Runs.addn rfl rfl (by omega)) rfl ?_
      refine WM.pure hx (by rfl) rfl (fun w_ => Runs.lidxN Try.underlying22 inf3 rfl rfl (n := 4 * i + 3) (by omega) (by first | omega | (simp; omega))) rfl ?_
      refine WM.val 12 hx (by rfl) rfl (by kernel_rfl) (fun w_ hC_ => Runs.loadR (f := VB) (0 : UInt8) hC_ hrd (n := 4 * i + 3) (by omega) Try.underlying3 rfl rfl) rfl ?_
      refine WM.pure hx (by rfl) rfl (fun w_ => Runs.intT (n := ((ShaM.w0 bs i).toNat : Int)) (Runs.addn rfl rfl (by omega)) (ShaR.by4_sum _ _ _ _)) rfl ?_
      refine WM.toD hx rfl (by decide) (by kernel_rfl) ?_
      intro w3 h3
      refine WD.op (by rfl) rfl (by kernel_rfl) ?_
      refine WL.lit (vs := (([ShaM.w0 bs i] : List Wd)).map VI) h3 rfl Try.underlying22 inf3 rfl rfl rfl rfl rfl ?_
      intro lit44 w4 h4
      refine WL.nil ?_
      refine WD.next ?_
      refine WD.op (by rfl) rfl (by kernel_rfl) ?_
      refine WL.app (ys := ([ShaM.w0 bs i] : List Wd)) 1 h4 rfl rfl rfl rfl Try.underlying22 Try.underlying22 (.inr ⟨_, rfl⟩) inf3 rfl hro (Src.lit h4 0 rfl rfl rfl) rfl rfl (by first | omega | (simp [ShaM.firsts_len, ShaM.grow_len]; done) | (simp [ShaM.firsts_len, ShaM.grow_len]; omega)) (by first | omega | (simp [ShaM.firsts_len, ShaM.grow_len]; done) | (simp [ShaM.firsts_len, ShaM.grow_len]; omega)) ?_
      intro r5 v5 w6 hr5 h6
      simp only [List.set_cons_zero, List.set_cons_succ] at h6
      replace h6 := h6.drop 0
      simp only [List.eraseIdx_cons_zero, List.eraseIdx_cons_succ] at h6
      refine WL.nil ?_
      refine WD.next ?_
      refine WD.pure hx (by rfl) (fun w_ => Runs.assign rfl) rfl ?_
      refine WD.fin rfl (by kernel_rfl) ?_
      refine WN.blk ?_
      refine WN.thn ?_
      refine WC.reg ?_
      refine WL.v (Runs.move rfl) rfl ?_
      refine WL.v (Runs.addn rfl rfl (by omega)) rfl ?_
      refine WL.v (Runs.assign rfl) rfl ?_
      refine WL.nil ?_
      refine WN.again (⟨i + 1, r5, v5⟩ : Nat × Res × Value) (by show 16 - (i + 1) < 16 - i; omega) ⟨rfl, rfl, rfl, trivial⟩ ⟨by show i + 1 ≤ _; omega, ?_, h6⟩
      have := hr5
      rwa [← ShaM.firsts_succ] at this
  · try simp only [decide_eq_true_eq, decide_eq_false_iff_not, Bool.not_eq_true', Bool.not_eq_false', Bool.and_eq_true, Int.not_lt, Int.not_le] at c2
    first
    | (exfalso; omega)
    | skip
      refine WC.exit ?_
      refine WX.thn ?_
      refine WX.cut ?_
      refine WX.hit ?_
      refine WN.thn ?_
      refine WC.seq ?_
      refine WC.seq ?_
      refine WC.reg ?_
      refine WL.v (Runs.assign rfl) rfl ?_
      refine WL.nil ?_
      refine WN.thn ?_
      refine WC.block ?_
      refine WC.loop (σ := Nat × Res × Value) (fun q_ => [(3, q_.2.2), (5, .int .i64 ((16 + q_.1 : Nat) : Int))]) (fun q_ w => q_.1 ≤ 48 ∧ Row 3 VI q_.2.1 q_.2.2 (ShaM.grow q_.1 (ShaM.firsts bs 16)) ∧ St W F (q_.2.1 :: cs) w) (fun q_ => 48 - q_.1) (⟨0, r, _⟩) (by repeat (first | exact trivial | refine ⟨rfl, ?_⟩)) (⟨by omega, by obtain rfl : i = 16 := (by omega); exact hro, hL⟩) ?_
      rintro ⟨j, r, v⟩ w7 ⟨hj, hro, hL⟩
      try dsimp only at hj hro hL
      refine WC.sub (s := [(3, v), (5, .int .i64 ((16 + j : Nat) : Int))]) (by repeat (first | exact trivial | refine ⟨rfl, ?_⟩)) ?_
      obtain ⟨A, cap1, rfl, hcap⟩ := hro.val
      have hXl : (ShaM.grow j (ShaM.firsts bs 16)).length = 16 + j := by rw [ShaM.grow_len, ShaM.firsts_len]
      obtain ⟨ax, rfl⟩ := hro.some (by omega)
      have b0 := ((ShaM.grow j (ShaM.firsts bs 16)).getD j 0).isLt
      have b1 := (ShaM.s0 ((ShaM.grow j (ShaM.firsts bs 16)).getD (j + 1) 0)).isLt
      have b2 := ((ShaM.grow j (ShaM.firsts bs 16)).getD (j + 9) 0).isLt
      have b3 := (ShaM.s1 ((ShaM.grow j (ShaM.firsts bs 16)).getD (j + 14) 0)).isLt
      refine WC.seq ?_
      refine WC.seq ?_
      refine WC.reg ?_
      refine WL.v (Runs.move rfl) rfl ?_
      refine WL.v (Runs.lss rfl rfl) rfl ?_
      refine WL.nil ?_
      refine WN.thn ?_
      refine WC.cond rfl (fun c8 => ?_) (fun c8 => ?_)
      · try simp only [decide_eq_true_eq, decide_eq_false_iff_not, Bool.not_eq_true', Bool.not_eq_false', Bool.and_eq_true, Int.not_lt, Int.not_le] at c8
        first
        | (exfalso; omega)
        | skip
          refine WC.skip ?_
          refine WN.thn ?_
          refine WC.seq ?_
          refine WC.block ?_
          refine WC.seq ?_
          refine WC.reg ?_
          refine WL.v (Runs.move rfl) rfl ?_
          refine WL.v (Runs.move rfl) rfl ?_
          refine WL.v (Runs.subn rfl rfl (by omega)) rfl ?_
          refine WL.v (Runs.lidxN Try.underlying22 inf3 rfl rfl (n := j + 1) (by omega) (by first | omega | (simp; omega))) rfl ?_
          refine WL.v (Runs.loadRow (0 : Wd) hL 0 rfl hro (n := j + 1) (by omega) Try.underlying3 rfl rfl) rfl ?_
          refine WL.v (Runs.assign rfl) rfl ?_
          refine WL.nil ?_
          refine WN.thn ?_
          refine WC.seq ?_
          refine WC.reg ?_
          refine WL.v (Runs.move rfl) rfl ?_
          refine WL.v (Runs.move rfl) rfl ?_
          refine WL.v (Runs.subn rfl rfl (by omega)) rfl ?_
          refine WL.v (Runs.lidxN Try.underlying22 inf3 rfl rfl (n := j + 14) (by omega) (by first | omega | (simp; omega))) rfl ?_
          refine WL.v (Runs.loadRow (0 : Wd) hL 0 rfl hro (n := j + 14) (by omega) Try.underlying3 rfl rfl) rfl ?_
          refine WL.v (Runs.assign rfl) rfl ?_
          refine WL.nil ?_
          refine WN.thn ?_
          refine WC.seq ?_
          refine WC.reg ?_
          refine WL.v (Runs.move rfl) rfl ?_
          refine WL.call can79 rfl rfl (rrot_c _ _ 7 hL (by decide)) ?_
          rintro _ w9 ⟨rfl, h9⟩
          refine ⟨_, rfl, ?_⟩
          refine WL.v (Runs.move rfl) rfl ?_
          refine WL.call can79 rfl rfl (rrot_c _ _ 18 h9 (by decide)) ?_
          rintro _ w10 ⟨rfl, h10⟩
          refine ⟨_, rfl, ?_⟩
          refine WL.v (Runs.xorI rfl rfl) rfl ?_
          refine WL.v (Runs.move rfl) rfl ?_
          refine WL.call can76 rfl rfl (rshrw_c _ _ 3 h10 (by decide)) ?_
          rintro _ w11 ⟨rfl, h11⟩
          refine ⟨_, rfl, ?_⟩
          refine WL.v (Runs.intT (n := ((ShaM.s0 ((ShaM.grow j (ShaM.firsts bs 16)).getD (j + 1) 0)).toNat : Int)) (Runs.xorI rfl rfl) rfl) rfl ?_
          refine WL.v (Runs.assign rfl) rfl ?_
          refine WL.nil ?_
          refine WN.thn ?_
          refine WC.seq ?_
          refine WC.reg ?_
          refine WL.v (Runs.move rfl) rfl ?_
          refine WL.call can79 rfl rfl (rrot_c _ _ 17 h11 (by decide)) ?_
          rintro _ w12 ⟨rfl, h12⟩
          refine ⟨_, rfl, ?_⟩
          refine WL.v (Runs.move rfl) rfl ?_
          refine WL.call can79 rfl rfl (rrot_c _ _ 19 h12 (by decide)) ?_
          rintro _ w13 ⟨rfl, h13⟩
          refine ⟨_, rfl, ?_⟩
          refine WL.v (Runs.xorI rfl rfl) rfl ?_
          refine WL.v (Runs.move rfl) rfl ?_
          refine WL.call can76 rfl rfl (rshrw_c _ _ 10 h13 (by decide)) ?_
          rintro _ w14 ⟨rfl, h14⟩
          refine ⟨_, rfl, ?_⟩
          refine WL.v (Runs.intT (n := ((ShaM.s1 ((ShaM.grow j (ShaM.firsts bs 16)).getD (j + 14) 0)).toNat : Int)) (Runs.xorI rfl rfl) rfl) rfl ?_
          refine WL.v (Runs.assign rfl) rfl ?_
          refine WL.nil ?_
          refine WN.thn ?_
          refine WC.dreg (fun w_ => St W _ _ w_) (fun k => Nat.beq k 17 || Nat.beq k 18) mixed (by kernel_rfl) (h14.drew) (fun hx => ?_)
          refine WM.pure hx (by rfl) rfl (fun w_ => Runs.move rfl) rfl ?_
          refine WM.pure hx (by rfl) rfl (fun w_ => Runs.move rfl) rfl ?_
          refine WM.pure hx (by rfl) rfl (fun w_ => Runs.move rfl) rfl ?_
          refine WM.pure hx (by rfl) rfl (fun w_ => Runs.subn rfl rfl (by omega)) rfl ?_
          refine WM.pure hx (by rfl) rfl (fun w_ => Runs.lidxN Try.underlying22 inf3 rfl rfl (n := j) (by omega) (by first | omega | (simp; omega))) rfl ?_
          refine WM.val 12 hx (by rfl) rfl (by kernel_rfl) (fun w_ hC_ => Runs.loadRow (0 : Wd) hC_ 0 rfl hro (n := j) (by omega) Try.underlying3 rfl rfl) rfl ?_
          refine WM.pure hx (by rfl) rfl (fun w_ => Runs.move rfl) rfl ?_
          refine WM.pure hx (by rfl) rfl (fun w_ => Runs.addn rfl rfl (by omega)) rfl ?_
          refine WM.pure hx (by rfl) rfl (fun w_ => Runs.move rfl) rfl ?_
          refine WM.pure hx (by rfl) rfl (fun w_ => Runs.move rfl) rfl ?_
          refine WM.pure hx (by rfl) rfl (fun w_ => Runs.subn rfl rfl (by omega)) rfl ?_
          refine WM.pure hx (by rfl) rfl (fun w_ => Runs.lidxN Try.underlying22 inf3 rfl rfl (n := j + 9) (by omega) (by first | omega | (simp; omega))) rfl ?_
          refine WM.val 12 hx (by rfl) rfl (by kernel_rfl) (fun w_ hC_ => Runs.loadRow (0 : Wd) hC_ 0 rfl hro (n := j + 9) (by omega) Try.underlying3 rfl rfl) rfl ?_
          refine WM.pure hx (by rfl) rfl (fun w_ => Runs.addn rfl rfl (by omega)) rfl ?_
          refine WM.pure hx (by rfl) rfl (fun w_ => Runs.move rfl) rfl ?_
          refine WM.pure hx (by rfl) rfl (fun w_ => Runs.addn rfl rfl (by omega)) rfl ?_
          refine WM.call 12 hx (by rfl) rfl (by kernel_rfl) can80 rfl rfl (fun w_ hC_ => word_c _ (ShaM.ext (ShaM.grow j (ShaM.firsts bs 16))) _ hC_ (by omega) (by rw [ShaR.ext_at _ _ hXl]; exact ShaR.add4 _ _ _ _)) ?_
          refine WM.toD hx rfl (by decide) (by kernel_rfl) ?_
          intro w15 h15
          refine WD.op (by rfl) rfl (by kernel_rfl) ?_
          refine WL.lit (vs := (([ShaM.ext (ShaM.grow j (ShaM.firsts bs 16))] : List Wd)).map VI) h15 rfl Try.underlying22 inf3 rfl rfl rfl rfl rfl ?_
          intro lit93 w16 h16
          refine WL.nil ?_
          refine WD.next ?_
          refine WD.op (by rfl) rfl (by kernel_rfl) ?_
          refine WL.app (ys := ([ShaM.ext (ShaM.grow j (ShaM.firsts bs 16))] : List Wd)) 1 h16 rfl rfl rfl rfl Try.underlying22 Try.underlying22 (.inr ⟨_, rfl⟩) inf3 rfl hro (Src.lit h16 0 rfl rfl rfl) rfl rfl (by first | omega | (simp [ShaM.firsts_len, ShaM.grow_len]; done) | (simp [ShaM.firsts_len, ShaM.grow_len]; omega)) (by first | omega | (simp [ShaM.firsts_len, ShaM.grow_len]; done) | (simp [ShaM.firsts_len, ShaM.grow_len]; omega)) ?_
          intro r17 v17 w18 hr17 h18
          simp only [List.set_cons_zero, List.set_cons_succ] at h18
          replace h18 := h18.drop 0
          simp only [List.eraseIdx_cons_zero, List.eraseIdx_cons_succ] at h18
          refine WL.nil ?_
          refine WD.next ?_
          refine WD.pure hx (by rfl) (fun w_ => Runs.assign rfl) rfl ?_
          refine WD.fin rfl (by kernel_rfl) ?_
          refine WN.blk ?_
          refine WN.thn ?_
          refine WC.reg ?_
          refine WL.v (Runs.move rfl) rfl ?_
          refine WL.v (Runs.addn rfl rfl (by omega)) rfl ?_
          refine WL.v (Runs.assign rfl) rfl ?_
          refine WL.nil ?_
          exact WN.again (⟨j + 1, r17, v17⟩ : Nat × Res × Value) (by show 48 - (j + 1) < 48 - j; omega) ⟨rfl, rfl, trivial⟩ ⟨by show j + 1 ≤ _; omega, hr17, h18⟩
      · try simp only [decide_eq_true_eq, decide_eq_false_iff_not, Bool.not_eq_true', Bool.not_eq_false', Bool.and_eq_true, Int.not_lt, Int.not_le] at c8
        first
        | (exfalso; omega)
        | skip
          refine WC.exit ?_
          refine WX.thn ?_
          refine WX.cut ?_
          refine WX.hit ?_
          refine WN.thn ?_
          refine WC.seq ?_
          refine WC.reg ?_
          refine WL.v (Runs.move rfl) rfl ?_
          refine WL.v (Runs.assign rfl) rfl ?_
          refine WL.nil ?_
          refine WN.thn ?_
          refine WC.ret ?_
          obtain rfl : j = 48 := by omega
          exact ret1 rfl rfl (Row.gives hro hL)
end Sha
end Go.Proofs.Ytbkfjedecepfoaa
