/- Walks of the reference of chapter 01: a block. -/
import Derived.Test.YtbkfjedecepfoaaMSha9
namespace Go.Proofs.Ytbkfjedecepfoaa
open Go Go.RowKit B
set_option linter.unusedVariables false
set_option linter.unusedSimpArgs false
namespace Sha
open ShaM (rotr Wd D8)

theorem can77 : B.Can Try.prog 77 := ⟨_, Try.func77, by kernel_rfl, rfl⟩   -- roundhouse/roundhouseref01.schedule
theorem can78 : B.Can Try.prog 78 := ⟨_, Try.func78, by kernel_rfl, rfl⟩   -- roundhouse/roundhouseref01.k
set_option maxRecDepth 100000 in
set_option maxHeartbeats 4000000 in
theorem rblock_c {W : World} {F : Snap} {cs : List Res} (w : World) {Ah Ab : Option Addr} {caph capb : Nat} {bs : List UInt8} (d : D8) (h : St W F cs w) (hRh : RdS (Kd.one VI) F Ah d.list) (hRb : RdS (Kd.one VB) F Ab bs) (hl : bs.length = 64) : Calls Try.prog 71 #[.slice Ah d.list.length caph, .slice Ab bs.length capb] w (Gives W F cs VI ((ShaM.block d bs).list))  := by
  refine enter (P := Try.prog) (args := [.slice Ah d.list.length caph, .slice Ab bs.length capb]) Try.func71 rfl rfl rfl ?_
  obtain ⟨ah, rfl, hrh⟩ := rd1 hRh (by rw [list_len]; omega)
  obtain ⟨ab, rfl, hrb⟩ := rd1 hRb (by omega)
  refine WC.seq ?_
  refine WC.reg ?_
  refine WL.v (Runs.assign rfl) rfl ?_
  refine WL.nil ?_
  refine WN.thn ?_
  refine WC.seq ?_
  refine WC.reg ?_
  refine WL.v (Runs.move rfl) rfl ?_
  refine WL.call can77 rfl rfl (rsched_c _ h hrb hl) ?_
  rintro _ w1 ⟨G2, A2, cap2, hle2, rfl, hc2, hrd2, h1⟩
  refine ⟨_, rfl, ?_⟩
  refine WL.v (Runs.assign rfl) rfl ?_
  refine WL.nil ?_
  refine WN.thn ?_
  refine WC.seq ?_
  refine WC.reg ?_
  refine WL.call can78 rfl rfl (rk_c _ h1) ?_
  rintro _ w3 ⟨G4, A4, cap4, hle4, rfl, hc4, hrd4, h3⟩
  refine ⟨_, rfl, ?_⟩
  refine WL.v (Runs.assign rfl) rfl ?_
  refine WL.nil ?_
  refine WN.thn ?_
  refine WC.seq ?_
  refine WC.reg ?_
  have hN4 := h3.nilRes
  refine WL.v (Runs.assign rfl) rfl ?_
  refine WL.nil ?_
  refine WN.thn ?_
  refine WC.seq ?_
  refine WC.reg ?_
  refine WL.v (Runs.move rfl) rfl ?_
  refine WL.v (Runs.move rfl) rfl ?_
  refine WL.app (ys := d.list) 0 hN4 rfl rfl rfl rfl Try.underlying22 Try.underlying22 (.inr ⟨_, rfl⟩) inf3 rfl (Row.nil 3 VI) (Src.rd (hRh.mono (Le.trans hle2 hle4)) hN4 rfl (fun _ => rfl)) rfl rfl (by first | omega | (simp [ShaR.sum8_len, list_len]; done) | (simp [ShaR.sum8_len, list_len]; omega)) (by first | omega | (simp [ShaR.sum8_len, list_len]; done) | (simp [ShaR.sum8_len, list_len]; omega)) ?_
  intro r5 v5 w6 hr5 h6
  simp only [List.set_cons_zero, List.set_cons_succ] at h6
  refine WL.v (Runs.assign rfl) rfl ?_
  refine WL.nil ?_
  refine WN.thn ?_
  refine WC.seq ?_
  refine WC.seq ?_
  refine WC.reg ?_
  obtain ⟨G0, A0, cap0, hle0, e0, hc0, hR0, hS0⟩ := Row.gives (cs := cs) hr5 h6
  injection e0 with e0
  subst e0
  obtain ⟨as_, rfl, hs1⟩ := rd1 hrd2 (by rw [ShaM.sched_len]; omega)
  obtain ⟨ak, rfl, hk1⟩ := rd1 hrd4 (by rw [ShaR.K_len]; omega)
  refine WL.v (Runs.assign rfl) rfl ?_
  refine WL.nil ?_
  refine WN.thn ?_
  refine WC.block ?_
  refine WC.loop (σ := Nat × Snap × Option Addr × Nat) (fun q_ => [(0, .slice (some ah) d.list.length caph), (5, .slice (some as_) (ShaM.sched bs).length cap2), (6, .slice (some ak) ShaM.K.length cap4), (7, .slice q_.2.2.1 (ShaM.rounds (ShaM.sched bs) q_.1 d).list.length q_.2.2.2), (8, .int .i64 (q_.1 : Int))]) (fun q_ w => q_.1 ≤ 64 ∧ Le G4 q_.2.1 ∧ RdS (Kd.one VI) q_.2.1 q_.2.2.1 (ShaM.rounds (ShaM.sched bs) q_.1 d).list ∧ St W q_.2.1 cs w) (fun q_ => 64 - q_.1) (⟨0, G0, A0, cap0⟩) (by repeat (first | exact trivial | refine ⟨rfl, ?_⟩)) (⟨by omega, hle0, hR0, hS0⟩) ?_
  rintro ⟨i, G, A, cap⟩ w7 ⟨hi, hG, hRv, hL⟩
  try dsimp only at hi hG hRv hL
  refine WC.sub (s := [(0, .slice (some ah) d.list.length caph), (5, .slice (some as_) (ShaM.sched bs).length cap2), (6, .slice (some ak) ShaM.K.length cap4), (7, .slice A (ShaM.rounds (ShaM.sched bs) i d).list.length cap), (8, .int .i64 (i : Int))]) (by repeat (first | exact trivial | refine ⟨rfl, ?_⟩)) ?_
  generalize hV : (ShaM.rounds (ShaM.sched bs) i d) = V at *
  obtain ⟨av, rfl, hv⟩ := rd1 hRv (by rw [list_len]; omega)
  have hk2 := fun i x (hx : ShaM.K[i]? = some x) => cellF_le hG (hk1 i x hx)
  have hs2 := fun i x (hx : (ShaM.sched bs)[i]? = some x) => cellF_le (Le.trans hle4 hG) (hs1 i x hx)
  have hFG := Le.trans (Le.trans hle2 hle4) hG
  have hrh2 := fun i x (hx : d.list[i]? = some x) => cellF_le hFG (hrh i x hx)
  have b0 := V.h.isLt; have b1 := (ShaR.S1 V.e).isLt; have b2 := (ShaR.ch V.e V.f V.g).isLt; have b3 := (ShaM.K.getD i 0).isLt; have b4 := ((ShaM.sched bs).getD i 0).isLt; have b5 := (ShaR.S0 V.a).isLt; have b6 := (ShaR.mj V.a V.b V.c).isLt; have b7 := V.d.isLt
  refine WC.seq ?_
  refine WC.seq ?_
  refine WC.reg ?_
  refine WL.v (Runs.move rfl) rfl ?_
  refine WL.v (Runs.lss rfl rfl) rfl ?_
  refine WL.nil ?_
  refine WN.thn ?_
  refine WC.cond rfl (fun c8 => ?_) (fun c8 => ?_)
  · try simp only [decide_eq_true_eq, decide_eq_false_iff_not, Bool.not_eq_true', Bool.not_eq_false', Bool.and_eq_true, Int.not_lt, Int.not_le] at c8
    first
    | (exfalso; omega)
    | skip
      refine WC.skip ?_
      refine WN.thn ?_
      refine WC.seq ?_
      refine WC.block ?_
      refine WC.seq ?_
      refine WC.reg ?_
      refine WL.v (Runs.move rfl) rfl ?_
      refine WL.v (Runs.lidxN Try.underlying22 inf3 rfl rfl (n := 4) (by omega) (by first | omega | (rw [ShaM.sched_len]; omega) | (rw [ShaR.K_len]; omega) | (rw [list_len]; omega))) rfl ?_
      refine WL.v (Runs.intT (n := (V.e.toNat : Int)) (Runs.loadR (f := VI) (0 : Wd) hL hv (n := 4) (by rw [list_len]; omega) Try.underlying3 rfl rfl) rfl) rfl ?_
      refine WL.v (Runs.assign rfl) rfl ?_
      refine WL.nil ?_
      refine WN.thn ?_
      refine WC.seq ?_
      refine WC.reg ?_
      refine WL.v (Runs.move rfl) rfl ?_
      refine WL.v (Runs.lidxN Try.underlying22 inf3 rfl rfl (n := 0) (by omega) (by first | omega | (rw [ShaM.sched_len]; omega) | (rw [ShaR.K_len]; omega) | (rw [list_len]; omega))) rfl ?_
      refine WL.v (Runs.intT (n := (V.a.toNat : Int)) (Runs.loadR (f := VI) (0 : Wd) hL hv (n := 0) (by rw [list_len]; omega) Try.underlying3 rfl rfl) rfl) rfl ?_
      refine WL.v (Runs.assign rfl) rfl ?_
      refine WL.nil ?_
      refine WN.thn ?_
      refine WC.seq ?_
      refine WC.reg ?_
      refine WL.v (Runs.move rfl) rfl ?_
      refine WL.v (Runs.notI rfl) rfl ?_
      refine WL.v (Runs.assign rfl) rfl ?_
      refine WL.nil ?_
      refine WN.thn ?_
      refine WC.seq ?_
      refine WC.qreg (C := fun w_ => St W _ _ w_) mixed (by kernel_rfl) (hL.drew) ?_
      refine WQ.val (fun w_ hC_ => Runs.move rfl) rfl ?_
      refine WQ.val (fun w_ hC_ => Runs.lidxN Try.underlying22 inf3 rfl rfl (n := 7) (by omega) (by first | omega | (rw [ShaM.sched_len]; omega) | (rw [ShaR.K_len]; omega) | (rw [list_len]; omega))) rfl ?_
      refine WQ.val (fun w_ hC_ => Runs.intT (n := (V.h.toNat : Int)) (Runs.loadR (f := VI) (0 : Wd) hC_ hv (n := 7) (by rw [list_len]; omega) Try.underlying3 rfl rfl) rfl) rfl ?_
      refine WQ.val (fun w_ hC_ => Runs.move rfl) rfl ?_
      refine WQ.call can79 rfl rfl (fun w_ hC_ => rrot_c _ _ 6 hC_ (by decide)) ?_
      refine WQ.val (fun w_ hC_ => Runs.move rfl) rfl ?_
      refine WQ.call can79 rfl rfl (fun w_ hC_ => rrot_c _ _ 11 hC_ (by decide)) ?_
      refine WQ.val (fun w_ hC_ => Runs.xorI rfl rfl) rfl ?_
      refine WQ.val (fun w_ hC_ => Runs.move rfl) rfl ?_
      refine WQ.call can79 rfl rfl (fun w_ hC_ => rrot_c _ _ 25 hC_ (by decide)) ?_
      refine WQ.val (fun w_ hC_ => Runs.intT (n := ((ShaR.S1 V.e).toNat : Int)) (Runs.xorI rfl rfl) rfl) rfl ?_
      refine WQ.val (fun w_ hC_ => Runs.addn rfl rfl (by omega)) rfl ?_
      refine WQ.val (fun w_ hC_ => Runs.move rfl) rfl ?_
      refine WQ.val (fun w_ hC_ => Runs.move rfl) rfl ?_
      refine WQ.val (fun w_ hC_ => Runs.lidxN Try.underlying22 inf3 rfl rfl (n := 5) (by omega) (by first | omega | (rw [ShaM.sched_len]; omega) | (rw [ShaR.K_len]; omega) | (rw [list_len]; omega))) rfl ?_
      refine WQ.val (fun w_ hC_ => Runs.intT (n := (V.f.toNat : Int)) (Runs.loadR (f := VI) (0 : Wd) hC_ hv (n := 5) (by rw [list_len]; omega) Try.underlying3 rfl rfl) rfl) rfl ?_
      refine WQ.val (fun w_ hC_ => Runs.andI rfl rfl) rfl ?_
      refine WQ.val (fun w_ hC_ => Runs.move rfl) rfl ?_
      refine WQ.val (fun w_ hC_ => Runs.move rfl) rfl ?_
      refine WQ.val (fun w_ hC_ => Runs.lidxN Try.underlying22 inf3 rfl rfl (n := 6) (by omega) (by first | omega | (rw [ShaM.sched_len]; omega) | (rw [ShaR.K_len]; omega) | (rw [list_len]; omega))) rfl ?_
      refine WQ.val (fun w_ hC_ => Runs.intT (n := (V.g.toNat : Int)) (Runs.loadR (f := VI) (0 : Wd) hC_ hv (n := 6) (by rw [list_len]; omega) Try.underlying3 rfl rfl) rfl) rfl ?_
      refine WQ.val (fun w_ hC_ => Runs.andI rfl rfl) rfl ?_
      refine WQ.val (fun w_ hC_ => Runs.intT (n := ((ShaR.ch V.e V.f V.g).toNat : Int)) (Runs.xorI rfl rfl) rfl) rfl ?_
      refine WQ.val (fun w_ hC_ => Runs.addn rfl rfl (by omega)) rfl ?_
      refine WQ.val (fun w_ hC_ => Runs.move rfl) rfl ?_
      refine WQ.val (fun w_ hC_ => Runs.move rfl) rfl ?_
      refine WQ.val (fun w_ hC_ => Runs.lidxN Try.underlying22 inf3 rfl rfl (n := i) (by omega) (by first | omega | (rw [ShaM.sched_len]; omega) | (rw [ShaR.K_len]; omega) | (rw [list_len]; omega))) rfl ?_
      refine WQ.val (fun w_ hC_ => Runs.loadR (f := VI) (0 : Wd) hC_ hk2 (n := i) (by rw [ShaR.K_len]; omega) Try.underlying3 rfl rfl) rfl ?_
      refine WQ.val (fun w_ hC_ => Runs.addn rfl rfl (by omega)) rfl ?_
      refine WQ.val (fun w_ hC_ => Runs.move rfl) rfl ?_
      refine WQ.val (fun w_ hC_ => Runs.move rfl) rfl ?_
      refine WQ.val (fun w_ hC_ => Runs.lidxN Try.underlying22 inf3 rfl rfl (n := i) (by omega) (by first | omega | (rw [ShaM.sched_len]; omega) | (rw [ShaR.K_len]; omega) | (rw [list_len]; omega))) rfl ?_
      refine WQ.val (fun w_ hC_ => Runs.loadR (f := VI) (0 : Wd) hC_ hs2 (n := i) (by rw [ShaM.sched_len]; omega) Try.underlying3 rfl rfl) rfl ?_
      refine WQ.val (fun w_ hC_ => Runs.addn rfl rfl (by omega)) rfl ?_
      refine WQ.val (fun w_ hC_ => Runs.assign rfl) rfl ?_
      refine WQ.fin ?_
      intro w9 h9
      refine WN.thn ?_
      refine WC.seq ?_
      refine WC.qreg (C := fun w_ => St W _ _ w_) mixed (by kernel_rfl) (h9.drew) ?_
      refine WQ.val (fun w_ hC_ => Runs.move rfl) rfl ?_
      refine WQ.call can79 rfl rfl (fun w_ hC_ => rrot_c _ _ 2 hC_ (by decide)) ?_
      refine WQ.val (fun w_ hC_ => Runs.move rfl) rfl ?_
      refine WQ.call can79 rfl rfl (fun w_ hC_ => rrot_c _ _ 13 hC_ (by decide)) ?_
      refine WQ.val (fun w_ hC_ => Runs.xorI rfl rfl) rfl ?_
      refine WQ.val (fun w_ hC_ => Runs.move rfl) rfl ?_
      refine WQ.call can79 rfl rfl (fun w_ hC_ => rrot_c _ _ 22 hC_ (by decide)) ?_
      refine WQ.val (fun w_ hC_ => Runs.intT (n := ((ShaR.S0 V.a).toNat : Int)) (Runs.xorI rfl rfl) rfl) rfl ?_
      refine WQ.val (fun w_ hC_ => Runs.move rfl) rfl ?_
      refine WQ.val (fun w_ hC_ => Runs.move rfl) rfl ?_
      refine WQ.val (fun w_ hC_ => Runs.lidxN Try.underlying22 inf3 rfl rfl (n := 1) (by omega) (by first | omega | (rw [ShaM.sched_len]; omega) | (rw [ShaR.K_len]; omega) | (rw [list_len]; omega))) rfl ?_
      refine WQ.val (fun w_ hC_ => Runs.intT (n := (V.b.toNat : Int)) (Runs.loadR (f := VI) (0 : Wd) hC_ hv (n := 1) (by rw [list_len]; omega) Try.underlying3 rfl rfl) rfl) rfl ?_
      refine WQ.val (fun w_ hC_ => Runs.andI rfl rfl) rfl ?_
      refine WQ.val (fun w_ hC_ => Runs.move rfl) rfl ?_
      refine WQ.val (fun w_ hC_ => Runs.move rfl) rfl ?_
      refine WQ.val (fun w_ hC_ => Runs.lidxN Try.underlying22 inf3 rfl rfl (n := 2) (by omega) (by first | omega | (rw [ShaM.sched_len]; omega) | (rw [ShaR.K_len]; omega) | (rw [list_len]; omega))) rfl ?_
      refine WQ.val (fun w_ hC_ => Runs.intT (n := (V.c.toNat : Int)) (Runs.loadR (f := VI) (0 : Wd) hC_ hv (n := 2) (by rw [list_len]; omega) Try.underlying3 rfl rfl) rfl) rfl ?_
      refine WQ.val (fun w_ hC_ => Runs.andI rfl rfl) rfl ?_
      refine WQ.val (fun w_ hC_ => Runs.xorI rfl rfl) rfl ?_
      refine WQ.val (fun w_ hC_ => Runs.move rfl) rfl ?_
      refine WQ.val (fun w_ hC_ => Runs.lidxN Try.underlying22 inf3 rfl rfl (n := 1) (by omega) (by first | omega | (rw [ShaM.sched_len]; omega) | (rw [ShaR.K_len]; omega) | (rw [list_len]; omega))) rfl ?_
      refine WQ.val (fun w_ hC_ => Runs.intT (n := (V.b.toNat : Int)) (Runs.loadR (f := VI) (0 : Wd) hC_ hv (n := 1) (by rw [list_len]; omega) Try.underlying3 rfl rfl) rfl) rfl ?_
      refine WQ.val (fun w_ hC_ => Runs.move rfl) rfl ?_
      refine WQ.val (fun w_ hC_ => Runs.lidxN Try.underlying22 inf3 rfl rfl (n := 2) (by omega) (by first | omega | (rw [ShaM.sched_len]; omega) | (rw [ShaR.K_len]; omega) | (rw [list_len]; omega))) rfl ?_
      refine WQ.val (fun w_ hC_ => Runs.intT (n := (V.c.toNat : Int)) (Runs.loadR (f := VI) (0 : Wd) hC_ hv (n := 2) (by rw [list_len]; omega) Try.underlying3 rfl rfl) rfl) rfl ?_
      refine WQ.val (fun w_ hC_ => Runs.andI rfl rfl) rfl ?_
      refine WQ.val (fun w_ hC_ => Runs.intT (n := ((ShaR.mj V.a V.b V.c).toNat : Int)) (Runs.xorI rfl rfl) rfl) rfl ?_
      refine WQ.val (fun w_ hC_ => Runs.addn rfl rfl (by omega)) rfl ?_
      refine WQ.val (fun w_ hC_ => Runs.assign rfl) rfl ?_
      refine WQ.fin ?_
      intro w10 h10
      refine WN.thn ?_
      refine WC.dreg (fun w_ => St W _ _ w_) (fun k => Nat.beq k 28) mixed (by kernel_rfl) (h10.drew) (fun hx => ?_)
      refine WM.pure hx (by rfl) rfl (fun w_ => Runs.move rfl) rfl ?_
      refine WM.pure hx (by rfl) rfl (fun w_ => Runs.move rfl) rfl ?_
      refine WM.pure hx (by rfl) rfl (fun w_ => Runs.addn rfl rfl (by omega)) rfl ?_
      refine WM.call 14 hx (by rfl) rfl (by kernel_rfl) can80 rfl rfl (fun w_ hC_ => word_c _ (ShaM.tt (ShaM.K.getD i 0) ((ShaM.sched bs).getD i 0) V + ShaM.uu V) _ hC_ (by omega) (ShaR.word_a (ShaM.K.getD i 0) ((ShaM.sched bs).getD i 0) V)) ?_
      refine WM.pure hx (by rfl) rfl (fun w_ => Runs.move rfl) rfl ?_
      refine WM.pure hx (by rfl) rfl (fun w_ => Runs.lidxN Try.underlying22 inf3 rfl rfl (n := 0) (by omega) (by first | omega | (rw [ShaM.sched_len]; omega) | (rw [ShaR.K_len]; omega) | (rw [list_len]; omega))) rfl ?_
      refine WM.val 14 hx (by rfl) rfl (by kernel_rfl) (fun w_ hC_ => Runs.intT (n := (V.a.toNat : Int)) (Runs.loadR (f := VI) (0 : Wd) hC_ hv (n := 0) (by rw [list_len]; omega) Try.underlying3 rfl rfl) rfl) rfl ?_
      refine WM.pure hx (by rfl) rfl (fun w_ => Runs.move rfl) rfl ?_
      refine WM.pure hx (by rfl) rfl (fun w_ => Runs.lidxN Try.underlying22 inf3 rfl rfl (n := 1) (by omega) (by first | omega | (rw [ShaM.sched_len]; omega) | (rw [ShaR.K_len]; omega) | (rw [list_len]; omega))) rfl ?_
      refine WM.val 14 hx (by rfl) rfl (by kernel_rfl) (fun w_ hC_ => Runs.intT (n := (V.b.toNat : Int)) (Runs.loadR (f := VI) (0 : Wd) hC_ hv (n := 1) (by rw [list_len]; omega) Try.underlying3 rfl rfl) rfl) rfl ?_
      refine WM.pure hx (by rfl) rfl (fun w_ => Runs.move rfl) rfl ?_
      refine WM.pure hx (by rfl) rfl (fun w_ => Runs.lidxN Try.underlying22 inf3 rfl rfl (n := 2) (by omega) (by first | omega | (rw [ShaM.sched_len]; omega) | (rw [ShaR.K_len]; omega) | (rw [list_len]; omega))) rfl ?_
      refine WM.val 14 hx (by rfl) rfl (by kernel_rfl) (fun w_ hC_ => Runs.intT (n := (V.c.toNat : Int)) (Runs.loadR (f := VI) (0 : Wd) hC_ hv (n := 2) (by rw [list_len]; omega) Try.underlying3 rfl rfl) rfl) rfl ?_
      refine WM.pure hx (by rfl) rfl (fun w_ => Runs.move rfl) rfl ?_
      refine WM.pure hx (by rfl) rfl (fun w_ => Runs.lidxN Try.underlying22 inf3 rfl rfl (n := 3) (by omega) (by first | omega | (rw [ShaM.sched_len]; omega) | (rw [ShaR.K_len]; omega) | (rw [list_len]; omega))) rfl ?_
      refine WM.val 14 hx (by rfl) rfl (by kernel_rfl) (fun w_ hC_ => Runs.intT (n := (V.d.toNat : Int)) (Runs.loadR (f := VI) (0 : Wd) hC_ hv (n := 3) (by rw [list_len]; omega) Try.underlying3 rfl rfl) rfl) rfl ?_
      refine WM.pure hx (by rfl) rfl (fun w_ => Runs.move rfl) rfl ?_
      refine WM.pure hx (by rfl) rfl (fun w_ => Runs.addn rfl rfl (by omega)) rfl ?_
      refine WM.call 14 hx (by rfl) rfl (by kernel_rfl) can80 rfl rfl (fun w_ hC_ => word_c _ (V.d + ShaM.tt (ShaM.K.getD i 0) ((ShaM.sched bs).getD i 0) V) _ hC_ (by omega) (ShaR.word_d (ShaM.K.getD i 0) ((ShaM.sched bs).getD i 0) V)) ?_
      refine WM.pure hx (by rfl) rfl (fun w_ => Runs.move rfl) rfl ?_
      refine WM.pure hx (by rfl) rfl (fun w_ => Runs.lidxN Try.underlying22 inf3 rfl rfl (n := 4) (by omega) (by first | omega | (rw [ShaM.sched_len]; omega) | (rw [ShaR.K_len]; omega) | (rw [list_len]; omega))) rfl ?_
      refine WM.val 14 hx (by rfl) rfl (by kernel_rfl) (fun w_ hC_ => Runs.intT (n := (V.e.toNat : Int)) (Runs.loadR (f := VI) (0 : Wd) hC_ hv (n := 4) (by rw [list_len]; omega) Try.underlying3 rfl rfl) rfl) rfl ?_
      refine WM.pure hx (by rfl) rfl (fun w_ => Runs.move rfl) rfl ?_
      refine WM.pure hx (by rfl) rfl (fun w_ => Runs.lidxN Try.underlying22 inf3 rfl rfl (n := 5) (by omega) (by first | omega | (rw [ShaM.sched_len]; omega) | (rw [ShaR.K_len]; omega) | (rw [list_len]; omega))) rfl ?_
      refine WM.val 14 hx (by rfl) rfl (by kernel_rfl) (fun w_ hC_ => Runs.intT (n := (V.f.toNat : Int)) (Runs.loadR (f := VI) (0 : Wd) hC_ hv (n := 5) (by rw [list_len]; omega) Try.underlying3 rfl rfl) rfl) rfl ?_
      refine WM.pure hx (by rfl) rfl (fun w_ => Runs.move rfl) rfl ?_
      refine WM.pure hx (by rfl) rfl (fun w_ => Runs.lidxN Try.underlying22 inf3 rfl rfl (n := 6) (by omega) (by first | omega | (rw [ShaM.sched_len]; omega) | (rw [ShaR.K_len]; omega) | (rw [list_len]; omega))) rfl ?_
      refine WM.val 14 hx (by rfl) rfl (by kernel_rfl) (fun w_ hC_ => Runs.intT (n := (V.g.toNat : Int)) (Runs.loadR (f := VI) (0 : Wd) hC_ hv (n := 6) (by rw [list_len]; omega) Try.underlying3 rfl rfl) rfl) rfl ?_
      refine WM.toD hx rfl (by decide) (by kernel_rfl) ?_
      intro w11 h11
      refine WD.op (by rfl) rfl (by kernel_rfl) ?_
      refine WL.lit (vs := ((ShaM.rnd (ShaM.K.getD i 0) ((ShaM.sched bs).getD i 0) V).list).map VI) h11 rfl Try.underlying22 inf3 rfl rfl rfl rfl rfl ?_
      intro lit124 w12 h12
      refine WL.nil ?_
      refine WD.next ?_
      refine WD.pure hx (by rfl) (fun w_ => Runs.assign rfl) rfl ?_
      refine WD.fin rfl (by kernel_rfl) ?_
      refine WN.blk ?_
      refine WN.thn ?_
      refine WC.reg ?_
      refine WL.v (Runs.move rfl) rfl ?_
      refine WL.v (Runs.addn rfl rfl (by omega)) rfl ?_
      refine WL.v (Runs.assign rfl) rfl ?_
      refine WL.nil ?_
      obtain ⟨G2, g1, g2, g3⟩ := St.litRd (f := VI) (xs := (ShaM.rnd (ShaM.K.getD i 0) ((ShaM.sched bs).getD i 0) V).list) h12
      refine WN.again (⟨i + 1, G2, _, _⟩ : Nat × Snap × Option Addr × Nat) (by show 64 - (i + 1) < 64 - i; omega) ⟨rfl, rfl, rfl, rfl, rfl, trivial⟩ ⟨by show i + 1 ≤ _; omega, Le.trans hG g1, ?_, g3⟩
      show RdS _ _ _ (ShaM.rnd (ShaM.K.getD i 0) ((ShaM.sched bs).getD i 0) (ShaM.rounds (ShaM.sched bs) i d)).list
      rw [hV]
      exact g2
  · try simp only [decide_eq_true_eq, decide_eq_false_iff_not, Bool.not_eq_true', Bool.not_eq_false', Bool.and_eq_true, Int.not_lt, Int.not_le] at c8
    first
    | (exfalso; omega)
    | skip
      refine WC.exit ?_
      refine WX.thn ?_
      refine WX.cut ?_
      refine WX.hit ?_
      refine WN.thn ?_
      refine WC.seq ?_
      refine WC.reg ?_
      have hN12 := hL.nilRes
      refine WL.v (Runs.assign rfl) rfl ?_
      refine WL.nil ?_
      refine WN.thn ?_
      refine WC.seq ?_
      refine WC.seq ?_
      refine WC.reg ?_
      refine WL.v (Runs.assign rfl) rfl ?_
      refine WL.nil ?_
      refine WN.thn ?_
      refine WC.block ?_
      refine WC.loop (σ := Nat × Res × Value) (fun q_ => [(0, .slice (some ah) d.list.length caph), (7, .slice (some av) V.list.length cap), (14, q_.2.2), (15, .int .i64 (q_.1 : Int))]) (fun q_ w => q_.1 ≤ 8 ∧ Row 3 VI q_.2.1 q_.2.2 ((ShaR.sum8 d V).take q_.1) ∧ St W G (q_.2.1 :: cs) w) (fun q_ => 8 - q_.1) (⟨0, [], .slice none 0 0⟩) (by repeat (first | exact trivial | refine ⟨rfl, ?_⟩)) (⟨by omega, Row.nil _ _, hN12⟩) ?_
      rintro ⟨j, r, v⟩ w13 ⟨hj, hro, hL⟩
      try dsimp only at hj hro hL
      refine WC.sub (s := [(0, .slice (some ah) d.list.length caph), (7, .slice (some av) V.list.length cap), (14, v), (15, .int .i64 (j : Int))]) (by repeat (first | exact trivial | refine ⟨rfl, ?_⟩)) ?_
      obtain ⟨A1, cap1, rfl, hcap⟩ := hro.val
      have hlen : ((ShaR.sum8 d V).take j).length = j := by rw [List.length_take, ShaR.sum8_len]; omega
      have b8 := (d.list.getD j 0).isLt
      have b9 := (V.list.getD j 0).isLt
      refine WC.seq ?_
      refine WC.seq ?_
      refine WC.reg ?_
      refine WL.v (Runs.move rfl) rfl ?_
      refine WL.v (Runs.lss rfl rfl) rfl ?_
      refine WL.nil ?_
      refine WN.thn ?_
      refine WC.cond rfl (fun c14 => ?_) (fun c14 => ?_)
      · try simp only [decide_eq_true_eq, decide_eq_false_iff_not, Bool.not_eq_true', Bool.not_eq_false', Bool.and_eq_true, Int.not_lt, Int.not_le] at c14
        first
        | (exfalso; omega)
        | skip
          refine WC.skip ?_
          refine WN.thn ?_
          refine WC.seq ?_
          refine WC.block ?_
          refine WC.dreg (fun w_ => St W _ _ w_) (fun k => Nat.beq k 11 || Nat.beq k 12) mixed (by kernel_rfl) (hL.drew) (fun hx => ?_)
          refine WM.pure hx (by rfl) rfl (fun w_ => Runs.move rfl) rfl ?_
          refine WM.pure hx (by rfl) rfl (fun w_ => Runs.move rfl) rfl ?_
          refine WM.pure hx (by rfl) rfl (fun w_ => Runs.move rfl) rfl ?_
          refine WM.pure hx (by rfl) rfl (fun w_ => Runs.lidxN Try.underlying22 inf3 rfl rfl (n := j) (by omega) (by first | omega | (rw [ShaM.sched_len]; omega) | (rw [ShaR.K_len]; omega) | (rw [list_len]; omega))) rfl ?_
          refine WM.val 14 hx (by rfl) rfl (by kernel_rfl) (fun w_ hC_ => Runs.loadR (f := VI) (0 : Wd) hC_ hrh2 (n := j) (by rw [list_len]; omega) Try.underlying3 rfl rfl) rfl ?_
          refine WM.pure hx (by rfl) rfl (fun w_ => Runs.move rfl) rfl ?_
          refine WM.pure hx (by rfl) rfl (fun w_ => Runs.move rfl) rfl ?_
          refine WM.pure hx (by rfl) rfl (fun w_ => Runs.lidxN Try.underlying22 inf3 rfl rfl (n := j) (by omega) (by first | omega | (rw [ShaM.sched_len]; omega) | (rw [ShaR.K_len]; omega) | (rw [list_len]; omega))) rfl ?_
          refine WM.val 14 hx (by rfl) rfl (by kernel_rfl) (fun w_ hC_ => Runs.loadR (f := VI) (0 : Wd) hC_ hv (n := j) (by rw [list_len]; omega) Try.underlying3 rfl rfl) rfl ?_
          refine WM.pure hx (by rfl) rfl (fun w_ => Runs.addn rfl rfl (by omega)) rfl ?_
          refine WM.call 14 hx (by rfl) rfl (by kernel_rfl) can80 rfl rfl (fun w_ hC_ => word_c _ (d.list.getD j 0 + V.list.getD j 0) _ hC_ (by omega) (ShaR.add2 _ _)) ?_
          refine WM.toD hx rfl (by decide) (by kernel_rfl) ?_
          intro w15 h15
          refine WD.op (by rfl) rfl (by kernel_rfl) ?_
          refine WL.lit (vs := (([d.list.getD j 0 + V.list.getD j 0] : List Wd)).map VI) h15 rfl Try.underlying22 inf3 rfl rfl rfl rfl rfl ?_
          intro lit140 w16 h16
          refine WL.nil ?_
          refine WD.next ?_
          refine WD.op (by rfl) rfl (by kernel_rfl) ?_
          refine WL.app (ys := ([d.list.getD j 0 + V.list.getD j 0] : List Wd)) 1 h16 rfl rfl rfl rfl Try.underlying22 Try.underlying22 (.inr ⟨_, rfl⟩) inf3 rfl hro (Src.lit h16 0 rfl rfl rfl) rfl rfl (by first | omega | (simp [ShaR.sum8_len, list_len]; done) | (simp [ShaR.sum8_len, list_len]; omega)) (by first | omega | (simp [ShaR.sum8_len, list_len]; done) | (simp [ShaR.sum8_len, list_len]; omega)) ?_
          intro r17 v17 w18 hr17 h18
          simp only [List.set_cons_zero, List.set_cons_succ] at h18
          replace h18 := h18.drop 0
          simp only [List.eraseIdx_cons_zero, List.eraseIdx_cons_succ] at h18
          refine WL.nil ?_
          refine WD.next ?_
          refine WD.pure hx (by rfl) (fun w_ => Runs.assign rfl) rfl ?_
          refine WD.fin rfl (by kernel_rfl) ?_
          refine WN.blk ?_
          refine WN.thn ?_
          refine WC.reg ?_
          refine WL.v (Runs.move rfl) rfl ?_
          refine WL.v (Runs.addn rfl rfl (by omega)) rfl ?_
          refine WL.v (Runs.assign rfl) rfl ?_
          refine WL.nil ?_
          refine WN.again (⟨j + 1, r17, v17⟩ : Nat × Res × Value) (by show 8 - (j + 1) < 8 - j; omega) ⟨rfl, rfl, rfl, rfl, trivial⟩ ⟨by show j + 1 ≤ _; omega, ?_, h18⟩
          have := hr17
          rwa [← ShaR.sum8_at d V (by omega), take_next _ (by rw [ShaR.sum8_len]; omega)] at this
      · try simp only [decide_eq_true_eq, decide_eq_false_iff_not, Bool.not_eq_true', Bool.not_eq_false', Bool.and_eq_true, Int.not_lt, Int.not_le] at c14
        first
        | (exfalso; omega)
        | skip
          refine WC.exit ?_
          refine WX.thn ?_
          refine WX.cut ?_
          refine WX.hit ?_
          refine WN.thn ?_
          refine WC.seq ?_
          refine WC.reg ?_
          refine WL.v (Runs.move rfl) rfl ?_
          refine WL.v (Runs.assign rfl) rfl ?_
          refine WL.nil ?_
          refine WN.thn ?_
          refine WC.ret ?_
          obtain rfl : i = 64 := by omega
          obtain rfl : j = 8 := by omega
          subst hV
          rw [List.take_of_length_le (by rw [ShaR.sum8_len]; omega), ← ShaR.block_list] at hro
          obtain ⟨G3, A3, c3, g1, g2, g3, g4, g5⟩ := Row.gives hro hL
          exact ret1 rfl rfl ⟨G3, A3, c3, Le.trans hFG g1, g2, g3, g4, g5⟩
end Sha
end Go.Proofs.Ytbkfjedecepfoaa
