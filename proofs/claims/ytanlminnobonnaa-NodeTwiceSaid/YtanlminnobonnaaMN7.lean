/- The laws of chapter 16: states handed over; what is little. -/
import Derived.Test.YtanlminnobonnaaProg
import Derived.KernelRfl
import Derived.Test.YtanlminnobonnaaMBaseAH
import Derived.Test.YtanlminnobonnaaMN6
namespace Go.Proofs.Ytanlminnobonnaa
open Go Go.RowKit B
set_option linter.unusedVariables false
set_option linter.unusedSimpArgs false
namespace Rc

theorem fld33_1 : fldB Try.prog 33 1 1 = true := by kernel_rfl
theorem fld33_3 : fldB Try.prog 33 3 12 = true := by kernel_rfl
theorem fld39_0 : fldB Try.prog 39 0 0 = true := by kernel_rfl
theorem fld39_6 : fldB Try.prog 39 6 18 = true := by kernel_rfl
theorem can25 : B.Can Try.prog 25 := ⟨_, Try.func25, by kernel_rfl, rfl⟩   -- roundhouse/roundhouseref15.Small
def smallZ (z : Z) : Prop := (∀ i, i < z.ss.length → (z.ss.getD i S0).ps.length ≤ 40) ∧ z.js.length ≤ 40 ∧ z.ss.length ≤ 40
instance (z : Z) : Decidable (smallZ z) := inferInstanceAs (Decidable (_ ∧ _))
theorem smallZ.few {z : Z} (h : smallZ z) : few z := ⟨by have := h.2.1; omega, by have := h.2.2; omega, fun x hx => by
  obtain ⟨i, hi, rfl⟩ := List.getElem_of_mem hx
  have := h.1 i hi
  rw [List.getD_eq_getElem?_getD, List.getElem?_eq_getElem hi] at this
  exact Nat.le_trans this (by decide)⟩
theorem take_at {α : Type} {xs : List α} {i : Nat} (d : α) (h : i < xs.length) : xs.take i ++ [xs.getD i d] = xs.take (i + 1) := by
  rw [List.take_add_one, List.getD_eq_getElem?_getD, List.getElem?_eq_getElem h]; rfl
theorem take_ln {α : Type} {xs : List α} {i : Nat} (h : i ≤ xs.length) : (xs.take i).length = i := by rw [List.length_take]; omega
set_option maxRecDepth 100000 in
set_option maxHeartbeats 4000000 in
theorem qsmall_c {W : World} {F : Snap} {cs : List Res} (w : World) {AJ AS : Option Addr} {cj cS : Nat} {z : Z} (h : St W F cs w) (hR : RdS KS F AS z.ss) (hn : z.ss.length ≤ 9223372036854775807) : Calls Try.prog 25 #[.agg #[.slice AJ z.js.length cj, .slice AS z.ss.length cS, .bool z.dr]] w fun e w' => e = .returned (.bool (decide (smallZ z))) ∧ St W F cs w'  := by
  refine enter (P := Try.prog) (args := [.agg #[.slice AJ z.js.length cj, .slice AS z.ss.length cS, .bool z.dr]]) Try.func25 rfl rfl rfl ?_
  refine WC.seq (WC.reg ?_)
  refine WL.box rfl h rfl ?_
  intro b1 w1 h1
  refine WL.v (Runs.assign rfl) rfl ?_
  refine WL.nil (WN.thn (WC.seq (WC.seq (WC.reg ?_))))
  refine WL.v (Runs.assign rfl) rfl ?_
  refine WL.nil (WN.thn (WC.block ?_))
  refine WC.loop (σ := Nat) (fun q_ => [(1, .pointer (some ⟨b1, 0, none⟩)), (3, .int .i64 (q_ : Int))]) (fun q_ w => q_ ≤ z.ss.length ∧ (∀ j, j < q_ → (z.ss.getD j S0).ps.length ≤ 40) ∧ St W F ([(b1, .cells #[.slice AJ z.js.length cj, .slice AS z.ss.length cS, .bool z.dr] 25 (0, 0))] :: cs) w) (fun q_ => z.ss.length - q_) (0) (by repeat (first | exact trivial | refine ⟨rfl, ?_⟩)) (⟨Nat.zero_le _, fun j hj => absurd hj (Nat.not_lt_zero _), h1⟩) ?_
  rintro i w2 ⟨hi, hall, hL⟩
  try dsimp only at hi hall hL
  refine WC.sub (s := [(1, .pointer (some ⟨b1, 0, none⟩)), (3, .int .i64 (i : Int))]) (by repeat (first | exact trivial | refine ⟨rfl, ?_⟩)) ?_
  refine WC.seq (WC.seq (WC.reg ?_))
  refine WL.v (Runs.move rfl) rfl ?_
  refine WL.v (Runs.fld fld25_1 rfl) rfl ?_
  refine WL.v (Runs.load1 Try.underlying23 rfl rfl (hL.ocell (i := 0) rfl rfl)) rfl ?_
  refine WL.v (Runs.llen Try.underlying23 rfl rfl) rfl ?_
  refine WL.v (Runs.lss rfl rfl) rfl ?_
  refine WL.nil (WN.thn ?_)
  refine WC.cond rfl (fun c3 => ?_) (fun c3 => ?_)
  · try simp only [dt, df, nt, nf, ba, il, ie] at c3
    first
    | (exfalso; omega)
    | skip
      refine WC.skip (WN.thn (WC.seq (WC.block (WC.seq ?_))))
      have hi2 : i < z.ss.length := by omega
      obtain ⟨ad, c, rfl, hc, hcell⟩ := hR.atD S0 hi2
      obtain ⟨A1, cap1, rfl, hps⟩ := hc
      
      refine WC.reg ?_
      refine WL.v (Runs.fld fld25_1 rfl) rfl ?_
      refine WL.v (Runs.load1 Try.underlying23 rfl rfl (hL.ocell (i := 0) rfl rfl)) rfl ?_
      refine WL.v (Runs.move rfl) rfl ?_
      refine WL.v (Runs.lidxK Try.underlying23 inf79 rfl rfl (n := i) rfl hi2) rfl ?_
      refine WL.v (Runs.fld fld79_5 rfl) rfl ?_
      refine WL.v (Runs.fldKF (n := i) hL hcell Try.underlying29 rfl rfl rfl) rfl ?_
      refine WL.v (Runs.llen Try.underlying29 rfl rfl) rfl ?_
      refine WL.v (Runs.gtr rfl rfl) rfl ?_
      refine WL.nil (WN.thn ?_)
      refine WC.cond rfl (fun c4 => ?_) (fun c4 => ?_)
      · try simp only [dt, df, nt, nf, ba, il, ie] at c4
        first
        | (exfalso; omega)
        | skip
          refine WC.seq (WC.reg ?_)
          refine WL.v (Runs.assign rfl) rfl ?_
          refine WL.nil (WN.thn (WC.ret ?_))
          exact ret1 rfl rfl ⟨by rw [decide_eq_false (fun hh : smallZ z => by have := hh.1 i hi2; omega)] <;> rfl, hL.drop 0⟩
      · try simp only [dt, df, nt, nf, ba, il, ie] at c4
        first
        | (exfalso; omega)
        | skip
          refine WC.skip (WN.blk (WN.thn (WC.reg ?_)))
          refine WL.v (Runs.move rfl) rfl ?_
          refine WL.v (Runs.addn rfl rfl (by omega)) rfl ?_
          refine WL.v (Runs.assign rfl) rfl ?_
          refine WL.nil ?_
          exact WN.again (i + 1) (by omega) ⟨rfl, rfl, trivial⟩ ⟨by omega, fun j hj => (by
            by_cases e : j = i
            · subst e; omega
            · exact hall j (by omega)), hL⟩
  · try simp only [dt, df, nt, nf, ba, il, ie] at c3
    first
    | (exfalso; omega)
    | skip
      refine WC.exit (WX.thn (WX.cut (WX.hit (WN.thn (WC.seq ?_)))))
      rcases two (z.js.length ≤ 40) (z.ss.length ≤ 40) with q0 | ⟨q0, q1⟩ | ⟨q0, q1⟩
      · skip
        refine WC.reg ?_
        refine WL.v (Runs.fld fld25_0 rfl) rfl ?_
        refine WL.v (Runs.load1 Try.underlying22 rfl rfl (hL.ocell (i := 0) rfl rfl)) rfl ?_
        refine WL.v (Runs.llen Try.underlying22 rfl rfl) rfl ?_
        refine WL.v (Runs.boolT (c := false) (Runs.leq rfl rfl) (by rw [decide_eq_false_iff_not]; omega)) rfl ?_
        refine WL.v (Runs.move rfl) rfl ?_
        refine WL.goff rfl rfl rfl rfl ?_
        refine WL.goff rfl rfl rfl rfl ?_
        refine WL.goff rfl rfl rfl rfl ?_
        refine WL.goff rfl rfl rfl rfl ?_
        refine WL.v (Runs.pick rfl rfl rfl) rfl ?_
        refine WL.v (Runs.assign rfl) rfl ?_
        refine WL.nil (WN.thn (WC.ret ?_))
        exact ret1 rfl rfl ⟨by rw [decide_eq_false (fun hh : smallZ z => q0 hh.2.1)] <;> rfl, hL.drop 0⟩
      · skip
        refine WC.reg ?_
        refine WL.v (Runs.fld fld25_0 rfl) rfl ?_
        refine WL.v (Runs.load1 Try.underlying22 rfl rfl (hL.ocell (i := 0) rfl rfl)) rfl ?_
        refine WL.v (Runs.llen Try.underlying22 rfl rfl) rfl ?_
        refine WL.v (Runs.boolT (c := true) (Runs.leq rfl rfl) (by rw [decide_eq_true_eq]; omega)) rfl ?_
        refine WL.v (Runs.move rfl) rfl ?_
        refine WL.gon rfl rfl rfl ?_
        refine WL.v (Runs.fld fld25_1 rfl) rfl ?_
        refine WL.gon rfl rfl rfl ?_
        refine WL.v (Runs.load1 Try.underlying23 rfl rfl (hL.ocell (i := 0) rfl rfl)) rfl ?_
        refine WL.gon rfl rfl rfl ?_
        refine WL.v (Runs.llen Try.underlying23 rfl rfl) rfl ?_
        refine WL.gon rfl rfl rfl ?_
        refine WL.v (Runs.boolT (c := false) (Runs.leq rfl rfl) (by rw [decide_eq_false_iff_not]; omega)) rfl ?_
        refine WL.v (Runs.pick rfl rfl rfl) rfl ?_
        refine WL.v (Runs.assign rfl) rfl ?_
        refine WL.nil (WN.thn (WC.ret ?_))
        exact ret1 rfl rfl ⟨by rw [decide_eq_false (fun hh : smallZ z => q1 hh.2.2)] <;> rfl, hL.drop 0⟩
      · skip
        refine WC.reg ?_
        refine WL.v (Runs.fld fld25_0 rfl) rfl ?_
        refine WL.v (Runs.load1 Try.underlying22 rfl rfl (hL.ocell (i := 0) rfl rfl)) rfl ?_
        refine WL.v (Runs.llen Try.underlying22 rfl rfl) rfl ?_
        refine WL.v (Runs.boolT (c := true) (Runs.leq rfl rfl) (by rw [decide_eq_true_eq]; omega)) rfl ?_
        refine WL.v (Runs.move rfl) rfl ?_
        refine WL.gon rfl rfl rfl ?_
        refine WL.v (Runs.fld fld25_1 rfl) rfl ?_
        refine WL.gon rfl rfl rfl ?_
        refine WL.v (Runs.load1 Try.underlying23 rfl rfl (hL.ocell (i := 0) rfl rfl)) rfl ?_
        refine WL.gon rfl rfl rfl ?_
        refine WL.v (Runs.llen Try.underlying23 rfl rfl) rfl ?_
        refine WL.gon rfl rfl rfl ?_
        refine WL.v (Runs.boolT (c := true) (Runs.leq rfl rfl) (by rw [decide_eq_true_eq]; omega)) rfl ?_
        refine WL.v (Runs.pick rfl rfl rfl) rfl ?_
        refine WL.v (Runs.assign rfl) rfl ?_
        refine WL.nil (WN.thn (WC.ret ?_))
        exact ret1 rfl rfl ⟨by rw [decide_eq_true (show smallZ z from ⟨fun j hj => hall j (by omega), q0, q1⟩)] <;> rfl, hL.drop 0⟩
set_option maxRecDepth 100000 in
set_option maxHeartbeats 8000000 in
theorem own_c {W : World} {F : Snap} {cs : List Res} (w : World) {AJ AS : Option Addr} {cj cS : Nat} {z : Z} (hz : few z) (hR : ZR F AJ AS z) (h : St W F cs w) : Calls Try.prog 12 #[.agg #[.slice AJ z.js.length cj, .slice AS z.ss.length cS, .bool z.dr]] w fun e w' => ∃ G AJ AS cj cS, Le F G ∧ e = .returned (.agg #[.slice AJ z.js.length cj, .slice AS z.ss.length cS, .bool z.dr]) ∧ ZR G AJ AS z ∧ St W G cs w'  := by
  refine enter (P := Try.prog) (args := [.agg #[.slice AJ z.js.length cj, .slice AS z.ss.length cS, .bool z.dr]]) Try.func12 rfl rfl rfl ?_
  have hzj := hz.j
  have hzs := hz.s
  refine WC.seq (WC.reg ?_)
  refine WL.box rfl h rfl ?_
  intro b1 w1 h1
  refine WL.alloc' rfl h1 inf45 ?_
  intro b2 w2 h2
  refine WL.nil (WN.thn (WC.seq (WC.reg ?_)))
  refine WL.v (Runs.fld fld25_2 rfl) rfl ?_
  refine WL.v (Runs.load1 Try.underlying4 rfl rfl (h2.ocell (i := 1) rfl rfl)) rfl ?_
  refine WL.v (Runs.build (vs := [(2, .bool z.dr)]) (cells := #[.slice none 0 0, .slice none 0 0, .bool z.dr]) rfl (by kernel_rfl)) rfl ?_
  refine WL.alloc' rfl h2 inf45 ?_
  intro b3 w3 h3
  refine WL.storeAll h3 0 rfl rfl rfl inf45 rfl rfl rfl (Free.zero _) ?_
  intro  w4 h4
  try simp only [lz, ls, ez, es'] at h4
  refine WL.nil (WN.thn (WC.seq (WC.seq (WC.reg ?_))))
  refine WL.v (Runs.assign rfl) rfl ?_
  refine WL.nil (WN.thn (WC.block ?_))
  replace h4 := h4.nilRes
  refine WC.loop (σ := Nat × Option Addr × Nat × Res) (fun q_ => [(1, .pointer (some ⟨b1, 0, none⟩)), (2, .pointer (some ⟨b2, 0, none⟩)), (3, .pointer (some ⟨b3, 0, none⟩)), (4, .int .i64 (q_.1 : Int))]) (fun q_ w => q_.1 ≤ z.js.length ∧ RowM 77 3 jc q_.2.2.2 (.slice q_.2.1 (z.js.take q_.1).length q_.2.2.1) (z.js.take q_.1) ∧ St W F (q_.2.2.2 :: [(b3, .cells #[.slice q_.2.1 (z.js.take q_.1).length q_.2.2.1, .slice none 0 0, .bool z.dr] 45 (0, 0))] :: [(b2, .cells #[.slice none 0 0, .slice none 0 0, .bool false] 45 (0, 0))] :: [(b1, .cells #[.slice AJ z.js.length cj, .slice AS z.ss.length cS, .bool z.dr] 25 (0, 0))] :: cs) w) (fun q_ => z.js.length - q_.1) (⟨0, none, 0, []⟩) (by repeat (first | exact trivial | refine ⟨rfl, ?_⟩)) (⟨Nat.zero_le _, RowM.nil _ _ _, h4⟩) ?_
  rintro ⟨i, A0, cap0, r⟩ w5 ⟨hi, hrj, hL⟩
  try dsimp only at hi hrj hL
  refine WC.sub (s := [(1, .pointer (some ⟨b1, 0, none⟩)), (2, .pointer (some ⟨b2, 0, none⟩)), (3, .pointer (some ⟨b3, 0, none⟩)), (4, .int .i64 (i : Int))]) (by repeat (first | exact trivial | refine ⟨rfl, ?_⟩)) ?_
  refine WC.seq (WC.seq (WC.reg ?_))
  refine WL.v (Runs.move rfl) rfl ?_
  refine WL.v (Runs.fld fld25_0 rfl) rfl ?_
  refine WL.v (Runs.load1 Try.underlying22 rfl rfl (hL.ocell (i := 3) rfl rfl)) rfl ?_
  refine WL.v (Runs.llen Try.underlying22 rfl rfl) rfl ?_
  refine WL.v (Runs.lss rfl rfl) rfl ?_
  refine WL.nil (WN.thn ?_)
  refine WC.cond rfl (fun c6 => ?_) (fun c6 => ?_)
  · try simp only [dt, df, nt, nf, ba, il, ie] at c6
    first
    | (exfalso; omega)
    | skip
      refine WC.skip (WN.thn (WC.seq (WC.block (WC.seq ?_))))
      have hi2 : i < z.js.length := by omega
      obtain ⟨ad, c, rfl, hc, hcell⟩ := hR.j.atD J0 hi2
      obtain rfl : c = jc (z.js.getD i J0) := hc
      have htl := take_ln (xs := z.js) hi
      refine WC.reg ?_
      refine WL.v (Runs.fld fld25_0 rfl) rfl ?_
      refine WL.v (Runs.load1 Try.underlying22 rfl rfl (hL.ocell (i := 3) rfl rfl)) rfl ?_
      refine WL.v (Runs.move rfl) rfl ?_
      refine WL.v (Runs.lidxK Try.underlying22 inf76 rfl rfl (n := i) rfl hi2) rfl ?_
      refine WL.v (Runs.loadKF hL hcell Try.underlying76 rfl inf76 rfl rfl) rfl ?_
      refine WL.alloc' rfl hL inf76 ?_
      intro b5 w7 h7
      refine WL.storeAll h7 0 rfl rfl rfl inf76 rfl rfl rfl (Free.zero _) ?_
      intro  w8 h8
      try simp only [lz, ls, ez, es'] at h8
      refine WL.nil (WN.thn (WC.reg ?_))
      refine WL.v (Runs.fld fld45_0 rfl) rfl ?_
      refine WL.v (Runs.load1 Try.underlying42 rfl rfl (h8.ocell (i := 2) rfl rfl)) rfl ?_
      refine WL.v (Runs.fld fld76_0 rfl) rfl ?_
      refine WL.v (Runs.load1 Try.underlying3 rfl rfl (h8.ocell (i := 0) rfl rfl)) rfl ?_
      refine WL.v (Runs.fld fld76_1 rfl) rfl ?_
      refine WL.v (Runs.load1 Try.underlying3 rfl rfl (h8.ocell (i := 0) rfl rfl)) rfl ?_
      refine WL.v (Runs.fld fld76_2 rfl) rfl ?_
      refine WL.v (Runs.load1 Try.underlying3 rfl rfl (h8.ocell (i := 0) rfl rfl)) rfl ?_
      refine WL.v (Runs.build (vs := [(0, Vi (z.js.getD i J0).jb), (1, Vi (z.js.getD i J0).ep), (2, Vi (z.js.getD i J0).ph)]) (cells := #[Vi (z.js.getD i J0).jb, Vi (z.js.getD i J0).ep, Vi (z.js.getD i J0).ph]) rfl (by kernel_rfl)) rfl ?_
      refine WL.buildSlice (vs := [JV (z.js.getD i J0)]) h8 rfl Try.underlying42 (inf77.elem rfl rfl) rfl rfl rfl (by decide) ?_
      intro lit32 w9 h9
      try simp only [lz, ls, ez, es'] at h9
      refine WL.appM (f := jc) (ys := [(z.js.getD i J0)]) 2 h9 rfl rfl rfl rfl Try.underlying42 Try.underlying42 (.inr ⟨_, rfl⟩) (inf77.elem rfl rfl) hrj (Src.litM h9 0 rfl rfl rfl) rfl (by first | omega | (simp; done) | (simp; omega) | (simp only [List.length_nil]; omega)) (by first | omega | (simp; done) | (simp; omega) | (simp only [List.length_nil]; omega)) ?_
      intro r10 v10 w11 hr10 h11
      simp only [lz, ls] at h11
      replace h11 := h11.drop 0
      simp only [ez, es'] at h11
      obtain ⟨A10, cap10, rfl, hcap10⟩ := hr10.val
      refine WL.v (Runs.fld fld45_0 rfl) rfl ?_
      refine WL.store' h11 2 rfl rfl rfl inf42 rfl rfl (Free.zero _) (Nat.le_of_ble_eq_true rfl) ?_
      intro  w12 h12
      try simp only [lz, ls, ez, es'] at h12
      refine WL.nil (WN.blk (WN.thn (WC.reg ?_)))
      refine WL.v (Runs.move rfl) rfl ?_
      refine WL.v (Runs.addn rfl rfl (by omega)) rfl ?_
      refine WL.v (Runs.assign rfl) rfl ?_
      refine WL.nil ?_
      have hr9 := hr10
      have h9 := (h12.drop 0)
      rw [take_at J0 hi2] at hr9
      exact WN.again (⟨i + 1, A10, cap10, r10⟩ : Nat × Option Addr × Nat × Res) (by show z.js.length - (i + 1) < z.js.length - i; omega) ⟨rfl, rfl, rfl, rfl, trivial⟩ ⟨by show i + 1 ≤ _; omega, hr9, by rw [take_at J0 hi2] at h9; exact h9⟩
  · try simp only [dt, df, nt, nf, ba, il, ie] at c6
    first
    | (exfalso; omega)
    | skip
      refine WC.exit (WX.thn (WX.cut (WX.hit (WN.thn (WC.seq ?_)))))
      refine WC.seq (WC.reg ?_)
      refine WL.v (Runs.assign rfl) rfl ?_
      refine WL.nil (WN.thn (WC.block ?_))
      obtain rfl : i = z.js.length := by omega
      rw [List.take_length] at hrj
      replace hL := hL.nilRes
      rw [List.take_length] at hL
      refine WC.loop (σ := Nat × Option Addr × Nat × Res × List E) (fun q_ => [(1, .pointer (some ⟨b1, 0, none⟩)), (2, .pointer (some ⟨b2, 0, none⟩)), (3, .pointer (some ⟨b3, 0, none⟩)), (6, .int .i64 (q_.1 : Int))]) (fun q_ w => q_.1 ≤ z.ss.length ∧ RowM 80 6 sc q_.2.2.2.1 (.slice q_.2.1 q_.2.2.2.2.length q_.2.2.1) q_.2.2.2.2 ∧ q_.2.2.2.2.map (·.s) = (z.ss.take q_.1) ∧ (∀ e ∈ q_.2.2.2.2, RdS (Kd.one Vi) F e.A e.s.ps) ∧ St W F (q_.2.2.2.1 :: r :: [(b3, .cells #[.slice A0 z.js.length cap0, .slice q_.2.1 q_.2.2.2.2.length q_.2.2.1, .bool z.dr] 45 (0, 0))] :: [(b2, .cells #[.slice none 0 0, .slice none 0 0, .bool false] 45 (0, 0))] :: [(b1, .cells #[.slice AJ z.js.length cj, .slice AS z.ss.length cS, .bool z.dr] 25 (0, 0))] :: cs) w) (fun q_ => z.ss.length - q_.1) (⟨0, none, 0, [], []⟩) (by repeat (first | exact trivial | refine ⟨rfl, ?_⟩)) (⟨Nat.zero_le _, RowM.nil _ _ _, rfl, (fun e he => by cases he), hL⟩) ?_
      rintro ⟨i, A, cap, rs, es⟩ w13 ⟨hi, hrs, hes, hps0, hL⟩
      try dsimp only at hi hrs hes hps0 hL
      refine WC.sub (s := [(1, .pointer (some ⟨b1, 0, none⟩)), (2, .pointer (some ⟨b2, 0, none⟩)), (3, .pointer (some ⟨b3, 0, none⟩)), (6, .int .i64 (i : Int))]) (by repeat (first | exact trivial | refine ⟨rfl, ?_⟩)) ?_
      refine WC.seq (WC.seq (WC.reg ?_))
      refine WL.v (Runs.move rfl) rfl ?_
      refine WL.v (Runs.fld fld25_1 rfl) rfl ?_
      refine WL.v (Runs.load1 Try.underlying23 rfl rfl (hL.ocell (i := 4) rfl rfl)) rfl ?_
      refine WL.v (Runs.llen Try.underlying23 rfl rfl) rfl ?_
      refine WL.v (Runs.lss rfl rfl) rfl ?_
      refine WL.nil (WN.thn ?_)
      refine WC.cond rfl (fun c14 => ?_) (fun c14 => ?_)
      · try simp only [dt, df, nt, nf, ba, il, ie] at c14
        first
        | (exfalso; omega)
        | skip
          refine WC.skip (WN.thn (WC.seq (WC.block (WC.seq ?_))))
          have hi2 : i < z.ss.length := by omega
          obtain ⟨ad, c, rfl, hc, hcell⟩ := hR.s.atD S0 hi2
          obtain ⟨A1, cap1, rfl, hps⟩ := hc
          have htl := take_ln (xs := z.ss) hi
          have hel : es.length = i := by rw [← htl, ← hes, List.length_map]
          refine WC.reg ?_
          refine WL.v (Runs.fld fld25_1 rfl) rfl ?_
          refine WL.v (Runs.load1 Try.underlying23 rfl rfl (hL.ocell (i := 4) rfl rfl)) rfl ?_
          refine WL.v (Runs.move rfl) rfl ?_
          refine WL.v (Runs.lidxK Try.underlying23 inf79 rfl rfl (n := i) rfl hi2) rfl ?_
          refine WL.v (Runs.loadKF hL hcell Try.underlying79 rfl inf79 rfl rfl) rfl ?_
          refine WL.alloc' rfl hL inf79 ?_
          intro b7 w15 h15
          refine WL.storeAll h15 0 rfl rfl rfl inf79 rfl rfl rfl (Free.zero _) ?_
          intro  w16 h16
          try simp only [lz, ls, ez, es'] at h16
          refine WL.nil (WN.thn (WC.reg ?_))
          refine WL.v (Runs.fld fld45_1 rfl) rfl ?_
          refine WL.v (Runs.load1 Try.underlying43 rfl rfl (h16.ocell (i := 3) rfl rfl)) rfl ?_
          refine WL.v (Runs.fld fld79_0 rfl) rfl ?_
          refine WL.v (Runs.load1 Try.underlying3 rfl rfl (h16.ocell (i := 0) rfl rfl)) rfl ?_
          refine WL.v (Runs.fld fld79_1 rfl) rfl ?_
          refine WL.v (Runs.load1 Try.underlying3 rfl rfl (h16.ocell (i := 0) rfl rfl)) rfl ?_
          refine WL.v (Runs.fld fld79_2 rfl) rfl ?_
          refine WL.v (Runs.load1 Try.underlying3 rfl rfl (h16.ocell (i := 0) rfl rfl)) rfl ?_
          refine WL.v (Runs.fld fld79_3 rfl) rfl ?_
          refine WL.v (Runs.load1 Try.underlying3 rfl rfl (h16.ocell (i := 0) rfl rfl)) rfl ?_
          refine WL.v (Runs.fld fld79_4 rfl) rfl ?_
          refine WL.v (Runs.load1 Try.underlying3 rfl rfl (h16.ocell (i := 0) rfl rfl)) rfl ?_
          refine WL.v (Runs.fld fld79_5 rfl) rfl ?_
          refine WL.v (Runs.load1 Try.underlying29 rfl rfl (h16.ocell (i := 0) rfl rfl)) rfl ?_
          refine WL.v (Runs.build (vs := [(0, Vi (z.ss.getD i S0).jb), (1, Vi (z.ss.getD i S0).ep), (2, Vi (z.ss.getD i S0).st), (3, Vi (z.ss.getD i S0).ph), (4, Vi (z.ss.getD i S0).cd), (5, .slice A1 (z.ss.getD i S0).ps.length cap1)]) (cells := #[Vi (z.ss.getD i S0).jb, Vi (z.ss.getD i S0).ep, Vi (z.ss.getD i S0).st, Vi (z.ss.getD i S0).ph, Vi (z.ss.getD i S0).cd, .slice A1 (z.ss.getD i S0).ps.length cap1]) rfl (by kernel_rfl)) rfl ?_
          refine WL.buildSlice (vs := [SV A1 cap1 (z.ss.getD i S0)]) h16 rfl Try.underlying43 (inf80.elem rfl rfl) rfl rfl rfl (by decide) ?_
          intro lit62 w17 h17
          try simp only [lz, ls, ez, es'] at h17
          refine WL.appM (f := sc) (ys := [E.mk (z.ss.getD i S0) A1 cap1]) 2 h17 rfl rfl rfl rfl Try.underlying43 Try.underlying43 (.inr ⟨_, rfl⟩) (inf80.elem rfl rfl) hrs (Src.litM h17 0 rfl rfl rfl) rfl (by first | omega | (simp; done) | (simp; omega) | (simp only [List.length_nil]; omega)) (by first | omega | (simp; done) | (simp; omega) | (simp only [List.length_nil]; omega)) ?_
          intro r18 v18 w19 hr18 h19
          simp only [lz, ls] at h19
          replace h19 := h19.drop 0
          simp only [ez, es'] at h19
          obtain ⟨A18, cap18, rfl, hcap18⟩ := hr18.val
          refine WL.v (Runs.fld fld45_1 rfl) rfl ?_
          refine WL.store' h19 3 rfl rfl rfl inf43 rfl rfl (Free.zero _) (Nat.le_of_ble_eq_true rfl) ?_
          intro  w20 h20
          try simp only [lz, ls, ez, es'] at h20
          refine WL.nil (WN.blk (WN.thn (WC.reg ?_)))
          refine WL.v (Runs.move rfl) rfl ?_
          refine WL.v (Runs.addn rfl rfl (by omega)) rfl ?_
          refine WL.v (Runs.assign rfl) rfl ?_
          refine WL.nil ?_
          exact WN.again (⟨i + 1, A18, cap18, r18, es ++ [E.mk (z.ss.getD i S0) A1 cap1]⟩ : Nat × Option Addr × Nat × Res × List E) (by show z.ss.length - (i + 1) < z.ss.length - i; omega) ⟨rfl, rfl, rfl, rfl, trivial⟩ ⟨by show i + 1 ≤ _; omega, hr18, by show (es ++ [_]).map _ = z.ss.take (i + 1); rw [List.map_append, hes, ← take_at S0 hi2]; rfl, fun e he => (by
            rcases List.mem_append.1 he with he | he
            · exact hps0 e he
            · rw [List.mem_singleton.1 he]; exact hps), (h20.drop 0)⟩
      · try simp only [dt, df, nt, nf, ba, il, ie] at c14
        first
        | (exfalso; omega)
        | skip
          refine WC.exit (WX.thn (WX.cut (WX.hit (WN.thn (WC.seq ?_)))))
          refine WC.reg ?_
          refine WL.v (Runs.loadAll hL 2 rfl Try.underlying45 rfl inf45 rfl rfl) rfl ?_
          refine WL.storeAll hL 3 rfl rfl rfl inf45 rfl rfl rfl (Free.zero _) ?_
          intro  w21 h21
          try simp only [lz, ls, ez, es'] at h21
          refine WL.nil (WN.thn (WC.ret ?_))
          obtain rfl : i = z.ss.length := by omega
          rw [List.take_length] at hes
          have hel : es.length = z.ss.length := by rw [← hes, List.length_map]
          rw [hel] at hrs h21
          have hO : OS F r rs A0 A cap0 cap z := ⟨hrj, es, hrs, hes, hps0⟩
          obtain ⟨G9, hG9, hZ9, hS9⟩ := hO.still (cs := _) (((h21.drop 4).drop 3).drop 2 |>.perm (List.Perm.swap _ _ _))
          refine retA rfl (ResOk.blk h21 3 rfl Try.underlying45 rfl inf45 rfl rfl) ⟨G9, A0, A, cap0, cap, hG9, rfl, hZ9, hS9⟩
set_option maxRecDepth 100000 in
set_option maxHeartbeats 1000000 in
theorem facts_c {W : World} {F : Snap} {cs : List Res} (w : World) {Ap : Option Addr} {cp : Nat} {f : Fc} (h : St W F cs w) : Calls Try.prog 13 #[.agg #[Vi f.cr, .slice Ap f.ps.length cp, Vi f.cd, .bool f.bz]] w fun e w' => e = .returned (.agg #[Vi f.cr, .slice Ap f.ps.length cp, Vi f.cd, .bool f.bz]) ∧ St W F cs w'  := by
  refine enter (P := Try.prog) (args := [.agg #[Vi f.cr, .slice Ap f.ps.length cp, Vi f.cd, .bool f.bz]]) Try.func13 rfl rfl rfl ?_
  refine WC.seq (WC.reg ?_)
  refine WL.box rfl h rfl ?_
  intro b1 w1 h1
  refine WL.alloc' rfl h1 inf47 ?_
  intro b2 w2 h2
  refine WL.nil (WN.thn (WC.seq (WC.reg ?_)))
  refine WL.v (Runs.fld fld31_0 rfl) rfl ?_
  refine WL.v (Runs.load1 Try.underlying28 rfl rfl (h2.ocell (i := 1) rfl rfl)) rfl ?_
  refine WL.v (Runs.fld fld31_1 rfl) rfl ?_
  refine WL.v (Runs.load1 Try.underlying29 rfl rfl (h2.ocell (i := 1) rfl rfl)) rfl ?_
  refine WL.v (Runs.fld fld31_2 rfl) rfl ?_
  refine WL.v (Runs.load1 Try.underlying3 rfl rfl (h2.ocell (i := 1) rfl rfl)) rfl ?_
  refine WL.v (Runs.fld fld31_3 rfl) rfl ?_
  refine WL.v (Runs.load1 Try.underlying4 rfl rfl (h2.ocell (i := 1) rfl rfl)) rfl ?_
  refine WL.v (Runs.build (vs := [(0, Vi f.cr), (1, .slice Ap f.ps.length cp), (2, Vi f.cd), (3, .bool f.bz)]) (cells := #[Vi f.cr, .slice Ap f.ps.length cp, Vi f.cd, .bool f.bz]) rfl (by kernel_rfl)) rfl ?_
  refine WL.storeAll h2 0 rfl rfl rfl inf47 rfl rfl rfl (Free.zero _) ?_
  intro  w3 h3
  try simp only [lz, ls, ez, es'] at h3
  refine WL.nil (WN.thn (WC.ret ?_))
  refine retA rfl (ResOk.blk h3 0 rfl Try.underlying47 rfl inf47 rfl rfl) ⟨rfl, ((h3.drop 0).drop 0)⟩
set_option maxRecDepth 100000 in
set_option maxHeartbeats 4000000 in
theorem told_c {W : World} {F : Snap} {cs : List Res} (w : World) {Aa : Option Addr} {ca : Nat} {a : Ac} (h : St W F cs w) : Calls Try.prog 16 #[.agg (acv Aa ca a)] w fun e w' => e = .returned (.agg (acv Aa ca a)) ∧ St W F cs w'  := by
  refine enter (P := Try.prog) (args := [.agg (acv Aa ca a)]) Try.func16 rfl rfl rfl ?_
  refine WC.seq (WC.reg ?_)
  refine WL.box rfl h rfl ?_
  intro b1 w1 h1
  refine WL.alloc' rfl h1 inf49 ?_
  intro b2 w2 h2
  refine WL.nil (WN.thn (WC.seq (WC.reg ?_)))
  refine WL.v (Runs.fld fld39_0 rfl) rfl ?_
  refine WL.v (Runs.load1 Try.underlying4 rfl rfl (h2.ocell (i := 1) rfl rfl)) rfl ?_
  refine WL.v (Runs.fld fld39_1 rfl) rfl ?_
  refine WL.v (Runs.loadPart (vs := #[Vi a.rc.kd, Vi a.rc.jb, Vi a.rc.ep, Vi a.rc.st, Vi a.rc.ar, .slice Aa a.rc.ls.length ca]) h2 1 rfl Try.underlying37 rfl inf37 rfl (by kernel_rfl) rfl) rfl ?_
  refine WL.v (Runs.fld fld39_2 rfl) rfl ?_
  refine WL.v (Runs.load1 Try.underlying4 rfl rfl (h2.ocell (i := 1) rfl rfl)) rfl ?_
  refine WL.v (Runs.fld fld39_3 rfl) rfl ?_
  refine WL.v (Runs.loadPart (vs := #[Vi a.rp.kd, Vi a.rp.fr, Vi a.rp.to, Vi a.rp.jb, Vi a.rp.ep, Vi a.rp.st, Vi a.rp.ar, .string a.rp.tx]) h2 1 rfl Try.underlying27 rfl inf27 rfl (by kernel_rfl) rfl) rfl ?_
  refine WL.v (Runs.fld fld39_4 rfl) rfl ?_
  refine WL.v (Runs.load1 Try.underlying4 rfl rfl (h2.ocell (i := 1) rfl rfl)) rfl ?_
  refine WL.v (Runs.fld fld39_5 rfl) rfl ?_
  refine WL.v (Runs.load1 Try.underlying4 rfl rfl (h2.ocell (i := 1) rfl rfl)) rfl ?_
  refine WL.v (Runs.fld fld39_6 rfl) rfl ?_
  refine WL.v (Runs.load1 Try.underlying4 rfl rfl (h2.ocell (i := 1) rfl rfl)) rfl ?_
  refine WL.v (Runs.build (vs := [(0, .bool a.has), (1, .agg #[Vi a.rc.kd, Vi a.rc.jb, Vi a.rc.ep, Vi a.rc.st, Vi a.rc.ar, .slice Aa a.rc.ls.length ca]), (2, .bool a.bk), (3, .agg #[Vi a.rp.kd, Vi a.rp.fr, Vi a.rp.to, Vi a.rp.jb, Vi a.rp.ep, Vi a.rp.st, Vi a.rp.ar, .string a.rp.tx]), (4, .bool a.sta), (5, .bool a.kil), (6, .bool a.can)]) (cells := acv Aa ca a) rfl (by kernel_rfl)) rfl ?_
  refine WL.storeAll h2 0 rfl rfl rfl inf49 rfl rfl rfl (Free.zero _) ?_
  intro  w3 h3
  try simp only [lz, ls, ez, es'] at h3
  refine WL.nil (WN.thn (WC.ret ?_))
  refine retA rfl (ResOk.blk h3 0 rfl Try.underlying49 rfl inf49 rfl rfl) ⟨rfl, ((h3.drop 0).drop 0)⟩
set_option maxRecDepth 100000 in
set_option maxHeartbeats 4000000 in
theorem small_c {W : World} {F : Snap} {cs : List Res} (w : World) {AJ AS : Option Addr} {cj cS : Nat} {z : Z} {m : M} {Ap : Option Addr} {cp : Nat} {f : Fc} {id : Int} (h : St W F cs w) (hR : RdS KS F AS z.ss) (hn : z.ss.length ≤ 9223372036854775807) : Calls Try.prog 9 #[.agg #[Vi id, .slice AJ z.js.length cj, .slice AS z.ss.length cS, .bool z.dr, Vi m.kd, Vi m.fr, Vi m.to, Vi m.jb, Vi m.ep, Vi m.st, Vi m.ar, .string m.tx, Vi f.cr, .slice Ap f.ps.length cp, Vi f.cd, .bool f.bz]] w fun e w' => e = .returned (.bool (decide (smallZ z) && decide (f.ps.length ≤ 40))) ∧ St W F cs w'  := by
  refine enter (P := Try.prog) (args := [.agg #[Vi id, .slice AJ z.js.length cj, .slice AS z.ss.length cS, .bool z.dr, Vi m.kd, Vi m.fr, Vi m.to, Vi m.jb, Vi m.ep, Vi m.st, Vi m.ar, .string m.tx, Vi f.cr, .slice Ap f.ps.length cp, Vi f.cd, .bool f.bz]]) Try.func9 rfl rfl rfl ?_
  refine WC.seq (WC.reg ?_)
  refine WL.box rfl h rfl ?_
  intro b1 w1 h1
  refine WL.v (Runs.assign rfl) rfl ?_
  refine WL.nil (WN.thn (WC.seq ?_))
  rcases two (smallZ z) (f.ps.length ≤ 40) with q0 | ⟨q0, q1⟩ | ⟨q0, q1⟩
  · skip
    refine WC.reg ?_
    refine WL.v (Runs.fld fld33_1 rfl) rfl ?_
    refine WL.v (Runs.loadPart (vs := #[.slice AJ z.js.length cj, .slice AS z.ss.length cS, .bool z.dr]) h1 0 rfl Try.underlying25 rfl inf25 rfl (by kernel_rfl) rfl) rfl ?_
    refine WL.call can25 rfl rfl (qsmall_c _ h1 hR hn) ?_
    rintro _ w2 ⟨rfl, h2⟩
    refine ⟨_, rfl, ?_⟩
    refine WL.v (Runs.boolT (c := false) (Runs.move rfl) (decide_eq_false q0)) rfl ?_
    refine WL.goff rfl rfl rfl rfl ?_
    refine WL.goff rfl rfl rfl rfl ?_
    refine WL.goff rfl rfl rfl rfl ?_
    refine WL.goff rfl rfl rfl rfl ?_
    refine WL.goff rfl rfl rfl rfl ?_
    refine WL.v (Runs.pick rfl rfl rfl) rfl ?_
    refine WL.v (Runs.assign rfl) rfl ?_
    refine WL.nil (WN.thn (WC.ret ?_))
    exact ret1 rfl rfl ⟨by rw [decide_eq_false q0] <;> rfl, h2.drop 0⟩
  · skip
    refine WC.reg ?_
    refine WL.v (Runs.fld fld33_1 rfl) rfl ?_
    refine WL.v (Runs.loadPart (vs := #[.slice AJ z.js.length cj, .slice AS z.ss.length cS, .bool z.dr]) h1 0 rfl Try.underlying25 rfl inf25 rfl (by kernel_rfl) rfl) rfl ?_
    refine WL.call can25 rfl rfl (qsmall_c _ h1 hR hn) ?_
    rintro _ w3 ⟨rfl, h3⟩
    refine ⟨_, rfl, ?_⟩
    refine WL.v (Runs.boolT (c := true) (Runs.move rfl) (decide_eq_true q0)) rfl ?_
    refine WL.gon rfl rfl rfl ?_
    refine WL.v (Runs.fld fld33_3 rfl) rfl ?_
    refine WL.gon rfl rfl rfl ?_
    refine WL.v (Runs.fld fld31_1 rfl) rfl ?_
    refine WL.gon rfl rfl rfl ?_
    refine WL.v (Runs.load1 Try.underlying29 rfl rfl (h3.ocell (i := 0) rfl rfl)) rfl ?_
    refine WL.gon rfl rfl rfl ?_
    refine WL.v (Runs.llen Try.underlying29 rfl rfl) rfl ?_
    refine WL.gon rfl rfl rfl ?_
    refine WL.v (Runs.boolT (c := false) (Runs.leq rfl rfl) (by rw [decide_eq_false_iff_not]; omega)) rfl ?_
    refine WL.v (Runs.pick rfl rfl rfl) rfl ?_
    refine WL.v (Runs.assign rfl) rfl ?_
    refine WL.nil (WN.thn (WC.ret ?_))
    exact ret1 rfl rfl ⟨by rw [decide_eq_true q0, decide_eq_false q1] <;> rfl, h3.drop 0⟩
  · skip
    refine WC.reg ?_
    refine WL.v (Runs.fld fld33_1 rfl) rfl ?_
    refine WL.v (Runs.loadPart (vs := #[.slice AJ z.js.length cj, .slice AS z.ss.length cS, .bool z.dr]) h1 0 rfl Try.underlying25 rfl inf25 rfl (by kernel_rfl) rfl) rfl ?_
    refine WL.call can25 rfl rfl (qsmall_c _ h1 hR hn) ?_
    rintro _ w4 ⟨rfl, h4⟩
    refine ⟨_, rfl, ?_⟩
    refine WL.v (Runs.boolT (c := true) (Runs.move rfl) (decide_eq_true q0)) rfl ?_
    refine WL.gon rfl rfl rfl ?_
    refine WL.v (Runs.fld fld33_3 rfl) rfl ?_
    refine WL.gon rfl rfl rfl ?_
    refine WL.v (Runs.fld fld31_1 rfl) rfl ?_
    refine WL.gon rfl rfl rfl ?_
    refine WL.v (Runs.load1 Try.underlying29 rfl rfl (h4.ocell (i := 0) rfl rfl)) rfl ?_
    refine WL.gon rfl rfl rfl ?_
    refine WL.v (Runs.llen Try.underlying29 rfl rfl) rfl ?_
    refine WL.gon rfl rfl rfl ?_
    refine WL.v (Runs.boolT (c := true) (Runs.leq rfl rfl) (by rw [decide_eq_true_eq]; omega)) rfl ?_
    refine WL.v (Runs.pick rfl rfl rfl) rfl ?_
    refine WL.v (Runs.assign rfl) rfl ?_
    refine WL.nil (WN.thn (WC.ret ?_))
    exact ret1 rfl rfl ⟨by rw [decide_eq_true q0, decide_eq_true q1] <;> rfl, h4.drop 0⟩
end Rc
end Go.Proofs.Ytanlminnobonnaa
