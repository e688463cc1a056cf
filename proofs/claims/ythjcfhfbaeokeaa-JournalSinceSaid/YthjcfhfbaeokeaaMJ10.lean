/- What the laws of chapter 08 have in common: entries told, compared. -/
import Derived.Test.YthjcfhfbaeokeaaMJ9
namespace Go.Proofs.Ythjcfhfbaeokeaa
open Go Go.RowKit B
set_option linter.unusedVariables false
set_option linter.unusedSimpArgs false
namespace Jo
open Wir (Vi textB numB rdT rdEnd wtext_c)


theorem eq_same (x : Ent) : (decide (x.1 = x.1) && (decide (x.2 = x.2) && true)) = true := by simp
theorem rdAE {F : Snap} {A : Option Addr} {xs : List Ent} (h : RdS KEn F A xs) (h0 : 0 < xs.length) : ∃ ad, A = some ad := by
  rcases h with h | ⟨ad, hA, _⟩
  · rw [h] at h0; cases h0
  · exact ⟨ad, hA⟩
set_option maxRecDepth 100000 in
set_option maxHeartbeats 1000000 in
theorem esame_c {W : World} {F : Snap} {cs : List Res} (w : World) {A B : Option Addr} {cap cap2 : Nat} {xs : List Ent} (h : St W F cs w) (hA : RdS KEn F A xs) (hB : RdS KEn F B xs) (hn : xs.length ≤ 1000000) : Calls Try.prog 19 #[.slice A xs.length cap, .slice B xs.length cap2] w fun e w' => e = .returned (.bool true) ∧ St W F cs w'  := by
  refine enter (P := Try.prog) (args := [.slice A xs.length cap, .slice B xs.length cap2]) Try.func19 rfl rfl rfl ?_
  refine WC.seq ?_
  refine WC.reg ?_
  refine WL.v (Runs.assign rfl) rfl ?_
  refine WL.nil ?_
  refine WN.thn ?_
  refine WC.seq ?_
  refine WC.seq ?_
  refine WC.reg ?_
  refine WL.v (Runs.move rfl) rfl ?_
  refine WL.v (Runs.intT (n := (xs.length : Int)) (Runs.llen Try.underlying35 rfl rfl) rfl) rfl ?_
  refine WL.v (Runs.move rfl) rfl ?_
  refine WL.v (Runs.intT (n := (xs.length : Int)) (Runs.llen Try.underlying35 rfl rfl) rfl) rfl ?_
  refine WL.v (Runs.boolT (c := false) (Runs.neq rfl rfl) (by simp)) rfl ?_
  refine WL.nil ?_
  refine WN.thn ?_
  refine WC.condF rfl (rfl) ?_
  refine WC.skip ?_
  refine WN.thn ?_
  refine WC.seq ?_
  refine WC.seq ?_
  refine WC.reg ?_
  refine WL.v (Runs.assign rfl) rfl ?_
  refine WL.nil ?_
  refine WN.thn ?_
  refine WC.block ?_
  refine WC.loop (σ := Nat) (fun q_ => [(0, .slice A xs.length cap), (1, .slice B xs.length cap2), (5, .int .i64 (q_ : Int))]) (fun q_ w => q_ ≤ xs.length ∧ St W F cs w) (fun q_ => xs.length - q_) (0) (by repeat (first | exact trivial | refine ⟨rfl, ?_⟩)) (⟨by omega, h⟩) ?_
  rintro i w1 ⟨hi, hL⟩
  try dsimp only at hi hL
  refine WC.sub (s := [(0, .slice A xs.length cap), (1, .slice B xs.length cap2), (5, .int .i64 (i : Int))]) (by repeat (first | exact trivial | refine ⟨rfl, ?_⟩)) ?_
  refine WC.seq ?_
  refine WC.seq ?_
  refine WC.reg ?_
  refine WL.v (Runs.move rfl) rfl ?_
  refine WL.v (Runs.move rfl) rfl ?_
  refine WL.v (Runs.intT (n := (xs.length : Int)) (Runs.llen Try.underlying35 rfl rfl) rfl) rfl ?_
  refine WL.v (Runs.lss rfl rfl) rfl ?_
  refine WL.nil ?_
  refine WN.thn ?_
  refine WC.cond rfl (fun c2 => ?_) (fun c2 => ?_)
  · try simp only [decide_eq_true_eq, decide_eq_false_iff_not, Bool.not_eq_true', Bool.not_eq_false', Bool.and_eq_true, Int.not_lt, Int.not_le] at c2
    first
    | (exfalso; omega)
    | skip
      refine WC.skip ?_
      refine WN.thn ?_
      refine WC.seq ?_
      refine WC.block ?_
      refine WC.seq ?_
      obtain ⟨a1, rfl⟩ := rdAE hA (by omega)
      obtain ⟨b1, rfl⟩ := rdAE hB (by omega)
      refine WC.qreg (C := fun w_ => St W F _ w_) mixed (by kernel_rfl) (hL.drew) ?_
      refine WQ.val (fun w_ hC_ => Runs.move rfl) rfl ?_
      refine WQ.val (fun w_ hC_ => Runs.move rfl) rfl ?_
      refine WQ.val (fun w_ hC_ => Runs.lidxK Try.underlying35 inf45 rfl rfl (n := i) rfl (by omega)) rfl ?_
      refine WQ.val (fun w_ hC_ => Runs.valT (u := entA (xs.getD i (0, []))) (Runs.loadRows ((0, []) : Ent) hC_ hA rfl (by omega) Try.underlying45 rfl inf45 rfl) rfl) rfl ?_
      refine WQ.val (fun w_ hC_ => Runs.move rfl) rfl ?_
      refine WQ.val (fun w_ hC_ => Runs.move rfl) rfl ?_
      refine WQ.val (fun w_ hC_ => Runs.lidxK Try.underlying35 inf45 rfl rfl (n := i) rfl (by omega)) rfl ?_
      refine WQ.val (fun w_ hC_ => Runs.valT (u := entA (xs.getD i (0, []))) (Runs.loadRows ((0, []) : Ent) hC_ hB rfl (by omega) Try.underlying45 rfl inf45 rfl) rfl) rfl ?_
      refine WQ.val (fun w_ hC_ => Runs.boolT (c := false) (Runs.aneq (by kernel_rfl) rfl rfl (eqE _ _ _)) (by rw [eq_same]; rfl)) rfl ?_
      refine WQ.fin ?_
      intro w3 h3
      refine WN.thn ?_
      refine WC.condF rfl (rfl) ?_
      refine WC.skip ?_
      refine WN.blk ?_
      refine WN.thn ?_
      refine WC.reg ?_
      refine WL.v (Runs.move rfl) rfl ?_
      refine WL.v (Runs.addn rfl rfl (by omega)) rfl ?_
      refine WL.v (Runs.assign rfl) rfl ?_
      refine WL.nil ?_
      exact WN.again (i + 1) (by omega) ⟨rfl, rfl, rfl, trivial⟩ ⟨by omega, h3⟩
  · try simp only [decide_eq_true_eq, decide_eq_false_iff_not, Bool.not_eq_true', Bool.not_eq_false', Bool.and_eq_true, Int.not_lt, Int.not_le] at c2
    first
    | (exfalso; omega)
    | skip
      refine WC.exit ?_
      refine WX.thn ?_
      refine WX.cut ?_
      refine WX.hit ?_
      refine WN.thn ?_
      refine WC.seq ?_
      refine WC.reg ?_
      refine WL.v (Runs.assign rfl) rfl ?_
      refine WL.nil ?_
      refine WN.thn ?_
      refine WC.ret ?_
      exact ret1 rfl rfl ⟨rfl, hL⟩
set_option maxRecDepth 100000 in
set_option maxHeartbeats 4000000 in
theorem told_c {W : World} {F : Snap} {cs : List Res} (w : World) {A : Option Addr} {cap : Nat} {xs : List Ent} (h : St W F cs w) (hA : RdS KEn F A xs) (hn : xs.length ≤ 1000000) : Calls Try.prog 20 #[.slice A xs.length cap] w fun e w' => ∃ G B cap2, Le F G ∧ e = .returned (.slice B xs.length cap2) ∧ RdS KEn G B xs ∧ St W G cs w'  := by
  refine enter (P := Try.prog) (args := [.slice A xs.length cap]) Try.func20 rfl rfl rfl ?_
  refine WC.seq ?_
  refine WC.reg ?_
  refine WL.v (Runs.assign rfl) rfl ?_
  refine WL.nil ?_
  refine WN.thn ?_
  refine WC.seq ?_
  refine WC.reg ?_
  refine WL.v (Runs.assign rfl) rfl ?_
  refine WL.nil ?_
  refine WN.thn ?_
  refine WC.seq ?_
  refine WC.seq ?_
  refine WC.reg ?_
  refine WL.v (Runs.assign rfl) rfl ?_
  refine WL.nil ?_
  refine WN.thn ?_
  refine WC.block ?_
  refine WC.loop (σ := Nat × Res × Value) (fun q_ => [(0, .slice A xs.length cap), (3, q_.2.2), (4, .int .i64 (q_.1 : Int))]) (fun q_ w => q_.1 ≤ xs.length ∧ RowM 45 2 entC q_.2.1 q_.2.2 (xs.take q_.1) ∧ St W F (q_.2.1 :: cs) w) (fun q_ => xs.length - q_.1) (⟨0, [], .slice none 0 0⟩) (by repeat (first | exact trivial | refine ⟨rfl, ?_⟩)) (⟨Nat.zero_le _, RowM.nil _ _ _, h.nilRes⟩) ?_
  rintro ⟨i, r, v⟩ w1 ⟨hi, hro, hL⟩
  try dsimp only at hi hro hL
  refine WC.sub (s := [(0, .slice A xs.length cap), (3, v), (4, .int .i64 (i : Int))]) (by repeat (first | exact trivial | refine ⟨rfl, ?_⟩)) ?_
  obtain ⟨B, capr, rfl, hcap⟩ := hro.val
  have htl : (xs.take i).length = i := by rw [List.length_take]; omega
  refine WC.seq ?_
  refine WC.seq ?_
  refine WC.reg ?_
  refine WL.v (Runs.move rfl) rfl ?_
  refine WL.v (Runs.move rfl) rfl ?_
  refine WL.v (Runs.intT (n := (xs.length : Int)) (Runs.llen Try.underlying32 rfl rfl) rfl) rfl ?_
  refine WL.v (Runs.lss rfl rfl) rfl ?_
  refine WL.nil ?_
  refine WN.thn ?_
  refine WC.cond rfl (fun c2 => ?_) (fun c2 => ?_)
  · try simp only [decide_eq_true_eq, decide_eq_false_iff_not, Bool.not_eq_true', Bool.not_eq_false', Bool.and_eq_true, Int.not_lt, Int.not_le] at c2
    first
    | (exfalso; omega)
    | skip
      refine WC.skip ?_
      refine WN.thn ?_
      refine WC.seq ?_
      refine WC.block ?_
      obtain ⟨a1, rfl, hen⟩ := ent_at hA (n := i) (by omega)
      refine WC.eregO hL (fun s_ => ([12, 13] : List Nat).any (Nat.beq s_)) mixed (by kernel_rfl) (fun hx => ?_)
      intro w3 h3
      refine WE.pure (g := none) hx 0 (by rfl) trivial (by kernel_rfl) (by kernel_rfl) (by kernel_rfl) (by kernel_rfl) (fun w_ => Runs.move rfl) rfl ?_
      refine WE.pure (g := none) hx 1 (by rfl) trivial (by kernel_rfl) (by kernel_rfl) (by kernel_rfl) (by kernel_rfl) (fun w_ => Runs.move rfl) rfl ?_
      refine WE.pure (g := none) hx 2 (by rfl) trivial (by kernel_rfl) (by kernel_rfl) (by kernel_rfl) (by kernel_rfl) (fun w_ => Runs.move rfl) rfl ?_
      refine WE.pure (g := none) hx 3 (by rfl) trivial (by kernel_rfl) (by kernel_rfl) (by kernel_rfl) (by kernel_rfl) (fun w_ => Runs.lidxK Try.underlying32 inf50 rfl rfl (n := i) rfl (by omega)) rfl ?_
      refine WE.pure (g := none) hx 4 (by rfl) trivial (by kernel_rfl) (by kernel_rfl) (by kernel_rfl) (by kernel_rfl) (fun w_ => Runs.fld fld50_0 rfl) rfl ?_
      refine WE.pure (g := none) hx 6 (by rfl) trivial (by kernel_rfl) (by kernel_rfl) (by kernel_rfl) (by kernel_rfl) (fun w_ => Runs.move rfl) rfl ?_
      refine WE.pure (g := none) hx 7 (by rfl) trivial (by kernel_rfl) (by kernel_rfl) (by kernel_rfl) (by kernel_rfl) (fun w_ => Runs.move rfl) rfl ?_
      refine WE.pure (g := none) hx 8 (by rfl) trivial (by kernel_rfl) (by kernel_rfl) (by kernel_rfl) (by kernel_rfl) (fun w_ => Runs.lidxK Try.underlying32 inf50 rfl rfl (n := i) rfl (by omega)) rfl ?_
      refine WE.pure (g := none) hx 9 (by rfl) trivial (by kernel_rfl) (by kernel_rfl) (by kernel_rfl) (by kernel_rfl) (fun w_ => Runs.fld fld50_1 rfl) rfl ?_
      refine WE.val (g := none) 12 hx 5 (by rfl) trivial (by kernel_rfl) (by kernel_rfl) (by kernel_rfl) (by kernel_rfl) (fun w_ hE_ => Runs.load1 Try.underlying3 rfl rfl (by rw [add_add]; exact hE_.cell (hen 0 _ rfl))) rfl ?_
      refine WE.val (g := none) 12 hx 10 (by rfl) trivial (by kernel_rfl) (by kernel_rfl) (by kernel_rfl) (by kernel_rfl) (fun w_ hE_ => Runs.load1 Try.underlying9 rfl rfl (by rw [add_add]; exact hE_.cell (hen 1 _ rfl))) rfl ?_
      refine WE.pure (g := none) hx 11 (by rfl) trivial (by kernel_rfl) (by kernel_rfl) (by kernel_rfl) (by kernel_rfl) (fun w_ => Runs.build (vs := [(0, Vi (xs.getD i (0, [])).1), (1, .string (bs (xs.getD i (0, [])).2))]) (cells := #[Vi (xs.getD i (0, [])).1, .string (bs (xs.getD i (0, [])).2)]) rfl (by kernel_rfl)) rfl ?_
      refine WE.op (.inr h3) (i := 12) (by rfl) (by kernel_rfl) ?_
      refine WL.buildSlice (vs := [entA (xs.getD i (0, []))]) h3 rfl Try.underlying35 (inf45.elem rfl rfl) rfl rfl rfl (by decide) ?_
      intro lit23 w4 h4
      try simp only [List.set_cons_zero, List.set_cons_succ, List.eraseIdx_cons_zero, List.eraseIdx_cons_succ] at h4
      refine WL.nil ?_
      refine WE.next ?_
      refine WE.op (.inl ⟨12, rfl, by kernel_rfl⟩) (i := 13) (by rfl) (by kernel_rfl) ?_
      refine WL.appM (f := entC) (ys := [(xs.getD i (0, []))]) 1 h4 rfl rfl rfl rfl Try.underlying35 Try.underlying35 (.inr ⟨_, rfl⟩) (inf45.elem rfl rfl) hro (Src.litM h4 0 rfl rfl rfl) rfl (by first | omega | (simp; done) | (simp; omega)) (by first | omega | (simp; done) | (simp; omega)) ?_
      intro r5 v5 w6 hr5 h6
      simp only [List.set_cons_zero, List.set_cons_succ] at h6
      replace h6 := h6.drop 0
      simp only [List.eraseIdx_cons_zero, List.eraseIdx_cons_succ] at h6
      obtain ⟨A5, cap5, rfl, hcap5⟩ := hr5.val
      refine WL.nil ?_
      refine WE.next ?_
      refine WE.pure (g := none) hx 14 (by rfl) trivial (by kernel_rfl) (by kernel_rfl) (by kernel_rfl) (by kernel_rfl) (fun w_ => Runs.assign rfl) rfl ?_
      refine WE.fin (.inl ⟨12, rfl, by kernel_rfl⟩) (by kernel_rfl) ?_
      refine WN.blk ?_
      refine WN.thn ?_
      refine WC.reg ?_
      refine WL.v (Runs.move rfl) rfl ?_
      refine WL.v (Runs.addn rfl rfl (by omega)) rfl ?_
      refine WL.v (Runs.assign rfl) rfl ?_
      refine WL.nil ?_
      exact WN.again (⟨i + 1, _, _⟩ : Nat × Res × Value) (by show xs.length - (i + 1) < xs.length - i; omega) ⟨rfl, rfl, rfl, trivial⟩ ⟨by show i + 1 ≤ _; omega, (by show RowM 45 2 entC _ _ (xs.take (i + 1)); rw [take_ent (by omega)]; exact hr5), h6⟩
  · try simp only [decide_eq_true_eq, decide_eq_false_iff_not, Bool.not_eq_true', Bool.not_eq_false', Bool.and_eq_true, Int.not_lt, Int.not_le] at c2
    first
    | (exfalso; omega)
    | skip
      refine WC.exit ?_
      refine WX.thn ?_
      refine WX.cut ?_
      refine WX.hit ?_
      refine WN.thn ?_
      refine WC.seq ?_
      refine WC.reg ?_
      refine WL.v (Runs.move rfl) rfl ?_
      refine WL.v (Runs.assign rfl) rfl ?_
      refine WL.nil ?_
      refine WN.thn ?_
      refine WC.ret ?_
      have hii : i = xs.length := by omega
      subst hii
      rw [List.take_of_length_le (Nat.le_refl _)] at hro htl
      obtain ⟨G2, h91, h92, h93⟩ := hL.freeze (i := 0) rfl
      exact ret1 rfl rfl ⟨G2, B, capr, h91, by rw [List.take_of_length_le (Nat.le_refl _)], RowM.read (f := entC) (m := 2) (fun _ => rfl) hro rfl h92, h93⟩
end Jo
end Go.Proofs.Ythjcfhfbaeokeaa
