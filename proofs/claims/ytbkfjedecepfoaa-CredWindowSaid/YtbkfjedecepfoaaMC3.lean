/- The bytes of a credential. -/
import Derived.Test.YtbkfjedecepfoaaMC2
namespace Go.Proofs.Ytbkfjedecepfoaa
open Go Go.RowKit B
set_option linter.unusedVariables false
set_option linter.unusedSimpArgs false
namespace Cr
open Wir (Vi mayN numB listB)

theorem inf24 : Inf Try.prog 24 (.agg #[.int .i64 0, .int .i64 0, .int .i64 0, .int .i64 0, .int .i64 0, .slice none 0 0, .int .i64 0]) 7 72 := by unfold Inf; kernel_rfl
theorem can12 : B.Can Try.prog 12 := ⟨_, Try.func12, by kernel_rfl, rfl⟩   -- roundhouse/cred.Check
theorem can13 : B.Can Try.prog 13 := ⟨_, Try.func13, by kernel_rfl, rfl⟩   -- roundhouse/roundhouseref06.Check
theorem can35 : B.Can Try.prog 35 := ⟨_, Try.func35, by kernel_rfl, rfl⟩   -- roundhouse/wire.Num
theorem can36 : B.Can Try.prog 36 := ⟨_, Try.func36, by kernel_rfl, rfl⟩   -- roundhouse/wire.List
theorem can37 : B.Can Try.prog 37 := ⟨_, Try.func37, by kernel_rfl, rfl⟩   -- roundhouse/roundhouseref02.Num
theorem can38 : B.Can Try.prog 38 := ⟨_, Try.func38, by kernel_rfl, rfl⟩   -- roundhouse/roundhouseref02.List
def numsC (c : C) : List Int := [c.jb, c.ep, c.st, c.fr, c.un, c.co]
def encC (c : C) : List UInt8 := if okC c then (numsC c).flatMap numB ++ listB c.nd else []
theorem encC_y {c : C} (h : okC c) : encC c = (numsC c).flatMap numB ++ listB c.nd := if_pos h
theorem encC_n {c : C} (h : ¬ okC c) : encC c = [] := if_neg h
theorem nums_at (c : C) {k : Nat} (hk : k < 6) : (#[Vi c.jb, Vi c.ep, Vi c.st, Vi c.fr, Vi c.un, Vi c.co])[k]? = some (Vi ((numsC c).getD k 0)) := by
  have : k = 0 ∨ k = 1 ∨ k = 2 ∨ k = 3 ∨ k = 4 ∨ k = 5 := by omega
  rcases this with rfl | rfl | rfl | rfl | rfl | rfl <;> rfl
theorem list_len (xs : List Int) : (listB xs).length ≤ 7 + 7 * xs.length := by
  unfold Wir.listB
  have h1 := Wir.numB_len (xs.length : Int)
  have h2 := Wir.flat_len xs
  split
  · simp
  · split
    · rw [List.length_append]; omega
    · simp
theorem encC_len {c : C} : (encC c).length ≤ 200 := by
  by_cases h : okC c
  · rw [encC_y h, List.length_append]
    have h1 := list_len c.nd
    have h2 := Wir.flat_len (numsC c)
    have h3 := nodes_len h.2.2.2.2.2.2
    have h4 : (numsC c).length = 6 := rfl
    omega
  · rw [encC_n h]; exact Nat.zero_le _
theorem enc_six (c : C) : (numsC c).flatMap numB = numB c.jb ++ (numB c.ep ++ (numB c.st ++ (numB c.fr ++ (numB c.un ++ numB c.co)))) := by
  simp [numsC]
theorem chk_0 {c : C} : checkM c = 0 ↔ okC c := by
  unfold checkM
  by_cases h : okC c
  · rw [if_pos h]; simp [h]
  · rw [if_neg h]; simp [h]
set_option maxRecDepth 100000 in
set_option maxHeartbeats 4000000 in
theorem encode_c {W : World} {F : Snap} {cs : List Res} (w : World) {A : Option Addr} {cap : Nat} {c : C} (h : St W F cs w) (hR : RdS (Kd.one Vi) F A c.nd) (hn : c.nd.length ≤ 100000) : Calls Try.prog 14 #[.agg #[Vi c.jb, Vi c.ep, Vi c.st, Vi c.fr, Vi c.un, .slice A c.nd.length cap, Vi c.co]] w fun r w' => r = .returned (.string (bs (encC c))) ∧ St W F cs w'  := by
  refine enter (P := Try.prog) (args := [.agg #[Vi c.jb, Vi c.ep, Vi c.st, Vi c.fr, Vi c.un, .slice A c.nd.length cap, Vi c.co]]) Try.func14 rfl rfl rfl ?_
  refine WC.seq ?_
  refine WC.reg ?_
  refine WL.box rfl h rfl ?_
  intro b1 w1 h1
  refine WL.v (Runs.assign rfl) rfl ?_
  refine WL.nil ?_
  refine WN.thn ?_
  refine WC.seq ?_
  refine WC.seq ?_
  refine WC.reg ?_
  refine WL.v (Runs.loadAll h1 0 rfl Try.underlying24 rfl inf24 rfl rfl) rfl ?_
  refine WL.call can12 rfl rfl (check_c _ h1 hR (by omega)) ?_
  rintro _ w2 ⟨rfl, h2⟩
  refine ⟨_, rfl, ?_⟩
  refine WL.v (Runs.neq rfl rfl) rfl ?_
  refine WL.nil ?_
  refine WN.thn ?_
  refine WC.cond rfl (fun c3 => ?_) (fun c3 => ?_)
  · try simp only [decide_eq_true_eq, decide_eq_false_iff_not, Bool.not_eq_true', Bool.not_eq_false', Bool.and_eq_true, Int.not_lt, Int.not_le] at c3
    first
    | (exfalso; omega)
    | skip
      refine WC.seq ?_
      refine WC.reg ?_
      refine WL.v (Runs.assign rfl) rfl ?_
      refine WL.nil ?_
      refine WN.thn ?_
      refine WC.ret ?_
      refine ret1 rfl rfl ⟨?_, h2.drop 0⟩
      rw [encC_n (fun hh => c3 (chk_0.2 hh))]; rfl
  · try simp only [decide_eq_true_eq, decide_eq_false_iff_not, Bool.not_eq_true', Bool.not_eq_false', Bool.and_eq_true, Int.not_lt, Int.not_le] at c3
    first
    | (exfalso; omega)
    | skip
      refine WC.skip ?_
      refine WN.thn ?_
      refine WC.seq ?_
      refine WC.reg ?_
      refine WL.v (Runs.assign rfl) rfl ?_
      refine WL.nil ?_
      refine WN.thn ?_
      refine WC.seq ?_
      refine WC.seq ?_
      refine WC.reg ?_
      refine WL.v (Runs.fld fld24_0 rfl) rfl ?_
      refine WL.v (Runs.load1 Try.underlying3 rfl rfl (h2.ocell (i := 0) rfl rfl)) rfl ?_
      refine WL.v (Runs.fld fld24_1 rfl) rfl ?_
      refine WL.v (Runs.load1 Try.underlying3 rfl rfl (h2.ocell (i := 0) rfl rfl)) rfl ?_
      refine WL.v (Runs.fld fld24_2 rfl) rfl ?_
      refine WL.v (Runs.load1 Try.underlying3 rfl rfl (h2.ocell (i := 0) rfl rfl)) rfl ?_
      refine WL.v (Runs.fld fld24_3 rfl) rfl ?_
      refine WL.v (Runs.load1 Try.underlying3 rfl rfl (h2.ocell (i := 0) rfl rfl)) rfl ?_
      refine WL.v (Runs.fld fld24_4 rfl) rfl ?_
      refine WL.v (Runs.load1 Try.underlying3 rfl rfl (h2.ocell (i := 0) rfl rfl)) rfl ?_
      refine WL.v (Runs.fld fld24_6 rfl) rfl ?_
      refine WL.v (Runs.load1 Try.underlying3 rfl rfl (h2.ocell (i := 0) rfl rfl)) rfl ?_
      refine WL.v (Runs.build (vs := [(0, Vi c.jb), (1, Vi c.ep), (2, Vi c.st), (3, Vi c.fr), (4, Vi c.un), (5, Vi c.co)]) (cells := #[Vi c.jb, Vi c.ep, Vi c.st, Vi c.fr, Vi c.un, Vi c.co]) rfl (by kernel_rfl)) rfl ?_
      refine WL.v (Runs.move rfl) rfl ?_
      refine WL.nil ?_
      refine WN.thn ?_
      refine WC.block ?_
      refine WC.loop (σ := Nat) (fun q_ => [(1, .pointer (some ⟨b1, 0, none⟩)), (3, .string (bs (((numsC c).take q_).flatMap numB))), (21, .agg #[Vi c.jb, Vi c.ep, Vi c.st, Vi c.fr, Vi c.un, Vi c.co]), (22, .int .i64 (q_ : Int))]) (fun q_ w => q_ ≤ 6 ∧ St W F ([(b1, .cells #[Vi c.jb, Vi c.ep, Vi c.st, Vi c.fr, Vi c.un, .slice A c.nd.length cap, Vi c.co] 24 (0, 0))] :: cs) w) (fun q_ => 6 - q_) (0) (by repeat (first | exact trivial | refine ⟨rfl, ?_⟩)) (⟨Nat.zero_le _, h2⟩) ?_
      rintro k w4 ⟨hk, hL⟩
      try dsimp only at hk hL
      refine WC.sub (s := [(1, .pointer (some ⟨b1, 0, none⟩)), (3, .string (bs (((numsC c).take k).flatMap numB))), (21, .agg #[Vi c.jb, Vi c.ep, Vi c.st, Vi c.fr, Vi c.un, Vi c.co]), (22, .int .i64 (k : Int))]) (by repeat (first | exact trivial | refine ⟨rfl, ?_⟩)) ?_
      have hfl := Wir.flat_len ((numsC c).take k)
      rw [List.length_take, show (numsC c).length = 6 from rfl] at hfl
      refine WC.seq ?_
      refine WC.reg ?_
      refine WL.v (Runs.lss rfl rfl) rfl ?_
      refine WL.nil ?_
      refine WN.thn ?_
      refine WC.seq ?_
      refine WC.cond rfl (fun c5 => ?_) (fun c5 => ?_)
      · try simp only [decide_eq_true_eq, decide_eq_false_iff_not, Bool.not_eq_true', Bool.not_eq_false', Bool.and_eq_true, Int.not_lt, Int.not_le] at c5
        first
        | (exfalso; omega)
        | skip
          refine WC.skip ?_
          refine WN.thn ?_
          refine WC.seq ?_
          refine WC.block ?_
          refine WC.seq ?_
          refine WC.reg ?_
          refine WL.v (Runs.intT (n := (numsC c).getD k 0) (Runs.aggIdx Try.underlying59 Try.underlying3 rfl inf3 rfl rfl (n := k) rfl (by omega) (u := Vi ((numsC c).getD k 0)) (nums_at c (by omega))) rfl) rfl ?_
          refine WL.v (Runs.assign rfl) rfl ?_
          refine WL.nil ?_
          refine WN.thn ?_
          refine WC.reg ?_
          refine WL.v (Runs.move rfl) rfl ?_
          refine WL.v (Runs.move rfl) rfl ?_
          refine WL.call can35 rfl rfl (Wir.wnum_c _ _ hL) ?_
          rintro _ w6 ⟨rfl, h6⟩
          refine ⟨_, rfl, ?_⟩
          refine WL.v (Runs.lsadd rfl rfl (by have := Wir.numB_len ((numsC c).getD k 0); omega)) rfl ?_
          refine WL.v (Runs.assign rfl) rfl ?_
          refine WL.nil ?_
          refine WN.blk ?_
          refine WN.thn ?_
          refine WC.reg ?_
          refine WL.v (Runs.addn rfl rfl (by omega)) rfl ?_
          refine WL.v (Runs.move rfl) rfl ?_
          refine WL.nil ?_
          exact WN.again (k + 1) (by omega) ⟨rfl, (by show some (Value.string _) = some (Value.string _); rw [Wir.flat_take (by show k < 6; omega)]), rfl, rfl, trivial⟩ ⟨by omega, h6⟩
      · try simp only [decide_eq_true_eq, decide_eq_false_iff_not, Bool.not_eq_true', Bool.not_eq_false', Bool.and_eq_true, Int.not_lt, Int.not_le] at c5
        first
        | (exfalso; omega)
        | skip
          refine WC.exit ?_
          refine WX.thn ?_
          refine WX.cut ?_
          refine WX.hit ?_
          refine WN.thn ?_
          refine WC.seq ?_
          refine WC.reg ?_
          refine WL.v (Runs.move rfl) rfl ?_
          refine WL.v (Runs.fld fld24_5 rfl) rfl ?_
          refine WL.v (Runs.load1 Try.underlying22 rfl rfl (hL.ocell (i := 0) rfl rfl)) rfl ?_
          refine WL.call can36 rfl rfl (Wir.wlist_c _ hL hR hn) ?_
          rintro _ w7 ⟨rfl, h7⟩
          refine ⟨_, rfl, ?_⟩
          refine WL.v (Runs.lsadd rfl rfl (by have := list_len c.nd; omega)) rfl ?_
          refine WL.v (Runs.assign rfl) rfl ?_
          refine WL.nil ?_
          refine WN.thn ?_
          refine WC.ret ?_
          obtain rfl : k = 6 := by omega
          refine ret1 rfl rfl ⟨?_, h7.drop 0⟩
          rw [encC_y (chk_0.1 (by simpa using c3))]; rfl
set_option maxRecDepth 100000 in
set_option maxHeartbeats 4000000 in
theorem qencode_c {W : World} {F : Snap} {cs : List Res} (w : World) {A : Option Addr} {cap : Nat} {c : C} (h : St W F cs w) (hR : RdS (Kd.one Vi) F A c.nd) (hn : c.nd.length ≤ 100000) : Calls Try.prog 15 #[.agg #[Vi c.jb, Vi c.ep, Vi c.st, Vi c.fr, Vi c.un, .slice A c.nd.length cap, Vi c.co]] w fun r w' => r = .returned (.string (bs (encC c))) ∧ St W F cs w'  := by
  refine enter (P := Try.prog) (args := [.agg #[Vi c.jb, Vi c.ep, Vi c.st, Vi c.fr, Vi c.un, .slice A c.nd.length cap, Vi c.co]]) Try.func15 rfl rfl rfl ?_
  refine WC.seq ?_
  refine WC.reg ?_
  refine WL.box rfl h rfl ?_
  intro b1 w1 h1
  refine WL.v (Runs.assign rfl) rfl ?_
  refine WL.nil ?_
  refine WN.thn ?_
  refine WC.seq ?_
  refine WC.seq ?_
  refine WC.reg ?_
  refine WL.v (Runs.loadAll h1 0 rfl Try.underlying24 rfl inf24 rfl rfl) rfl ?_
  refine WL.call can13 rfl rfl (qcheck_c _ h1 hR (by omega)) ?_
  rintro _ w2 ⟨rfl, h2⟩
  refine ⟨_, rfl, ?_⟩
  refine WL.v (Runs.neq rfl rfl) rfl ?_
  refine WL.nil ?_
  refine WN.thn ?_
  refine WC.cond rfl (fun c3 => ?_) (fun c3 => ?_)
  · try simp only [decide_eq_true_eq, decide_eq_false_iff_not, Bool.not_eq_true', Bool.not_eq_false', Bool.and_eq_true, Int.not_lt, Int.not_le] at c3
    first
    | (exfalso; omega)
    | skip
      refine WC.seq ?_
      refine WC.reg ?_
      refine WL.v (Runs.assign rfl) rfl ?_
      refine WL.nil ?_
      refine WN.thn ?_
      refine WC.ret ?_
      refine ret1 rfl rfl ⟨?_, h2.drop 0⟩
      rw [encC_n (fun hh => c3 (chk_0.2 hh))]; rfl
  · try simp only [decide_eq_true_eq, decide_eq_false_iff_not, Bool.not_eq_true', Bool.not_eq_false', Bool.and_eq_true, Int.not_lt, Int.not_le] at c3
    first
    | (exfalso; omega)
    | skip
      refine WC.skip ?_
      refine WN.thn ?_
      refine WC.seq ?_
      refine WC.qreg (C := fun w_ => St W F _ w_) mixed (by kernel_rfl) (h2.drew) ?_
      refine WQ.val (fun w_ hC_ => Runs.fld fld24_0 rfl) rfl ?_
      refine WQ.val (fun w_ hC_ => Runs.load1 Try.underlying3 rfl rfl (hC_.ocell (i := 0) rfl rfl)) rfl ?_
      refine WQ.call can37 rfl rfl (fun w_ hC_ => Wir.rnum_c _ _ hC_) ?_
      refine WQ.val (fun w_ hC_ => Runs.fld fld24_1 rfl) rfl ?_
      refine WQ.val (fun w_ hC_ => Runs.load1 Try.underlying3 rfl rfl (hC_.ocell (i := 0) rfl rfl)) rfl ?_
      refine WQ.call can37 rfl rfl (fun w_ hC_ => Wir.rnum_c _ _ hC_) ?_
      refine WQ.val (fun w_ hC_ => Runs.lsadd rfl rfl (by have := Wir.numB_len c.jb; have := Wir.numB_len c.ep; omega)) rfl ?_
      refine WQ.val (fun w_ hC_ => Runs.fld fld24_2 rfl) rfl ?_
      refine WQ.val (fun w_ hC_ => Runs.load1 Try.underlying3 rfl rfl (hC_.ocell (i := 0) rfl rfl)) rfl ?_
      refine WQ.call can37 rfl rfl (fun w_ hC_ => Wir.rnum_c _ _ hC_) ?_
      refine WQ.val (fun w_ hC_ => Runs.lsadd rfl rfl (by have := Wir.numB_len c.jb; have := Wir.numB_len c.ep; have := Wir.numB_len c.st; have := Wir.numB_len c.fr; have := Wir.numB_len c.un; have := Wir.numB_len c.co; have := list_len c.nd; simp only [List.length_append]; omega)) rfl ?_
      refine WQ.val (fun w_ hC_ => Runs.assign rfl) rfl ?_
      refine WQ.fin ?_
      intro w4 h4
      refine WN.thn ?_
      refine WC.seq ?_
      refine WC.qreg (C := fun w_ => St W F _ w_) mixed (by kernel_rfl) (h4.drew) ?_
      refine WQ.val (fun w_ hC_ => Runs.move rfl) rfl ?_
      refine WQ.val (fun w_ hC_ => Runs.fld fld24_3 rfl) rfl ?_
      refine WQ.val (fun w_ hC_ => Runs.load1 Try.underlying3 rfl rfl (hC_.ocell (i := 0) rfl rfl)) rfl ?_
      refine WQ.call can37 rfl rfl (fun w_ hC_ => Wir.rnum_c _ _ hC_) ?_
      refine WQ.val (fun w_ hC_ => Runs.lsadd rfl rfl (by have := Wir.numB_len c.jb; have := Wir.numB_len c.ep; have := Wir.numB_len c.st; have := Wir.numB_len c.fr; have := Wir.numB_len c.un; have := Wir.numB_len c.co; have := list_len c.nd; simp only [List.length_append]; omega)) rfl ?_
      refine WQ.val (fun w_ hC_ => Runs.fld fld24_4 rfl) rfl ?_
      refine WQ.val (fun w_ hC_ => Runs.load1 Try.underlying3 rfl rfl (hC_.ocell (i := 0) rfl rfl)) rfl ?_
      refine WQ.call can37 rfl rfl (fun w_ hC_ => Wir.rnum_c _ _ hC_) ?_
      refine WQ.val (fun w_ hC_ => Runs.lsadd rfl rfl (by have := Wir.numB_len c.jb; have := Wir.numB_len c.ep; have := Wir.numB_len c.st; have := Wir.numB_len c.fr; have := Wir.numB_len c.un; have := Wir.numB_len c.co; have := list_len c.nd; simp only [List.length_append]; omega)) rfl ?_
      refine WQ.val (fun w_ hC_ => Runs.fld fld24_6 rfl) rfl ?_
      refine WQ.val (fun w_ hC_ => Runs.load1 Try.underlying3 rfl rfl (hC_.ocell (i := 0) rfl rfl)) rfl ?_
      refine WQ.call can37 rfl rfl (fun w_ hC_ => Wir.rnum_c _ _ hC_) ?_
      refine WQ.val (fun w_ hC_ => Runs.lsadd rfl rfl (by have := Wir.numB_len c.jb; have := Wir.numB_len c.ep; have := Wir.numB_len c.st; have := Wir.numB_len c.fr; have := Wir.numB_len c.un; have := Wir.numB_len c.co; have := list_len c.nd; simp only [List.length_append]; omega)) rfl ?_
      refine WQ.val (fun w_ hC_ => Runs.fld fld24_5 rfl) rfl ?_
      refine WQ.val (fun w_ hC_ => Runs.load1 Try.underlying22 rfl rfl (hC_.ocell (i := 0) rfl rfl)) rfl ?_
      refine WQ.call can38 rfl rfl (fun w_ hC_ => Wir.rlist_c _ hC_ hR hn) ?_
      refine WQ.val (fun w_ hC_ => Runs.lsadd rfl rfl (by have := Wir.numB_len c.jb; have := Wir.numB_len c.ep; have := Wir.numB_len c.st; have := Wir.numB_len c.fr; have := Wir.numB_len c.un; have := Wir.numB_len c.co; have := list_len c.nd; simp only [List.length_append]; omega)) rfl ?_
      refine WQ.val (fun w_ hC_ => Runs.assign rfl) rfl ?_
      refine WQ.fin ?_
      intro w5 h5
      refine WN.thn ?_
      refine WC.ret ?_
      refine ret1 rfl rfl ⟨?_, h5.drop 0⟩
      rw [encC_y (chk_0.1 (by simpa using c3)), enc_six]
      simp only [List.append_assoc]
end Cr
end Go.Proofs.Ytbkfjedecepfoaa
