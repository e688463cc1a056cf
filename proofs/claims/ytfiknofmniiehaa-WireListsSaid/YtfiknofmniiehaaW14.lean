/- Walks of the reference of chapter 02: what it writes. -/
import Derived.Test.YtfiknofmniiehaaW10
import Derived.Test.YtfiknofmniiehaaW12
namespace Go.Proofs.Ytfiknofmniiehaa
open Go Go.RowKit B
set_option linter.unusedVariables false
set_option linter.unusedSimpArgs false
namespace Wir

theorem can11 : B.Can Try.prog 11 := ⟨_, Try.func11, by kernel_rfl, rfl⟩   -- roundhouse/roundhouseref02.Num
theorem can13 : B.Can Try.prog 13 := ⟨_, Try.func13, by kernel_rfl, rfl⟩   -- roundhouse/roundhouseref02.Text
theorem can31 : B.Can Try.prog 31 := ⟨_, Try.func31, by kernel_rfl, rfl⟩   -- roundhouse/roundhouseref02.high
theorem can35 : B.Can Try.prog 35 := ⟨_, Try.func35, by kernel_rfl, rfl⟩   -- roundhouse/roundhouseref02.May
theorem conj11 (P0 P1 P2 P3 P4 P5 P6 P7 P8 P9 P10 : Prop) : (¬ P0) ∨ (P0 ∧ ¬ P1) ∨ (P0 ∧ P1 ∧ ¬ P2) ∨ (P0 ∧ P1 ∧ P2 ∧ ¬ P3) ∨ (P0 ∧ P1 ∧ P2 ∧ P3 ∧ ¬ P4) ∨ (P0 ∧ P1 ∧ P2 ∧ P3 ∧ P4 ∧ ¬ P5) ∨ (P0 ∧ P1 ∧ P2 ∧ P3 ∧ P4 ∧ P5 ∧ ¬ P6) ∨ (P0 ∧ P1 ∧ P2 ∧ P3 ∧ P4 ∧ P5 ∧ P6 ∧ ¬ P7) ∨ (P0 ∧ P1 ∧ P2 ∧ P3 ∧ P4 ∧ P5 ∧ P6 ∧ P7 ∧ ¬ P8) ∨ (P0 ∧ P1 ∧ P2 ∧ P3 ∧ P4 ∧ P5 ∧ P6 ∧ P7 ∧ P8 ∧ ¬ P9) ∨ (P0 ∧ P1 ∧ P2 ∧ P3 ∧ P4 ∧ P5 ∧ P6 ∧ P7 ∧ P8 ∧ P9 ∧ ¬ P10) ∨ (P0 ∧ P1 ∧ P2 ∧ P3 ∧ P4 ∧ P5 ∧ P6 ∧ P7 ∧ P8 ∧ P9 ∧ P10) := by
  by_cases h0 : P0
  rotate_left
  · exact .inl h0
  by_cases h1 : P1
  rotate_left
  · exact .inr (.inl ⟨h0, h1⟩)
  by_cases h2 : P2
  rotate_left
  · exact .inr (.inr (.inl ⟨h0, h1, h2⟩))
  by_cases h3 : P3
  rotate_left
  · exact .inr (.inr (.inr (.inl ⟨h0, h1, h2, h3⟩)))
  by_cases h4 : P4
  rotate_left
  · exact .inr (.inr (.inr (.inr (.inl ⟨h0, h1, h2, h3, h4⟩))))
  by_cases h5 : P5
  rotate_left
  · exact .inr (.inr (.inr (.inr (.inr (.inl ⟨h0, h1, h2, h3, h4, h5⟩)))))
  by_cases h6 : P6
  rotate_left
  · exact .inr (.inr (.inr (.inr (.inr (.inr (.inl ⟨h0, h1, h2, h3, h4, h5, h6⟩))))))
  by_cases h7 : P7
  rotate_left
  · exact .inr (.inr (.inr (.inr (.inr (.inr (.inr (.inl ⟨h0, h1, h2, h3, h4, h5, h6, h7⟩)))))))
  by_cases h8 : P8
  rotate_left
  · exact .inr (.inr (.inr (.inr (.inr (.inr (.inr (.inr (.inl ⟨h0, h1, h2, h3, h4, h5, h6, h7, h8⟩))))))))
  by_cases h9 : P9
  rotate_left
  · exact .inr (.inr (.inr (.inr (.inr (.inr (.inr (.inr (.inr (.inl ⟨h0, h1, h2, h3, h4, h5, h6, h7, h8, h9⟩)))))))))
  by_cases h10 : P10
  rotate_left
  · exact .inr (.inr (.inr (.inr (.inr (.inr (.inr (.inr (.inr (.inr (.inl ⟨h0, h1, h2, h3, h4, h5, h6, h7, h8, h9, h10⟩))))))))))
  exact .inr (.inr (.inr (.inr (.inr (.inr (.inr (.inr (.inr (.inr (.inr ⟨h0, h1, h2, h3, h4, h5, h6, h7, h8, h9, h10⟩))))))))))
theorem one_el {c b : UInt8} {j : Nat} (h : [c][j]? = some b) : (([c] : List UInt8).map V8).toArray[j]? = some (V8 b) := by
  rcases j with _ | j
  · have : c = b := by simpa using h
    subst this; rfl
  · simp at h
theorem numB_nil {n : Int} : numB n ≠ [] ↔ mayN n := by
  constructor
  · intro h
    by_cases hn : mayN n
    · exact hn
    · exact absurd (by unfold numB; rw [if_neg hn]) h
  · exact numB_ne
theorem may_eq (m : M) : (0 ≤ m.k ∧ m.k ≤ 9 ∧ -1 ≤ m.f ∧ m.f ≤ 15 ∧ -1 ≤ m.t ∧ m.t ≤ 15 ∧ numB m.j ≠ [] ∧ numB m.ep ≠ [] ∧ numB m.st ≠ [] ∧ numB m.ar ≠ [] ∧ (m.tx.length : Int) ≤ 4096) ↔ mayM m := by
  simp only [numB_nil]
  unfold mayM
  constructor
  · rintro ⟨q0, q1, q2, q3, q4, q5, q6, q7, q8, q9, q10⟩
    exact ⟨q0, by omega, ⟨q2, by omega⟩, ⟨q4, by omega⟩, q6, q7, q8, q9, q10⟩
  · rintro ⟨q0, q1, q2, q3, q4, q5, q6, q7, q8⟩
    exact ⟨q0, by omega, q2.1, by omega, q3.1, by omega, q4, q5, q6, q7, q8⟩
set_option maxRecDepth 100000 in
set_option maxHeartbeats 1000000 in
theorem high_c {W : World} {F : Snap} {cs : List Res} (w : World) (m : Nat) (h : St W F cs w) (hm : m ≤ 1099511627776) : Calls Try.prog 31 #[Vi (m : Int)] w fun r w' => r = .returned (.string (bs (hi m))) ∧ St W F cs w'  := by
  refine enter (P := Try.prog) (args := [Vi (m : Int)]) Try.func31 rfl rfl rfl ?_
  refine WC.seq ?_
  refine WC.reg ?_
  refine WL.v (Runs.assign rfl) rfl ?_
  refine WL.nil ?_
  refine WN.thn ?_
  refine WC.seq ?_
  refine WC.reg ?_
  refine WL.v (Runs.assign rfl) rfl ?_
  refine WL.nil ?_
  refine WN.thn ?_
  refine WC.seq ?_
  refine WC.block ?_
  refine WC.loop (σ := Nat × List UInt8) (fun q_ => [(0, Vi (q_.1 : Int)), (3, .string (bs q_.2))]) (fun q_ w => q_.1 ≤ m ∧ hi m = hi q_.1 ++ q_.2 ∧ q_.2.length ≤ (hi m).length ∧ St W F cs w) (fun q_ => q_.1) (⟨m, []⟩) (by repeat (first | exact trivial | refine ⟨rfl, ?_⟩)) (⟨Nat.le_refl _, by simp, by simp, h⟩) ?_
  rintro ⟨n, s⟩ w1 ⟨hn, he, hs, hL⟩
  try dsimp only at hn he hs hL
  refine WC.sub (s := [(0, Vi (n : Int)), (3, .string (bs s))]) (by repeat (first | exact trivial | refine ⟨rfl, ?_⟩)) ?_
  refine WC.seq ?_
  refine WC.seq ?_
  refine WC.reg ?_
  refine WL.v (Runs.move rfl) rfl ?_
  refine WL.v (Runs.gtr rfl rfl) rfl ?_
  refine WL.nil ?_
  refine WN.thn ?_
  refine WC.cond rfl (fun c2 => ?_) (fun c2 => ?_)
  · try simp only [decide_eq_true_eq, decide_eq_false_iff_not, Bool.not_eq_true', Bool.not_eq_false', Bool.and_eq_true, Int.not_lt, Int.not_le] at c2
    first
    | (exfalso; omega)
    | skip
      refine WC.skip ?_
      refine WN.thn ?_
      refine WC.block ?_
      refine WC.seq ?_
      refine WC.reg ?_
      refine WL.v (Runs.move rfl) rfl ?_
      refine WL.v (Runs.remn (m := (n : Int)) (n := 256) rfl rfl (by omega) (by omega)) rfl ?_
      refine WL.v (Runs.ito8 Try.underlying3 Try.underlying5 (m := n % 256) rfl (by omega)) rfl ?_
      refine WL.lit (vs := (([UInt8.ofNat (n % 256)] : List UInt8)).map V8) hL rfl Try.underlying50 inf5 rfl rfl rfl rfl rfl ?_
      intro lit9 w3 h3
      refine WL.v (Runs.valT (u := .string (bs [UInt8.ofNat (n % 256)])) (Runs.b2s Try.underlying50 Try.underlying5 Try.underlying9 rfl rfl (bs := [UInt8.ofNat (n % 256)]) (.inr ⟨_, rfl, fun j b hb => by rw [add_mk, Nat.zero_add]; exact h3.ocell (i := 0) rfl (one_el hb)⟩)) rfl) rfl ?_
      refine WL.v (Runs.move rfl) rfl ?_
      refine WL.v (Runs.lsadd (a := [UInt8.ofNat (n % 256)]) (b := s) rfl rfl (by have := hi_six hm; simp; omega)) rfl ?_
      refine WL.v (Runs.assign rfl) rfl ?_
      refine WL.nil ?_
      refine WN.thn ?_
      refine WC.reg ?_
      refine WL.v (Runs.move rfl) rfl ?_
      refine WL.v (Runs.intT (n := ((n / 256 : Nat) : Int)) (Runs.quon (m := (n : Int)) (n := 256) rfl rfl (by omega) (by omega)) (by omega)) rfl ?_
      refine WL.v (Runs.assign rfl) rfl ?_
      refine WL.nil ?_
      refine WN.blk ?_
      refine WN.again (⟨n / 256, UInt8.ofNat (n % 256) :: s⟩ : Nat × List UInt8) (by show n / 256 < n; omega) ⟨rfl, rfl, trivial⟩ ⟨by show n / 256 ≤ m; omega, ?_, ?_, h3.drop 0⟩
      · show hi m = hi (n / 256) ++ (UInt8.ofNat (n % 256) :: s)
        rw [he, hi_s (n := n) (by omega), show UInt8.ofNat (n % 256) = UInt8.ofNat n from UInt8.toNat_inj.1 (by rw [UInt8.toNat_ofNat', UInt8.toNat_ofNat']; omega)]
        simp
      · show (UInt8.ofNat (n % 256) :: s).length ≤ _
        rw [he, hi_s (n := n) (by omega)]
        simp
  · try simp only [decide_eq_true_eq, decide_eq_false_iff_not, Bool.not_eq_true', Bool.not_eq_false', Bool.and_eq_true, Int.not_lt, Int.not_le] at c2
    first
    | (exfalso; omega)
    | skip
      refine WC.exit ?_
      refine WX.thn ?_
      refine WX.cut ?_
      refine WX.hit ?_
      refine WN.thn ?_
      refine WC.seq ?_
      refine WC.reg ?_
      refine WL.v (Runs.move rfl) rfl ?_
      refine WL.v (Runs.assign rfl) rfl ?_
      refine WL.nil ?_
      refine WN.thn ?_
      refine WC.ret ?_
      obtain rfl : n = 0 := by omega
      refine ret1 rfl rfl ⟨?_, hL⟩
      rw [he, hi_0]; rfl
set_option maxRecDepth 100000 in
set_option maxHeartbeats 1000000 in
theorem rnum_no {W : World} {F : Snap} {cs : List Res} (w : World) (n : Int) (h : St W F cs w) (hn : ¬ mayN n) : Calls Try.prog 11 #[Vi n] w fun r w' => r = .returned (.string (bs (numB n))) ∧ St W F cs w'  := by
  refine enter (P := Try.prog) (args := [Vi n]) Try.func11 rfl rfl rfl ?_
  refine WC.seq ?_
  refine WC.reg ?_
  refine WL.v (Runs.assign rfl) rfl ?_
  refine WL.nil ?_
  refine WN.thn ?_
  refine WC.seq ?_
  refine WC.seq ?_
  have hcase : n < 0 ∨ (0 ≤ n ∧ 1099511627776 < n) := by unfold mayN at hn; omega
  rcases hcase with hA | hB
  · skip
    refine WC.reg ?_
    refine WL.v (Runs.move rfl) rfl ?_
    refine WL.v (Runs.boolT (c := true) (Runs.lss rfl rfl) (by rw [decide_eq_true_eq]; omega)) rfl ?_
    refine WL.v (Runs.move rfl) rfl ?_
    refine WL.goff rfl rfl rfl rfl ?_
    refine WL.goff rfl rfl rfl rfl ?_
    refine WL.v (Runs.pick rfl rfl rfl) rfl ?_
    refine WL.nil ?_
    refine WN.thn ?_
    refine WC.condT rfl (rfl) ?_
    refine WC.seq ?_
    refine WC.reg ?_
    refine WL.v (Runs.assign rfl) rfl ?_
    refine WL.nil ?_
    refine WN.thn ?_
    refine WC.ret ?_
    refine ret1 rfl rfl ⟨?_, h⟩
    rw [numB, if_neg hn]; rfl
  · skip
    refine WC.reg ?_
    refine WL.v (Runs.move rfl) rfl ?_
    refine WL.v (Runs.boolT (c := false) (Runs.lss rfl rfl) (by rw [decide_eq_false_iff_not]; omega)) rfl ?_
    refine WL.v (Runs.move rfl) rfl ?_
    refine WL.gon rfl rfl rfl ?_
    refine WL.v (Runs.move rfl) rfl ?_
    refine WL.gon rfl rfl rfl ?_
    refine WL.v (Runs.boolT (c := true) (Runs.gtr rfl rfl) (by rw [decide_eq_true_eq]; omega)) rfl ?_
    refine WL.v (Runs.pick rfl rfl rfl) rfl ?_
    refine WL.nil ?_
    refine WN.thn ?_
    refine WC.condT rfl (rfl) ?_
    refine WC.seq ?_
    refine WC.reg ?_
    refine WL.v (Runs.assign rfl) rfl ?_
    refine WL.nil ?_
    refine WN.thn ?_
    refine WC.ret ?_
    refine ret1 rfl rfl ⟨?_, h⟩
    rw [numB, if_neg hn]; rfl
set_option maxRecDepth 100000 in
set_option maxHeartbeats 1000000 in
theorem rnum_y {W : World} {F : Snap} {cs : List Res} (w : World) (m : Nat) (h : St W F cs w) (hm : m ≤ 1099511627776) : Calls Try.prog 11 #[Vi (m : Int)] w fun r w' => r = .returned (.string (bs (numN m))) ∧ St W F cs w'  := by
  refine enter (P := Try.prog) (args := [Vi (m : Int)]) Try.func11 rfl rfl rfl ?_
  refine WC.seq ?_
  refine WC.reg ?_
  refine WL.v (Runs.assign rfl) rfl ?_
  refine WL.nil ?_
  refine WN.thn ?_
  refine WC.seq ?_
  refine WC.seq ?_
  refine WC.reg ?_
  refine WL.v (Runs.move rfl) rfl ?_
  refine WL.v (Runs.boolT (c := false) (Runs.lss rfl rfl) (by rw [decide_eq_false_iff_not]; omega)) rfl ?_
  refine WL.v (Runs.move rfl) rfl ?_
  refine WL.gon rfl rfl rfl ?_
  refine WL.v (Runs.move rfl) rfl ?_
  refine WL.gon rfl rfl rfl ?_
  refine WL.v (Runs.boolT (c := false) (Runs.gtr rfl rfl) (by rw [decide_eq_false_iff_not]; omega)) rfl ?_
  refine WL.v (Runs.pick rfl rfl rfl) rfl ?_
  refine WL.nil ?_
  refine WN.thn ?_
  refine WC.condF rfl (rfl) ?_
  refine WC.skip ?_
  refine WN.thn ?_
  refine WC.seq ?_
  refine WC.reg ?_
  refine WL.v (Runs.move rfl) rfl ?_
  refine WL.call can31 rfl rfl (high_c _ m h hm) ?_
  rintro _ w1 ⟨rfl, h1⟩
  refine ⟨_, rfl, ?_⟩
  refine WL.v (Runs.assign rfl) rfl ?_
  refine WL.nil ?_
  refine WN.thn ?_
  refine WC.seq ?_
  refine WC.reg ?_
  refine WL.v (Runs.move rfl) rfl ?_
  refine WL.v (Runs.intT (n := ((hi m).length : Int)) (Runs.slen Try.underlying9 rfl rfl) rfl) rfl ?_
  refine WL.v (Runs.ito8 Try.underlying3 Try.underlying5 (m := (hi m).length) rfl rfl) rfl ?_
  refine WL.lit (vs := (([UInt8.ofNat (hi m).length] : List UInt8)).map V8) h1 rfl Try.underlying50 inf5 rfl rfl rfl rfl rfl ?_
  intro lit15 w2 h2
  refine WL.v (Runs.valT (u := .string (bs [UInt8.ofNat (hi m).length])) (Runs.b2s Try.underlying50 Try.underlying5 Try.underlying9 rfl rfl (bs := [UInt8.ofNat (hi m).length]) (.inr ⟨_, rfl, fun j b hb => by rw [add_mk, Nat.zero_add]; exact h2.ocell (i := 0) rfl (one_el hb)⟩)) rfl) rfl ?_
  refine WL.v (Runs.move rfl) rfl ?_
  refine WL.v (Runs.lsadd (a := [UInt8.ofNat (hi m).length]) (b := hi m) rfl rfl (by have := hi_six hm; simp; omega)) rfl ?_
  refine WL.v (Runs.assign rfl) rfl ?_
  refine WL.nil ?_
  refine WN.thn ?_
  refine WC.ret ?_
  exact ret1 rfl rfl ⟨rfl, h2.drop 0⟩
theorem rnum_c {W : World} {F : Snap} {cs : List Res} (w : World) (n : Int) (h : St W F cs w) : Calls Try.prog 11 #[Vi n] w fun r w' => r = .returned (.string (bs (numB n))) ∧ St W F cs w' := by
  by_cases hn : mayN n
  · have e : n = ((n.toNat : Nat) : Int) := by have := hn.1; omega
    have h2 := hn.2
    rw [numB, if_pos hn]
    have := rnum_y w n.toNat h (by omega)
    rwa [← e] at this
  · exact rnum_no w n h hn
set_option maxRecDepth 100000 in
set_option maxHeartbeats 1000000 in
theorem rtext_c {W : World} {F : Snap} {cs : List Res} (w : World) (l : List UInt8) (h : St W F cs w) (hl : l.length ≤ 100000) : Calls Try.prog 13 #[.string (bs l)] w fun r w' => r = .returned (.string (bs (textB l))) ∧ St W F cs w'  := by
  refine enter (P := Try.prog) (args := [.string (bs l)]) Try.func13 rfl rfl rfl ?_
  refine WC.seq ?_
  refine WC.reg ?_
  refine WL.v (Runs.assign rfl) rfl ?_
  refine WL.nil ?_
  refine WN.thn ?_
  refine WC.seq ?_
  refine WC.seq ?_
  refine WC.reg ?_
  refine WL.v (Runs.move rfl) rfl ?_
  refine WL.v (Runs.intT (n := (l.length : Int)) (Runs.slen Try.underlying9 rfl rfl) rfl) rfl ?_
  refine WL.v (Runs.gtr rfl rfl) rfl ?_
  refine WL.nil ?_
  refine WN.thn ?_
  refine WC.cond rfl (fun c1 => ?_) (fun c1 => ?_)
  · try simp only [decide_eq_true_eq, decide_eq_false_iff_not, Bool.not_eq_true', Bool.not_eq_false', Bool.and_eq_true, Int.not_lt, Int.not_le] at c1
    first
    | (exfalso; omega)
    | skip
      refine WC.seq ?_
      refine WC.reg ?_
      refine WL.v (Runs.assign rfl) rfl ?_
      refine WL.nil ?_
      refine WN.thn ?_
      refine WC.ret ?_
      refine ret1 rfl rfl ⟨?_, h⟩
      unfold textB
      rw [if_pos (by omega)]; rfl
  · try simp only [decide_eq_true_eq, decide_eq_false_iff_not, Bool.not_eq_true', Bool.not_eq_false', Bool.and_eq_true, Int.not_lt, Int.not_le] at c1
    first
    | (exfalso; omega)
    | skip
      refine WC.skip ?_
      refine WN.thn ?_
      refine WC.seq ?_
      refine WC.reg ?_
      refine WL.v (Runs.move rfl) rfl ?_
      refine WL.v (Runs.intT (n := (l.length : Int)) (Runs.slen Try.underlying9 rfl rfl) rfl) rfl ?_
      refine WL.call can11 rfl rfl (rnum_c _ _ h) ?_
      rintro _ w2 ⟨rfl, h2⟩
      refine ⟨_, rfl, ?_⟩
      refine WL.v (Runs.move rfl) rfl ?_
      refine WL.v (Runs.lsadd rfl rfl (by have := numB_len (l.length : Int); omega)) rfl ?_
      refine WL.v (Runs.assign rfl) rfl ?_
      refine WL.nil ?_
      refine WN.thn ?_
      refine WC.ret ?_
      refine ret1 rfl rfl ⟨?_, h2⟩
      unfold textB
      rw [if_neg (by omega)]
set_option maxRecDepth 100000 in
set_option maxHeartbeats 1000000 in
theorem rlist_c {W : World} {F : Snap} {cs : List Res} (w : World) {A : Option Addr} {cap : Nat} {xs : List Int} (h : St W F cs w) (hR : RdS (Kd.one Vi) F A xs) (hn : xs.length ≤ 100000) : Calls Try.prog 15 #[.slice A xs.length cap] w fun r w' => r = .returned (.string (bs (listB xs))) ∧ St W F cs w'  := by
  refine enter (P := Try.prog) (args := [.slice A xs.length cap]) Try.func15 rfl rfl rfl ?_
  refine WC.seq ?_
  refine WC.reg ?_
  refine WL.v (Runs.assign rfl) rfl ?_
  refine WL.nil ?_
  refine WN.thn ?_
  refine WC.seq ?_
  refine WC.seq ?_
  refine WC.reg ?_
  refine WL.v (Runs.move rfl) rfl ?_
  refine WL.v (Runs.llen Try.underlying22 rfl rfl) rfl ?_
  refine WL.v (Runs.gtr rfl rfl) rfl ?_
  refine WL.nil ?_
  refine WN.thn ?_
  refine WC.cond rfl (fun c1 => ?_) (fun c1 => ?_)
  · try simp only [decide_eq_true_eq, decide_eq_false_iff_not, Bool.not_eq_true', Bool.not_eq_false', Bool.and_eq_true, Int.not_lt, Int.not_le] at c1
    first
    | (exfalso; omega)
    | skip
      refine WC.seq ?_
      refine WC.reg ?_
      refine WL.v (Runs.assign rfl) rfl ?_
      refine WL.nil ?_
      refine WN.thn ?_
      refine WC.ret ?_
      refine ret1 rfl rfl ⟨?_, h⟩
      unfold listB
      rw [if_pos (by omega)]; rfl
  · try simp only [decide_eq_true_eq, decide_eq_false_iff_not, Bool.not_eq_true', Bool.not_eq_false', Bool.and_eq_true, Int.not_lt, Int.not_le] at c1
    first
    | (exfalso; omega)
    | skip
      refine WC.skip ?_
      refine WN.thn ?_
      refine WC.seq ?_
      refine WC.reg ?_
      refine WL.v (Runs.move rfl) rfl ?_
      refine WL.v (Runs.llen Try.underlying22 rfl rfl) rfl ?_
      refine WL.call can11 rfl rfl (rnum_c _ _ h) ?_
      rintro _ w2 ⟨rfl, h2⟩
      refine ⟨_, rfl, ?_⟩
      refine WL.v (Runs.assign rfl) rfl ?_
      refine WL.nil ?_
      refine WN.thn ?_
      refine WC.seq ?_
      refine WC.seq ?_
      refine WC.reg ?_
      refine WL.v (Runs.assign rfl) rfl ?_
      refine WL.nil ?_
      refine WN.thn ?_
      refine WC.block ?_
      refine WC.loop (σ := Nat) (fun q_ => [(0, .slice A xs.length cap), (3, .string (bs (numB (xs.length : Int) ++ (xs.take q_).flatMap numB))), (4, .int .i64 (q_ : Int))]) (fun q_ w => q_ ≤ xs.length ∧ (∀ j, j < q_ → mayN (xs.getD j 0)) ∧ St W F cs w) (fun q_ => xs.length - q_) (0) ⟨rfl, by simp; rfl, rfl, trivial⟩ (⟨by omega, fun j hj => absurd hj (Nat.not_lt_zero _), h2⟩) ?_
      rintro k w3 ⟨hk, hok, hL⟩
      try dsimp only at hk hok hL
      refine WC.sub (s := [(0, .slice A xs.length cap), (3, .string (bs (numB (xs.length : Int) ++ (xs.take k).flatMap numB))), (4, .int .i64 (k : Int))]) (by repeat (first | exact trivial | refine ⟨rfl, ?_⟩)) ?_
      have hfl := flat_len (xs.take k)
      rw [List.length_take] at hfl
      refine WC.seq ?_
      refine WC.seq ?_
      refine WC.reg ?_
      refine WL.v (Runs.move rfl) rfl ?_
      refine WL.v (Runs.move rfl) rfl ?_
      refine WL.v (Runs.llen Try.underlying22 rfl rfl) rfl ?_
      refine WL.v (Runs.lss rfl rfl) rfl ?_
      refine WL.nil ?_
      refine WN.thn ?_
      refine WC.cond rfl (fun c4 => ?_) (fun c4 => ?_)
      · try simp only [decide_eq_true_eq, decide_eq_false_iff_not, Bool.not_eq_true', Bool.not_eq_false', Bool.and_eq_true, Int.not_lt, Int.not_le] at c4
        first
        | (exfalso; omega)
        | skip
          refine WC.skip ?_
          refine WN.thn ?_
          refine WC.seq ?_
          refine WC.block ?_
          refine WC.seq ?_
          obtain ⟨ad, rfl, hrd⟩ := rd1 hR (by omega)
          refine WC.reg ?_
          refine WL.v (Runs.move rfl) rfl ?_
          refine WL.v (Runs.move rfl) rfl ?_
          refine WL.v (Runs.lidxN Try.underlying22 inf3 rfl rfl (n := k) rfl (by omega)) rfl ?_
          refine WL.v (Runs.loadR (f := Vi) (0 : Int) hL hrd (n := k) (by omega) Try.underlying3 rfl rfl) rfl ?_
          refine WL.call can11 rfl rfl (rnum_c _ _ hL) ?_
          rintro _ w5 ⟨rfl, h5⟩
          refine ⟨_, rfl, ?_⟩
          refine WL.v (Runs.assign rfl) rfl ?_
          refine WL.nil ?_
          refine WN.thn ?_
          refine WC.seq ?_
          refine WC.seq ?_
          by_cases hmy : mayN (xs.getD k 0)
          · skip
            refine WC.reg ?_
            refine WL.v (Runs.move rfl) rfl ?_
            refine WL.v (Runs.boolT (c := false) (Runs.lseql (b := []) rfl rfl) (decide_eq_false (numB_ne hmy))) rfl ?_
            refine WL.nil ?_
            refine WN.thn ?_
            refine WC.condF rfl (rfl) ?_
            refine WC.skip ?_
            refine WN.thn ?_
            refine WC.reg ?_
            refine WL.v (Runs.move rfl) rfl ?_
            refine WL.v (Runs.move rfl) rfl ?_
            refine WL.v (Runs.lsadd rfl rfl (by have := numB_len (xs.length : Int); have := numB_len (xs.getD k 0); rw [List.length_append]; omega)) rfl ?_
            refine WL.v (Runs.assign rfl) rfl ?_
            refine WL.nil ?_
            refine WN.blk ?_
            refine WN.thn ?_
            refine WC.reg ?_
            refine WL.v (Runs.move rfl) rfl ?_
            refine WL.v (Runs.addn rfl rfl (by omega)) rfl ?_
            refine WL.v (Runs.assign rfl) rfl ?_
            refine WL.nil ?_
            refine WN.again (k + 1) (by show xs.length - (k + 1) < xs.length - k; omega) ⟨rfl, ?_, rfl, trivial⟩ ⟨by show k + 1 ≤ _; omega, fun j hj => ?_, h5⟩
            · show _ = some (Value.string (bs (numB (xs.length : Int) ++ (xs.take (k + 1)).flatMap numB)))
              rw [flat_take (by omega), ← List.append_assoc]
              rfl
            · by_cases e : j = k
              · subst e; exact hmy
              · exact hok j (by omega)
          · skip
            refine WC.reg ?_
            refine WL.v (Runs.move rfl) rfl ?_
            refine WL.v (Runs.boolT (c := true) (Runs.lseql (b := []) rfl rfl) (decide_eq_true (if_neg hmy))) rfl ?_
            refine WL.nil ?_
            refine WN.thn ?_
            refine WC.condT rfl (rfl) ?_
            refine WC.seq ?_
            refine WC.reg ?_
            refine WL.v (Runs.assign rfl) rfl ?_
            refine WL.nil ?_
            refine WN.thn ?_
            refine WC.ret ?_
            refine ret1 rfl rfl ⟨?_, h5⟩
            unfold listB
            rw [if_neg (by omega), if_neg (fun hh => hmy (hh _ (by
              rw [List.getD_eq_getElem?_getD, List.getElem?_eq_getElem (by omega)]; exact List.getElem_mem _)))]; rfl
      · try simp only [decide_eq_true_eq, decide_eq_false_iff_not, Bool.not_eq_true', Bool.not_eq_false', Bool.and_eq_true, Int.not_lt, Int.not_le] at c4
        first
        | (exfalso; omega)
        | skip
          refine WC.exit ?_
          refine WX.thn ?_
          refine WX.cut ?_
          refine WX.hit ?_
          refine WN.thn ?_
          refine WC.seq ?_
          obtain rfl : k = xs.length := by omega
          rw [List.take_of_length_le (Nat.le_refl _)] at *
          refine WC.reg ?_
          refine WL.v (Runs.move rfl) rfl ?_
          refine WL.v (Runs.assign rfl) rfl ?_
          refine WL.nil ?_
          refine WN.thn ?_
          refine WC.ret ?_
          have hall : okL xs := fun x hx => by
            obtain ⟨j, hj, e⟩ := List.getElem_of_mem hx
            have := hok j hj
            rwa [List.getD_eq_getElem?_getD, List.getElem?_eq_getElem hj, Option.getD_some, e] at this
          refine ret1 rfl rfl ⟨?_, hL⟩
          unfold listB
          rw [if_neg (by omega), if_pos hall]
set_option maxRecDepth 100000 in
set_option maxHeartbeats 8000000 in
theorem rmay_c {W : World} {F : Snap} {cs : List Res} (w : World) (m : M) (h : St W F cs w) : Calls Try.prog 35 #[m.val] w fun r w' => r = .returned (.bool (decide (mayM m))) ∧ St W F cs w'  := by
  refine enter (P := Try.prog) (args := [.agg #[Vi m.k, Vi m.f, Vi m.t, Vi m.j, Vi m.ep, Vi m.st, Vi m.ar, .string (bs m.tx)]]) Try.func35 rfl rfl rfl ?_
  refine WC.seq ?_
  refine WC.reg ?_
  refine WL.box rfl h rfl ?_
  intro b1 w1 h1
  refine WL.v (Runs.assign rfl) rfl ?_
  refine WL.nil ?_
  refine WN.thn ?_
  refine WC.seq ?_
  rcases conj11 (0 ≤ m.k) (m.k ≤ 9) (-1 ≤ m.f) (m.f ≤ 15) (-1 ≤ m.t) (m.t ≤ 15) (numB m.j ≠ []) (numB m.ep ≠ []) (numB m.st ≠ []) (numB m.ar ≠ []) ((m.tx.length : Int) ≤ 4096) with q0 | ⟨q0, q1⟩ | ⟨q0, q1, q2⟩ | ⟨q0, q1, q2, q3⟩ | ⟨q0, q1, q2, q3, q4⟩ | ⟨q0, q1, q2, q3, q4, q5⟩ | ⟨q0, q1, q2, q3, q4, q5, q6⟩ | ⟨q0, q1, q2, q3, q4, q5, q6, q7⟩ | ⟨q0, q1, q2, q3, q4, q5, q6, q7, q8⟩ | ⟨q0, q1, q2, q3, q4, q5, q6, q7, q8, q9⟩ | ⟨q0, q1, q2, q3, q4, q5, q6, q7, q8, q9, q10⟩ | ⟨q0, q1, q2, q3, q4, q5, q6, q7, q8, q9, q10⟩
  · skip
    refine WC.reg ?_
    refine WL.v (Runs.fld fld24_0 rfl) rfl ?_
    refine WL.v (Runs.load1 Try.underlying3 rfl rfl (h1.ocell (i := 0) rfl rfl)) rfl ?_
    refine WL.v (Runs.boolT (c := false) (Runs.geq rfl rfl) (decide_eq_false q0)) rfl ?_
    refine WL.v (Runs.move rfl) rfl ?_
    refine WL.goff rfl rfl rfl rfl ?_
    refine WL.goff rfl rfl rfl rfl ?_
    refine WL.goff rfl rfl rfl rfl ?_
    refine WL.v (Runs.pick rfl rfl rfl) rfl ?_
    refine WL.v (Runs.move rfl) rfl ?_
    refine WL.goff rfl rfl rfl rfl ?_
    refine WL.goff rfl rfl rfl rfl ?_
    refine WL.goff rfl rfl rfl rfl ?_
    refine WL.v (Runs.pick rfl rfl rfl) rfl ?_
    refine WL.v (Runs.move rfl) rfl ?_
    refine WL.goff rfl rfl rfl rfl ?_
    refine WL.goff rfl rfl rfl rfl ?_
    refine WL.goff rfl rfl rfl rfl ?_
    refine WL.v (Runs.pick rfl rfl rfl) rfl ?_
    refine WL.v (Runs.move rfl) rfl ?_
    refine WL.goff rfl rfl rfl rfl ?_
    refine WL.goff rfl rfl rfl rfl ?_
    refine WL.goff rfl rfl rfl rfl ?_
    refine WL.v (Runs.pick rfl rfl rfl) rfl ?_
    refine WL.v (Runs.move rfl) rfl ?_
    refine WL.goff rfl rfl rfl rfl ?_
    refine WL.goff rfl rfl rfl rfl ?_
    refine WL.goff rfl rfl rfl rfl ?_
    refine WL.v (Runs.pick rfl rfl rfl) rfl ?_
    refine WL.v (Runs.move rfl) rfl ?_
    refine WL.goff rfl rfl rfl rfl ?_
    refine WL.goff rfl rfl rfl rfl ?_
    refine WL.goff rfl rfl rfl rfl ?_
    refine WL.goff rfl rfl rfl rfl ?_
    refine WL.v (Runs.pick rfl rfl rfl) rfl ?_
    refine WL.v (Runs.move rfl) rfl ?_
    refine WL.goff rfl rfl rfl rfl ?_
    refine WL.goff rfl rfl rfl rfl ?_
    refine WL.goff rfl rfl rfl rfl ?_
    refine WL.goff rfl rfl rfl rfl ?_
    refine WL.v (Runs.pick rfl rfl rfl) rfl ?_
    refine WL.v (Runs.move rfl) rfl ?_
    refine WL.goff rfl rfl rfl rfl ?_
    refine WL.goff rfl rfl rfl rfl ?_
    refine WL.goff rfl rfl rfl rfl ?_
    refine WL.goff rfl rfl rfl rfl ?_
    refine WL.v (Runs.pick rfl rfl rfl) rfl ?_
    refine WL.v (Runs.move rfl) rfl ?_
    refine WL.goff rfl rfl rfl rfl ?_
    refine WL.goff rfl rfl rfl rfl ?_
    refine WL.goff rfl rfl rfl rfl ?_
    refine WL.goff rfl rfl rfl rfl ?_
    refine WL.v (Runs.pick rfl rfl rfl) rfl ?_
    refine WL.v (Runs.move rfl) rfl ?_
    refine WL.goff rfl rfl rfl rfl ?_
    refine WL.goff rfl rfl rfl rfl ?_
    refine WL.goff rfl rfl rfl rfl ?_
    refine WL.goff rfl rfl rfl rfl ?_
    refine WL.v (Runs.pick rfl rfl rfl) rfl ?_
    refine WL.v (Runs.assign rfl) rfl ?_
    refine WL.nil ?_
    refine WN.thn ?_
    refine WC.ret ?_
    refine ret1 rfl rfl ⟨?_, h1.drop 0⟩
    rw [decide_eq_false (fun hm => q0 ((may_eq m).2 hm).1)]; rfl
  · skip
    refine WC.reg ?_
    refine WL.v (Runs.fld fld24_0 rfl) rfl ?_
    refine WL.v (Runs.load1 Try.underlying3 rfl rfl (h1.ocell (i := 0) rfl rfl)) rfl ?_
    refine WL.v (Runs.boolT (c := true) (Runs.geq rfl rfl) (decide_eq_true q0)) rfl ?_
    refine WL.v (Runs.move rfl) rfl ?_
    refine WL.gon rfl rfl rfl ?_
    refine WL.v (Runs.fld fld24_0 rfl) rfl ?_
    refine WL.gon rfl rfl rfl ?_
    refine WL.v (Runs.load1 Try.underlying3 rfl rfl (h1.ocell (i := 0) rfl rfl)) rfl ?_
    refine WL.gon rfl rfl rfl ?_
    refine WL.v (Runs.boolT (c := false) (Runs.leq rfl rfl) (decide_eq_false q1)) rfl ?_
    refine WL.v (Runs.pick rfl rfl rfl) rfl ?_
    refine WL.v (Runs.move rfl) rfl ?_
    refine WL.goff rfl rfl rfl rfl ?_
    refine WL.goff rfl rfl rfl rfl ?_
    refine WL.goff rfl rfl rfl rfl ?_
    refine WL.v (Runs.pick rfl rfl rfl) rfl ?_
    refine WL.v (Runs.move rfl) rfl ?_
    refine WL.goff rfl rfl rfl rfl ?_
    refine WL.goff rfl rfl rfl rfl ?_
    refine WL.goff rfl rfl rfl rfl ?_
    refine WL.v (Runs.pick rfl rfl rfl) rfl ?_
    refine WL.v (Runs.move rfl) rfl ?_
    refine WL.goff rfl rfl rfl rfl ?_
    refine WL.goff rfl rfl rfl rfl ?_
    refine WL.goff rfl rfl rfl rfl ?_
    refine WL.v (Runs.pick rfl rfl rfl) rfl ?_
    refine WL.v (Runs.move rfl) rfl ?_
    refine WL.goff rfl rfl rfl rfl ?_
    refine WL.goff rfl rfl rfl rfl ?_
    refine WL.goff rfl rfl rfl rfl ?_
    refine WL.v (Runs.pick rfl rfl rfl) rfl ?_
    refine WL.v (Runs.move rfl) rfl ?_
    refine WL.goff rfl rfl rfl rfl ?_
    refine WL.goff rfl rfl rfl rfl ?_
    refine WL.goff rfl rfl rfl rfl ?_
    refine WL.goff rfl rfl rfl rfl ?_
    refine WL.v (Runs.pick rfl rfl rfl) rfl ?_
    refine WL.v (Runs.move rfl) rfl ?_
    refine WL.goff rfl rfl rfl rfl ?_
    refine WL.goff rfl rfl rfl rfl ?_
    refine WL.goff rfl rfl rfl rfl ?_
    refine WL.goff rfl rfl rfl rfl ?_
    refine WL.v (Runs.pick rfl rfl rfl) rfl ?_
    refine WL.v (Runs.move rfl) rfl ?_
    refine WL.goff rfl rfl rfl rfl ?_
    refine WL.goff rfl rfl rfl rfl ?_
    refine WL.goff rfl rfl rfl rfl ?_
    refine WL.goff rfl rfl rfl rfl ?_
    refine WL.v (Runs.pick rfl rfl rfl) rfl ?_
    refine WL.v (Runs.move rfl) rfl ?_
    refine WL.goff rfl rfl rfl rfl ?_
    refine WL.goff rfl rfl rfl rfl ?_
    refine WL.goff rfl rfl rfl rfl ?_
    refine WL.goff rfl rfl rfl rfl ?_
    refine WL.v (Runs.pick rfl rfl rfl) rfl ?_
    refine WL.v (Runs.move rfl) rfl ?_
    refine WL.goff rfl rfl rfl rfl ?_
    refine WL.goff rfl rfl rfl rfl ?_
    refine WL.goff rfl rfl rfl rfl ?_
    refine WL.goff rfl rfl rfl rfl ?_
    refine WL.v (Runs.pick rfl rfl rfl) rfl ?_
    refine WL.v (Runs.assign rfl) rfl ?_
    refine WL.nil ?_
    refine WN.thn ?_
    refine WC.ret ?_
    refine ret1 rfl rfl ⟨?_, h1.drop 0⟩
    rw [decide_eq_false (fun hm => q1 ((may_eq m).2 hm).2.1)]; rfl
  · skip
    refine WC.reg ?_
    refine WL.v (Runs.fld fld24_0 rfl) rfl ?_
    refine WL.v (Runs.load1 Try.underlying3 rfl rfl (h1.ocell (i := 0) rfl rfl)) rfl ?_
    refine WL.v (Runs.boolT (c := true) (Runs.geq rfl rfl) (decide_eq_true q0)) rfl ?_
    refine WL.v (Runs.move rfl) rfl ?_
    refine WL.gon rfl rfl rfl ?_
    refine WL.v (Runs.fld fld24_0 rfl) rfl ?_
    refine WL.gon rfl rfl rfl ?_
    refine WL.v (Runs.load1 Try.underlying3 rfl rfl (h1.ocell (i := 0) rfl rfl)) rfl ?_
    refine WL.gon rfl rfl rfl ?_
    refine WL.v (Runs.boolT (c := true) (Runs.leq rfl rfl) (decide_eq_true q1)) rfl ?_
    refine WL.v (Runs.pick rfl rfl rfl) rfl ?_
    refine WL.v (Runs.move rfl) rfl ?_
    refine WL.gon rfl rfl rfl ?_
    refine WL.v (Runs.fld fld24_1 rfl) rfl ?_
    refine WL.gon rfl rfl rfl ?_
    refine WL.v (Runs.load1 Try.underlying3 rfl rfl (h1.ocell (i := 0) rfl rfl)) rfl ?_
    refine WL.gon rfl rfl rfl ?_
    refine WL.v (Runs.boolT (c := false) (Runs.geq rfl rfl) (decide_eq_false q2)) rfl ?_
    refine WL.v (Runs.pick rfl rfl rfl) rfl ?_
    refine WL.v (Runs.move rfl) rfl ?_
    refine WL.goff rfl rfl rfl rfl ?_
    refine WL.goff rfl rfl rfl rfl ?_
    refine WL.goff rfl rfl rfl rfl ?_
    refine WL.v (Runs.pick rfl rfl rfl) rfl ?_
    refine WL.v (Runs.move rfl) rfl ?_
    refine WL.goff rfl rfl rfl rfl ?_
    refine WL.goff rfl rfl rfl rfl ?_
    refine WL.goff rfl rfl rfl rfl ?_
    refine WL.v (Runs.pick rfl rfl rfl) rfl ?_
    refine WL.v (Runs.move rfl) rfl ?_
    refine WL.goff rfl rfl rfl rfl ?_
    refine WL.goff rfl rfl rfl rfl ?_
    refine WL.goff rfl rfl rfl rfl ?_
    refine WL.v (Runs.pick rfl rfl rfl) rfl ?_
    refine WL.v (Runs.move rfl) rfl ?_
    refine WL.goff rfl rfl rfl rfl ?_
    refine WL.goff rfl rfl rfl rfl ?_
    refine WL.goff rfl rfl rfl rfl ?_
    refine WL.goff rfl rfl rfl rfl ?_
    refine WL.v (Runs.pick rfl rfl rfl) rfl ?_
    refine WL.v (Runs.move rfl) rfl ?_
    refine WL.goff rfl rfl rfl rfl ?_
    refine WL.goff rfl rfl rfl rfl ?_
    refine WL.goff rfl rfl rfl rfl ?_
    refine WL.goff rfl rfl rfl rfl ?_
    refine WL.v (Runs.pick rfl rfl rfl) rfl ?_
    refine WL.v (Runs.move rfl) rfl ?_
    refine WL.goff rfl rfl rfl rfl ?_
    refine WL.goff rfl rfl rfl rfl ?_
    refine WL.goff rfl rfl rfl rfl ?_
    refine WL.goff rfl rfl rfl rfl ?_
    refine WL.v (Runs.pick rfl rfl rfl) rfl ?_
    refine WL.v (Runs.move rfl) rfl ?_
    refine WL.goff rfl rfl rfl rfl ?_
    refine WL.goff rfl rfl rfl rfl ?_
    refine WL.goff rfl rfl rfl rfl ?_
    refine WL.goff rfl rfl rfl rfl ?_
    refine WL.v (Runs.pick rfl rfl rfl) rfl ?_
    refine WL.v (Runs.move rfl) rfl ?_
    refine WL.goff rfl rfl rfl rfl ?_
    refine WL.goff rfl rfl rfl rfl ?_
    refine WL.goff rfl rfl rfl rfl ?_
    refine WL.goff rfl rfl rfl rfl ?_
    refine WL.v (Runs.pick rfl rfl rfl) rfl ?_
    refine WL.v (Runs.assign rfl) rfl ?_
    refine WL.nil ?_
    refine WN.thn ?_
    refine WC.ret ?_
    refine ret1 rfl rfl ⟨?_, h1.drop 0⟩
    rw [decide_eq_false (fun hm => q2 ((may_eq m).2 hm).2.2.1)]; rfl
  · skip
    refine WC.reg ?_
    refine WL.v (Runs.fld fld24_0 rfl) rfl ?_
    refine WL.v (Runs.load1 Try.underlying3 rfl rfl (h1.ocell (i := 0) rfl rfl)) rfl ?_
    refine WL.v (Runs.boolT (c := true) (Runs.geq rfl rfl) (decide_eq_true q0)) rfl ?_
    refine WL.v (Runs.move rfl) rfl ?_
    refine WL.gon rfl rfl rfl ?_
    refine WL.v (Runs.fld fld24_0 rfl) rfl ?_
    refine WL.gon rfl rfl rfl ?_
    refine WL.v (Runs.load1 Try.underlying3 rfl rfl (h1.ocell (i := 0) rfl rfl)) rfl ?_
    refine WL.gon rfl rfl rfl ?_
    refine WL.v (Runs.boolT (c := true) (Runs.leq rfl rfl) (decide_eq_true q1)) rfl ?_
    refine WL.v (Runs.pick rfl rfl rfl) rfl ?_
    refine WL.v (Runs.move rfl) rfl ?_
    refine WL.gon rfl rfl rfl ?_
    refine WL.v (Runs.fld fld24_1 rfl) rfl ?_
    refine WL.gon rfl rfl rfl ?_
    refine WL.v (Runs.load1 Try.underlying3 rfl rfl (h1.ocell (i := 0) rfl rfl)) rfl ?_
    refine WL.gon rfl rfl rfl ?_
    refine WL.v (Runs.boolT (c := true) (Runs.geq rfl rfl) (decide_eq_true q2)) rfl ?_
    refine WL.v (Runs.pick rfl rfl rfl) rfl ?_
    refine WL.v (Runs.move rfl) rfl ?_
    refine WL.gon rfl rfl rfl ?_
    refine WL.v (Runs.fld fld24_1 rfl) rfl ?_
    refine WL.gon rfl rfl rfl ?_
    refine WL.v (Runs.load1 Try.underlying3 rfl rfl (h1.ocell (i := 0) rfl rfl)) rfl ?_
    refine WL.gon rfl rfl rfl ?_
    refine WL.v (Runs.boolT (c := false) (Runs.leq rfl rfl) (decide_eq_false q3)) rfl ?_
    refine WL.v (Runs.pick rfl rfl rfl) rfl ?_
    refine WL.v (Runs.move rfl) rfl ?_
    refine WL.goff rfl rfl rfl rfl ?_
    refine WL.goff rfl rfl rfl rfl ?_
    refine WL.goff rfl rfl rfl rfl ?_
    refine WL.v (Runs.pick rfl rfl rfl) rfl ?_
    refine WL.v (Runs.move rfl) rfl ?_
    refine WL.goff rfl rfl rfl rfl ?_
    refine WL.goff rfl rfl rfl rfl ?_
    refine WL.goff rfl rfl rfl rfl ?_
    refine WL.v (Runs.pick rfl rfl rfl) rfl ?_
    refine WL.v (Runs.move rfl) rfl ?_
    refine WL.goff rfl rfl rfl rfl ?_
    refine WL.goff rfl rfl rfl rfl ?_
    refine WL.goff rfl rfl rfl rfl ?_
    refine WL.goff rfl rfl rfl rfl ?_
    refine WL.v (Runs.pick rfl rfl rfl) rfl ?_
    refine WL.v (Runs.move rfl) rfl ?_
    refine WL.goff rfl rfl rfl rfl ?_
    refine WL.goff rfl rfl rfl rfl ?_
    refine WL.goff rfl rfl rfl rfl ?_
    refine WL.goff rfl rfl rfl rfl ?_
    refine WL.v (Runs.pick rfl rfl rfl) rfl ?_
    refine WL.v (Runs.move rfl) rfl ?_
    refine WL.goff rfl rfl rfl rfl ?_
    refine WL.goff rfl rfl rfl rfl ?_
    refine WL.goff rfl rfl rfl rfl ?_
    refine WL.goff rfl rfl rfl rfl ?_
    refine WL.v (Runs.pick rfl rfl rfl) rfl ?_
    refine WL.v (Runs.move rfl) rfl ?_
    refine WL.goff rfl rfl rfl rfl ?_
    refine WL.goff rfl rfl rfl rfl ?_
    refine WL.goff rfl rfl rfl rfl ?_
    refine WL.goff rfl rfl rfl rfl ?_
    refine WL.v (Runs.pick rfl rfl rfl) rfl ?_
    refine WL.v (Runs.move rfl) rfl ?_
    refine WL.goff rfl rfl rfl rfl ?_
    refine WL.goff rfl rfl rfl rfl ?_
    refine WL.goff rfl rfl rfl rfl ?_
    refine WL.goff rfl rfl rfl rfl ?_
    refine WL.v (Runs.pick rfl rfl rfl) rfl ?_
    refine WL.v (Runs.assign rfl) rfl ?_
    refine WL.nil ?_
    refine WN.thn ?_
    refine WC.ret ?_
    refine ret1 rfl rfl ⟨?_, h1.drop 0⟩
    rw [decide_eq_false (fun hm => q3 ((may_eq m).2 hm).2.2.2.1)]; rfl
  · skip
    refine WC.reg ?_
    refine WL.v (Runs.fld fld24_0 rfl) rfl ?_
    refine WL.v (Runs.load1 Try.underlying3 rfl rfl (h1.ocell (i := 0) rfl rfl)) rfl ?_
    refine WL.v (Runs.boolT (c := true) (Runs.geq rfl rfl) (decide_eq_true q0)) rfl ?_
    refine WL.v (Runs.move rfl) rfl ?_
    refine WL.gon rfl rfl rfl ?_
    refine WL.v (Runs.fld fld24_0 rfl) rfl ?_
    refine WL.gon rfl rfl rfl ?_
    refine WL.v (Runs.load1 Try.underlying3 rfl rfl (h1.ocell (i := 0) rfl rfl)) rfl ?_
    refine WL.gon rfl rfl rfl ?_
    refine WL.v (Runs.boolT (c := true) (Runs.leq rfl rfl) (decide_eq_true q1)) rfl ?_
    refine WL.v (Runs.pick rfl rfl rfl) rfl ?_
    refine WL.v (Runs.move rfl) rfl ?_
    refine WL.gon rfl rfl rfl ?_
    refine WL.v (Runs.fld fld24_1 rfl) rfl ?_
    refine WL.gon rfl rfl rfl ?_
    refine WL.v (Runs.load1 Try.underlying3 rfl rfl (h1.ocell (i := 0) rfl rfl)) rfl ?_
    refine WL.gon rfl rfl rfl ?_
    refine WL.v (Runs.boolT (c := true) (Runs.geq rfl rfl) (decide_eq_true q2)) rfl ?_
    refine WL.v (Runs.pick rfl rfl rfl) rfl ?_
    refine WL.v (Runs.move rfl) rfl ?_
    refine WL.gon rfl rfl rfl ?_
    refine WL.v (Runs.fld fld24_1 rfl) rfl ?_
    refine WL.gon rfl rfl rfl ?_
    refine WL.v (Runs.load1 Try.underlying3 rfl rfl (h1.ocell (i := 0) rfl rfl)) rfl ?_
    refine WL.gon rfl rfl rfl ?_
    refine WL.v (Runs.boolT (c := true) (Runs.leq rfl rfl) (decide_eq_true q3)) rfl ?_
    refine WL.v (Runs.pick rfl rfl rfl) rfl ?_
    refine WL.v (Runs.move rfl) rfl ?_
    refine WL.gon rfl rfl rfl ?_
    refine WL.v (Runs.fld fld24_2 rfl) rfl ?_
    refine WL.gon rfl rfl rfl ?_
    refine WL.v (Runs.load1 Try.underlying3 rfl rfl (h1.ocell (i := 0) rfl rfl)) rfl ?_
    refine WL.gon rfl rfl rfl ?_
    refine WL.v (Runs.boolT (c := false) (Runs.geq rfl rfl) (decide_eq_false q4)) rfl ?_
    refine WL.v (Runs.pick rfl rfl rfl) rfl ?_
    refine WL.v (Runs.move rfl) rfl ?_
    refine WL.goff rfl rfl rfl rfl ?_
    refine WL.goff rfl rfl rfl rfl ?_
    refine WL.goff rfl rfl rfl rfl ?_
    refine WL.v (Runs.pick rfl rfl rfl) rfl ?_
    refine WL.v (Runs.move rfl) rfl ?_
    refine WL.goff rfl rfl rfl rfl ?_
    refine WL.goff rfl rfl rfl rfl ?_
    refine WL.goff rfl rfl rfl rfl ?_
    refine WL.goff rfl rfl rfl rfl ?_
    refine WL.v (Runs.pick rfl rfl rfl) rfl ?_
    refine WL.v (Runs.move rfl) rfl ?_
    refine WL.goff rfl rfl rfl rfl ?_
    refine WL.goff rfl rfl rfl rfl ?_
    refine WL.goff rfl rfl rfl rfl ?_
    refine WL.goff rfl rfl rfl rfl ?_
    refine WL.v (Runs.pick rfl rfl rfl) rfl ?_
    refine WL.v (Runs.move rfl) rfl ?_
    refine WL.goff rfl rfl rfl rfl ?_
    refine WL.goff rfl rfl rfl rfl ?_
    refine WL.goff rfl rfl rfl rfl ?_
    refine WL.goff rfl rfl rfl rfl ?_
    refine WL.v (Runs.pick rfl rfl rfl) rfl ?_
    refine WL.v (Runs.move rfl) rfl ?_
    refine WL.goff rfl rfl rfl rfl ?_
    refine WL.goff rfl rfl rfl rfl ?_
    refine WL.goff rfl rfl rfl rfl ?_
    refine WL.goff rfl rfl rfl rfl ?_
    refine WL.v (Runs.pick rfl rfl rfl) rfl ?_
    refine WL.v (Runs.move rfl) rfl ?_
    refine WL.goff rfl rfl rfl rfl ?_
    refine WL.goff rfl rfl rfl rfl ?_
    refine WL.goff rfl rfl rfl rfl ?_
    refine WL.goff rfl rfl rfl rfl ?_
    refine WL.v (Runs.pick rfl rfl rfl) rfl ?_
    refine WL.v (Runs.assign rfl) rfl ?_
    refine WL.nil ?_
    refine WN.thn ?_
    refine WC.ret ?_
    refine ret1 rfl rfl ⟨?_, h1.drop 0⟩
    rw [decide_eq_false (fun hm => q4 ((may_eq m).2 hm).2.2.2.2.1)]; rfl
  · skip
    refine WC.reg ?_
    refine WL.v (Runs.fld fld24_0 rfl) rfl ?_
    refine WL.v (Runs.load1 Try.underlying3 rfl rfl (h1.ocell (i := 0) rfl rfl)) rfl ?_
    refine WL.v (Runs.boolT (c := true) (Runs.geq rfl rfl) (decide_eq_true q0)) rfl ?_
    refine WL.v (Runs.move rfl) rfl ?_
    refine WL.gon rfl rfl rfl ?_
    refine WL.v (Runs.fld fld24_0 rfl) rfl ?_
    refine WL.gon rfl rfl rfl ?_
    refine WL.v (Runs.load1 Try.underlying3 rfl rfl (h1.ocell (i := 0) rfl rfl)) rfl ?_
    refine WL.gon rfl rfl rfl ?_
    refine WL.v (Runs.boolT (c := true) (Runs.leq rfl rfl) (decide_eq_true q1)) rfl ?_
    refine WL.v (Runs.pick rfl rfl rfl) rfl ?_
    refine WL.v (Runs.move rfl) rfl ?_
    refine WL.gon rfl rfl rfl ?_
    refine WL.v (Runs.fld fld24_1 rfl) rfl ?_
    refine WL.gon rfl rfl rfl ?_
    refine WL.v (Runs.load1 Try.underlying3 rfl rfl (h1.ocell (i := 0) rfl rfl)) rfl ?_
    refine WL.gon rfl rfl rfl ?_
    refine WL.v (Runs.boolT (c := true) (Runs.geq rfl rfl) (decide_eq_true q2)) rfl ?_
    refine WL.v (Runs.pick rfl rfl rfl) rfl ?_
    refine WL.v (Runs.move rfl) rfl ?_
    refine WL.gon rfl rfl rfl ?_
    refine WL.v (Runs.fld fld24_1 rfl) rfl ?_
    refine WL.gon rfl rfl rfl ?_
    refine WL.v (Runs.load1 Try.underlying3 rfl rfl (h1.ocell (i := 0) rfl rfl)) rfl ?_
    refine WL.gon rfl rfl rfl ?_
    refine WL.v (Runs.boolT (c := true) (Runs.leq rfl rfl) (decide_eq_true q3)) rfl ?_
    refine WL.v (Runs.pick rfl rfl rfl) rfl ?_
    refine WL.v (Runs.move rfl) rfl ?_
    refine WL.gon rfl rfl rfl ?_
    refine WL.v (Runs.fld fld24_2 rfl) rfl ?_
    refine WL.gon rfl rfl rfl ?_
    refine WL.v (Runs.load1 Try.underlying3 rfl rfl (h1.ocell (i := 0) rfl rfl)) rfl ?_
    refine WL.gon rfl rfl rfl ?_
    refine WL.v (Runs.boolT (c := true) (Runs.geq rfl rfl) (decide_eq_true q4)) rfl ?_
    refine WL.v (Runs.pick rfl rfl rfl) rfl ?_
    refine WL.v (Runs.move rfl) rfl ?_
    refine WL.gon rfl rfl rfl ?_
    refine WL.v (Runs.fld fld24_2 rfl) rfl ?_
    refine WL.gon rfl rfl rfl ?_
    refine WL.v (Runs.load1 Try.underlying3 rfl rfl (h1.ocell (i := 0) rfl rfl)) rfl ?_
    refine WL.gon rfl rfl rfl ?_
    refine WL.v (Runs.boolT (c := false) (Runs.leq rfl rfl) (decide_eq_false q5)) rfl ?_
    refine WL.v (Runs.pick rfl rfl rfl) rfl ?_
    refine WL.v (Runs.move rfl) rfl ?_
    refine WL.goff rfl rfl rfl rfl ?_
    refine WL.goff rfl rfl rfl rfl ?_
    refine WL.goff rfl rfl rfl rfl ?_
    refine WL.goff rfl rfl rfl rfl ?_
    refine WL.v (Runs.pick rfl rfl rfl) rfl ?_
    refine WL.v (Runs.move rfl) rfl ?_
    refine WL.goff rfl rfl rfl rfl ?_
    refine WL.goff rfl rfl rfl rfl ?_
    refine WL.goff rfl rfl rfl rfl ?_
    refine WL.goff rfl rfl rfl rfl ?_
    refine WL.v (Runs.pick rfl rfl rfl) rfl ?_
    refine WL.v (Runs.move rfl) rfl ?_
    refine WL.goff rfl rfl rfl rfl ?_
    refine WL.goff rfl rfl rfl rfl ?_
    refine WL.goff rfl rfl rfl rfl ?_
    refine WL.goff rfl rfl rfl rfl ?_
    refine WL.v (Runs.pick rfl rfl rfl) rfl ?_
    refine WL.v (Runs.move rfl) rfl ?_
    refine WL.goff rfl rfl rfl rfl ?_
    refine WL.goff rfl rfl rfl rfl ?_
    refine WL.goff rfl rfl rfl rfl ?_
    refine WL.goff rfl rfl rfl rfl ?_
    refine WL.v (Runs.pick rfl rfl rfl) rfl ?_
    refine WL.v (Runs.move rfl) rfl ?_
    refine WL.goff rfl rfl rfl rfl ?_
    refine WL.goff rfl rfl rfl rfl ?_
    refine WL.goff rfl rfl rfl rfl ?_
    refine WL.goff rfl rfl rfl rfl ?_
    refine WL.v (Runs.pick rfl rfl rfl) rfl ?_
    refine WL.v (Runs.assign rfl) rfl ?_
    refine WL.nil ?_
    refine WN.thn ?_
    refine WC.ret ?_
    refine ret1 rfl rfl ⟨?_, h1.drop 0⟩
    rw [decide_eq_false (fun hm => q5 ((may_eq m).2 hm).2.2.2.2.2.1)]; rfl
  · skip
    refine WC.reg ?_
    refine WL.v (Runs.fld fld24_0 rfl) rfl ?_
    refine WL.v (Runs.load1 Try.underlying3 rfl rfl (h1.ocell (i := 0) rfl rfl)) rfl ?_
    refine WL.v (Runs.boolT (c := true) (Runs.geq rfl rfl) (decide_eq_true q0)) rfl ?_
    refine WL.v (Runs.move rfl) rfl ?_
    refine WL.gon rfl rfl rfl ?_
    refine WL.v (Runs.fld fld24_0 rfl) rfl ?_
    refine WL.gon rfl rfl rfl ?_
    refine WL.v (Runs.load1 Try.underlying3 rfl rfl (h1.ocell (i := 0) rfl rfl)) rfl ?_
    refine WL.gon rfl rfl rfl ?_
    refine WL.v (Runs.boolT (c := true) (Runs.leq rfl rfl) (decide_eq_true q1)) rfl ?_
    refine WL.v (Runs.pick rfl rfl rfl) rfl ?_
    refine WL.v (Runs.move rfl) rfl ?_
    refine WL.gon rfl rfl rfl ?_
    refine WL.v (Runs.fld fld24_1 rfl) rfl ?_
    refine WL.gon rfl rfl rfl ?_
    refine WL.v (Runs.load1 Try.underlying3 rfl rfl (h1.ocell (i := 0) rfl rfl)) rfl ?_
    refine WL.gon rfl rfl rfl ?_
    refine WL.v (Runs.boolT (c := true) (Runs.geq rfl rfl) (decide_eq_true q2)) rfl ?_
    refine WL.v (Runs.pick rfl rfl rfl) rfl ?_
    refine WL.v (Runs.move rfl) rfl ?_
    refine WL.gon rfl rfl rfl ?_
    refine WL.v (Runs.fld fld24_1 rfl) rfl ?_
    refine WL.gon rfl rfl rfl ?_
    refine WL.v (Runs.load1 Try.underlying3 rfl rfl (h1.ocell (i := 0) rfl rfl)) rfl ?_
    refine WL.gon rfl rfl rfl ?_
    refine WL.v (Runs.boolT (c := true) (Runs.leq rfl rfl) (decide_eq_true q3)) rfl ?_
    refine WL.v (Runs.pick rfl rfl rfl) rfl ?_
    refine WL.v (Runs.move rfl) rfl ?_
    refine WL.gon rfl rfl rfl ?_
    refine WL.v (Runs.fld fld24_2 rfl) rfl ?_
    refine WL.gon rfl rfl rfl ?_
    refine WL.v (Runs.load1 Try.underlying3 rfl rfl (h1.ocell (i := 0) rfl rfl)) rfl ?_
    refine WL.gon rfl rfl rfl ?_
    refine WL.v (Runs.boolT (c := true) (Runs.geq rfl rfl) (decide_eq_true q4)) rfl ?_
    refine WL.v (Runs.pick rfl rfl rfl) rfl ?_
    refine WL.v (Runs.move rfl) rfl ?_
    refine WL.gon rfl rfl rfl ?_
    refine WL.v (Runs.fld fld24_2 rfl) rfl ?_
    refine WL.gon rfl rfl rfl ?_
    refine WL.v (Runs.load1 Try.underlying3 rfl rfl (h1.ocell (i := 0) rfl rfl)) rfl ?_
    refine WL.gon rfl rfl rfl ?_
    refine WL.v (Runs.boolT (c := true) (Runs.leq rfl rfl) (decide_eq_true q5)) rfl ?_
    refine WL.v (Runs.pick rfl rfl rfl) rfl ?_
    refine WL.v (Runs.move rfl) rfl ?_
    refine WL.gon rfl rfl rfl ?_
    refine WL.v (Runs.fld fld24_3 rfl) rfl ?_
    refine WL.gon rfl rfl rfl ?_
    refine WL.v (Runs.load1 Try.underlying3 rfl rfl (h1.ocell (i := 0) rfl rfl)) rfl ?_
    refine WL.gon rfl rfl rfl ?_
    refine WL.call can11 rfl rfl (rnum_c _ _ h1) ?_
    rintro _ w2 ⟨rfl, h2⟩
    refine ⟨_, rfl, ?_⟩
    refine WL.gon rfl rfl rfl ?_
    refine WL.v (Runs.boolT (c := false) (Runs.lsneq (b := []) rfl rfl) (by rw [decide_eq_true (Classical.not_not.1 q6)]; rfl)) rfl ?_
    refine WL.v (Runs.pick rfl rfl rfl) rfl ?_
    refine WL.v (Runs.move rfl) rfl ?_
    refine WL.goff rfl rfl rfl rfl ?_
    refine WL.goff rfl rfl rfl rfl ?_
    refine WL.goff rfl rfl rfl rfl ?_
    refine WL.goff rfl rfl rfl rfl ?_
    refine WL.v (Runs.pick rfl rfl rfl) rfl ?_
    refine WL.v (Runs.move rfl) rfl ?_
    refine WL.goff rfl rfl rfl rfl ?_
    refine WL.goff rfl rfl rfl rfl ?_
    refine WL.goff rfl rfl rfl rfl ?_
    refine WL.goff rfl rfl rfl rfl ?_
    refine WL.v (Runs.pick rfl rfl rfl) rfl ?_
    refine WL.v (Runs.move rfl) rfl ?_
    refine WL.goff rfl rfl rfl rfl ?_
    refine WL.goff rfl rfl rfl rfl ?_
    refine WL.goff rfl rfl rfl rfl ?_
    refine WL.goff rfl rfl rfl rfl ?_
    refine WL.v (Runs.pick rfl rfl rfl) rfl ?_
    refine WL.v (Runs.move rfl) rfl ?_
    refine WL.goff rfl rfl rfl rfl ?_
    refine WL.goff rfl rfl rfl rfl ?_
    refine WL.goff rfl rfl rfl rfl ?_
    refine WL.goff rfl rfl rfl rfl ?_
    refine WL.v (Runs.pick rfl rfl rfl) rfl ?_
    refine WL.v (Runs.assign rfl) rfl ?_
    refine WL.nil ?_
    refine WN.thn ?_
    refine WC.ret ?_
    refine ret1 rfl rfl ⟨?_, h2.drop 0⟩
    rw [decide_eq_false (fun hm => q6 ((may_eq m).2 hm).2.2.2.2.2.2.1)]; rfl
  · skip
    refine WC.reg ?_
    refine WL.v (Runs.fld fld24_0 rfl) rfl ?_
    refine WL.v (Runs.load1 Try.underlying3 rfl rfl (h1.ocell (i := 0) rfl rfl)) rfl ?_
    refine WL.v (Runs.boolT (c := true) (Runs.geq rfl rfl) (decide_eq_true q0)) rfl ?_
    refine WL.v (Runs.move rfl) rfl ?_
    refine WL.gon rfl rfl rfl ?_
    refine WL.v (Runs.fld fld24_0 rfl) rfl ?_
    refine WL.gon rfl rfl rfl ?_
    refine WL.v (Runs.load1 Try.underlying3 rfl rfl (h1.ocell (i := 0) rfl rfl)) rfl ?_
    refine WL.gon rfl rfl rfl ?_
    refine WL.v (Runs.boolT (c := true) (Runs.leq rfl rfl) (decide_eq_true q1)) rfl ?_
    refine WL.v (Runs.pick rfl rfl rfl) rfl ?_
    refine WL.v (Runs.move rfl) rfl ?_
    refine WL.gon rfl rfl rfl ?_
    refine WL.v (Runs.fld fld24_1 rfl) rfl ?_
    refine WL.gon rfl rfl rfl ?_
    refine WL.v (Runs.load1 Try.underlying3 rfl rfl (h1.ocell (i := 0) rfl rfl)) rfl ?_
    refine WL.gon rfl rfl rfl ?_
    refine WL.v (Runs.boolT (c := true) (Runs.geq rfl rfl) (decide_eq_true q2)) rfl ?_
    refine WL.v (Runs.pick rfl rfl rfl) rfl ?_
    refine WL.v (Runs.move rfl) rfl ?_
    refine WL.gon rfl rfl rfl ?_
    refine WL.v (Runs.fld fld24_1 rfl) rfl ?_
    refine WL.gon rfl rfl rfl ?_
    refine WL.v (Runs.load1 Try.underlying3 rfl rfl (h1.ocell (i := 0) rfl rfl)) rfl ?_
    refine WL.gon rfl rfl rfl ?_
    refine WL.v (Runs.boolT (c := true) (Runs.leq rfl rfl) (decide_eq_true q3)) rfl ?_
    refine WL.v (Runs.pick rfl rfl rfl) rfl ?_
    refine WL.v (Runs.move rfl) rfl ?_
    refine WL.gon rfl rfl rfl ?_
    refine WL.v (Runs.fld fld24_2 rfl) rfl ?_
    refine WL.gon rfl rfl rfl ?_
    refine WL.v (Runs.load1 Try.underlying3 rfl rfl (h1.ocell (i := 0) rfl rfl)) rfl ?_
    refine WL.gon rfl rfl rfl ?_
    refine WL.v (Runs.boolT (c := true) (Runs.geq rfl rfl) (decide_eq_true q4)) rfl ?_
    refine WL.v (Runs.pick rfl rfl rfl) rfl ?_
    refine WL.v (Runs.move rfl) rfl ?_
    refine WL.gon rfl rfl rfl ?_
    refine WL.v (Runs.fld fld24_2 rfl) rfl ?_
    refine WL.gon rfl rfl rfl ?_
    refine WL.v (Runs.load1 Try.underlying3 rfl rfl (h1.ocell (i := 0) rfl rfl)) rfl ?_
    refine WL.gon rfl rfl rfl ?_
    refine WL.v (Runs.boolT (c := true) (Runs.leq rfl rfl) (decide_eq_true q5)) rfl ?_
    refine WL.v (Runs.pick rfl rfl rfl) rfl ?_
    refine WL.v (Runs.move rfl) rfl ?_
    refine WL.gon rfl rfl rfl ?_
    refine WL.v (Runs.fld fld24_3 rfl) rfl ?_
    refine WL.gon rfl rfl rfl ?_
    refine WL.v (Runs.load1 Try.underlying3 rfl rfl (h1.ocell (i := 0) rfl rfl)) rfl ?_
    refine WL.gon rfl rfl rfl ?_
    refine WL.call can11 rfl rfl (rnum_c _ _ h1) ?_
    rintro _ w3 ⟨rfl, h3⟩
    refine ⟨_, rfl, ?_⟩
    refine WL.gon rfl rfl rfl ?_
    refine WL.v (Runs.boolT (c := true) (Runs.lsneq (b := []) rfl rfl) (by rw [decide_eq_false q6]; rfl)) rfl ?_
    refine WL.v (Runs.pick rfl rfl rfl) rfl ?_
    refine WL.v (Runs.move rfl) rfl ?_
    refine WL.gon rfl rfl rfl ?_
    refine WL.v (Runs.fld fld24_4 rfl) rfl ?_
    refine WL.gon rfl rfl rfl ?_
    refine WL.v (Runs.load1 Try.underlying3 rfl rfl (h3.ocell (i := 0) rfl rfl)) rfl ?_
    refine WL.gon rfl rfl rfl ?_
    refine WL.call can11 rfl rfl (rnum_c _ _ h3) ?_
    rintro _ w4 ⟨rfl, h4⟩
    refine ⟨_, rfl, ?_⟩
    refine WL.gon rfl rfl rfl ?_
    refine WL.v (Runs.boolT (c := false) (Runs.lsneq (b := []) rfl rfl) (by rw [decide_eq_true (Classical.not_not.1 q7)]; rfl)) rfl ?_
    refine WL.v (Runs.pick rfl rfl rfl) rfl ?_
    refine WL.v (Runs.move rfl) rfl ?_
    refine WL.goff rfl rfl rfl rfl ?_
    refine WL.goff rfl rfl rfl rfl ?_
    refine WL.goff rfl rfl rfl rfl ?_
    refine WL.goff rfl rfl rfl rfl ?_
    refine WL.v (Runs.pick rfl rfl rfl) rfl ?_
    refine WL.v (Runs.move rfl) rfl ?_
    refine WL.goff rfl rfl rfl rfl ?_
    refine WL.goff rfl rfl rfl rfl ?_
    refine WL.goff rfl rfl rfl rfl ?_
    refine WL.goff rfl rfl rfl rfl ?_
    refine WL.v (Runs.pick rfl rfl rfl) rfl ?_
    refine WL.v (Runs.move rfl) rfl ?_
    refine WL.goff rfl rfl rfl rfl ?_
    refine WL.goff rfl rfl rfl rfl ?_
    refine WL.goff rfl rfl rfl rfl ?_
    refine WL.goff rfl rfl rfl rfl ?_
    refine WL.v (Runs.pick rfl rfl rfl) rfl ?_
    refine WL.v (Runs.assign rfl) rfl ?_
    refine WL.nil ?_
    refine WN.thn ?_
    refine WC.ret ?_
    refine ret1 rfl rfl ⟨?_, h4.drop 0⟩
    rw [decide_eq_false (fun hm => q7 ((may_eq m).2 hm).2.2.2.2.2.2.2.1)]; rfl
  · skip
    refine WC.reg ?_
    refine WL.v (Runs.fld fld24_0 rfl) rfl ?_
    refine WL.v (Runs.load1 Try.underlying3 rfl rfl (h1.ocell (i := 0) rfl rfl)) rfl ?_
    refine WL.v (Runs.boolT (c := true) (Runs.geq rfl rfl) (decide_eq_true q0)) rfl ?_
    refine WL.v (Runs.move rfl) rfl ?_
    refine WL.gon rfl rfl rfl ?_
    refine WL.v (Runs.fld fld24_0 rfl) rfl ?_
    refine WL.gon rfl rfl rfl ?_
    refine WL.v (Runs.load1 Try.underlying3 rfl rfl (h1.ocell (i := 0) rfl rfl)) rfl ?_
    refine WL.gon rfl rfl rfl ?_
    refine WL.v (Runs.boolT (c := true) (Runs.leq rfl rfl) (decide_eq_true q1)) rfl ?_
    refine WL.v (Runs.pick rfl rfl rfl) rfl ?_
    refine WL.v (Runs.move rfl) rfl ?_
    refine WL.gon rfl rfl rfl ?_
    refine WL.v (Runs.fld fld24_1 rfl) rfl ?_
    refine WL.gon rfl rfl rfl ?_
    refine WL.v (Runs.load1 Try.underlying3 rfl rfl (h1.ocell (i := 0) rfl rfl)) rfl ?_
    refine WL.gon rfl rfl rfl ?_
    refine WL.v (Runs.boolT (c := true) (Runs.geq rfl rfl) (decide_eq_true q2)) rfl ?_
    refine WL.v (Runs.pick rfl rfl rfl) rfl ?_
    refine WL.v (Runs.move rfl) rfl ?_
    refine WL.gon rfl rfl rfl ?_
    refine WL.v (Runs.fld fld24_1 rfl) rfl ?_
    refine WL.gon rfl rfl rfl ?_
    refine WL.v (Runs.load1 Try.underlying3 rfl rfl (h1.ocell (i := 0) rfl rfl)) rfl ?_
    refine WL.gon rfl rfl rfl ?_
    refine WL.v (Runs.boolT (c := true) (Runs.leq rfl rfl) (decide_eq_true q3)) rfl ?_
    refine WL.v (Runs.pick rfl rfl rfl) rfl ?_
    refine WL.v (Runs.move rfl) rfl ?_
    refine WL.gon rfl rfl rfl ?_
    refine WL.v (Runs.fld fld24_2 rfl) rfl ?_
    refine WL.gon rfl rfl rfl ?_
    refine WL.v (Runs.load1 Try.underlying3 rfl rfl (h1.ocell (i := 0) rfl rfl)) rfl ?_
    refine WL.gon rfl rfl rfl ?_
    refine WL.v (Runs.boolT (c := true) (Runs.geq rfl rfl) (decide_eq_true q4)) rfl ?_
    refine WL.v (Runs.pick rfl rfl rfl) rfl ?_
    refine WL.v (Runs.move rfl) rfl ?_
    refine WL.gon rfl rfl rfl ?_
    refine WL.v (Runs.fld fld24_2 rfl) rfl ?_
    refine WL.gon rfl rfl rfl ?_
    refine WL.v (Runs.load1 Try.underlying3 rfl rfl (h1.ocell (i := 0) rfl rfl)) rfl ?_
    refine WL.gon rfl rfl rfl ?_
    refine WL.v (Runs.boolT (c := true) (Runs.leq rfl rfl) (decide_eq_true q5)) rfl ?_
    refine WL.v (Runs.pick rfl rfl rfl) rfl ?_
    refine WL.v (Runs.move rfl) rfl ?_
    refine WL.gon rfl rfl rfl ?_
    refine WL.v (Runs.fld fld24_3 rfl) rfl ?_
    refine WL.gon rfl rfl rfl ?_
    refine WL.v (Runs.load1 Try.underlying3 rfl rfl (h1.ocell (i := 0) rfl rfl)) rfl ?_
    refine WL.gon rfl rfl rfl ?_
    refine WL.call can11 rfl rfl (rnum_c _ _ h1) ?_
    rintro _ w5 ⟨rfl, h5⟩
    refine ⟨_, rfl, ?_⟩
    refine WL.gon rfl rfl rfl ?_
    refine WL.v (Runs.boolT (c := true) (Runs.lsneq (b := []) rfl rfl) (by rw [decide_eq_false q6]; rfl)) rfl ?_
    refine WL.v (Runs.pick rfl rfl rfl) rfl ?_
    refine WL.v (Runs.move rfl) rfl ?_
    refine WL.gon rfl rfl rfl ?_
    refine WL.v (Runs.fld fld24_4 rfl) rfl ?_
    refine WL.gon rfl rfl rfl ?_
    refine WL.v (Runs.load1 Try.underlying3 rfl rfl (h5.ocell (i := 0) rfl rfl)) rfl ?_
    refine WL.gon rfl rfl rfl ?_
    refine WL.call can11 rfl rfl (rnum_c _ _ h5) ?_
    rintro _ w6 ⟨rfl, h6⟩
    refine ⟨_, rfl, ?_⟩
    refine WL.gon rfl rfl rfl ?_
    refine WL.v (Runs.boolT (c := true) (Runs.lsneq (b := []) rfl rfl) (by rw [decide_eq_false q7]; rfl)) rfl ?_
    refine WL.v (Runs.pick rfl rfl rfl) rfl ?_
    refine WL.v (Runs.move rfl) rfl ?_
    refine WL.gon rfl rfl rfl ?_
    refine WL.v (Runs.fld fld24_5 rfl) rfl ?_
    refine WL.gon rfl rfl rfl ?_
    refine WL.v (Runs.load1 Try.underlying3 rfl rfl (h6.ocell (i := 0) rfl rfl)) rfl ?_
    refine WL.gon rfl rfl rfl ?_
    refine WL.call can11 rfl rfl (rnum_c _ _ h6) ?_
    rintro _ w7 ⟨rfl, h7⟩
    refine ⟨_, rfl, ?_⟩
    refine WL.gon rfl rfl rfl ?_
    refine WL.v (Runs.boolT (c := false) (Runs.lsneq (b := []) rfl rfl) (by rw [decide_eq_true (Classical.not_not.1 q8)]; rfl)) rfl ?_
    refine WL.v (Runs.pick rfl rfl rfl) rfl ?_
    refine WL.v (Runs.move rfl) rfl ?_
    refine WL.goff rfl rfl rfl rfl ?_
    refine WL.goff rfl rfl rfl rfl ?_
    refine WL.goff rfl rfl rfl rfl ?_
    refine WL.goff rfl rfl rfl rfl ?_
    refine WL.v (Runs.pick rfl rfl rfl) rfl ?_
    refine WL.v (Runs.move rfl) rfl ?_
    refine WL.goff rfl rfl rfl rfl ?_
    refine WL.goff rfl rfl rfl rfl ?_
    refine WL.goff rfl rfl rfl rfl ?_
    refine WL.goff rfl rfl rfl rfl ?_
    refine WL.v (Runs.pick rfl rfl rfl) rfl ?_
    refine WL.v (Runs.assign rfl) rfl ?_
    refine WL.nil ?_
    refine WN.thn ?_
    refine WC.ret ?_
    refine ret1 rfl rfl ⟨?_, h7.drop 0⟩
    rw [decide_eq_false (fun hm => q8 ((may_eq m).2 hm).2.2.2.2.2.2.2.2.1)]; rfl
  · skip
    refine WC.reg ?_
    refine WL.v (Runs.fld fld24_0 rfl) rfl ?_
    refine WL.v (Runs.load1 Try.underlying3 rfl rfl (h1.ocell (i := 0) rfl rfl)) rfl ?_
    refine WL.v (Runs.boolT (c := true) (Runs.geq rfl rfl) (decide_eq_true q0)) rfl ?_
    refine WL.v (Runs.move rfl) rfl ?_
    refine WL.gon rfl rfl rfl ?_
    refine WL.v (Runs.fld fld24_0 rfl) rfl ?_
    refine WL.gon rfl rfl rfl ?_
    refine WL.v (Runs.load1 Try.underlying3 rfl rfl (h1.ocell (i := 0) rfl rfl)) rfl ?_
    refine WL.gon rfl rfl rfl ?_
    refine WL.v (Runs.boolT (c := true) (Runs.leq rfl rfl) (decide_eq_true q1)) rfl ?_
    refine WL.v (Runs.pick rfl rfl rfl) rfl ?_
    refine WL.v (Runs.move rfl) rfl ?_
    refine WL.gon rfl rfl rfl ?_
    refine WL.v (Runs.fld fld24_1 rfl) rfl ?_
    refine WL.gon rfl rfl rfl ?_
    refine WL.v (Runs.load1 Try.underlying3 rfl rfl (h1.ocell (i := 0) rfl rfl)) rfl ?_
    refine WL.gon rfl rfl rfl ?_
    refine WL.v (Runs.boolT (c := true) (Runs.geq rfl rfl) (decide_eq_true q2)) rfl ?_
    refine WL.v (Runs.pick rfl rfl rfl) rfl ?_
    refine WL.v (Runs.move rfl) rfl ?_
    refine WL.gon rfl rfl rfl ?_
    refine WL.v (Runs.fld fld24_1 rfl) rfl ?_
    refine WL.gon rfl rfl rfl ?_
    refine WL.v (Runs.load1 Try.underlying3 rfl rfl (h1.ocell (i := 0) rfl rfl)) rfl ?_
    refine WL.gon rfl rfl rfl ?_
    refine WL.v (Runs.boolT (c := true) (Runs.leq rfl rfl) (decide_eq_true q3)) rfl ?_
    refine WL.v (Runs.pick rfl rfl rfl) rfl ?_
    refine WL.v (Runs.move rfl) rfl ?_
    refine WL.gon rfl rfl rfl ?_
    refine WL.v (Runs.fld fld24_2 rfl) rfl ?_
    refine WL.gon rfl rfl rfl ?_
    refine WL.v (Runs.load1 Try.underlying3 rfl rfl (h1.ocell (i := 0) rfl rfl)) rfl ?_
    refine WL.gon rfl rfl rfl ?_
    refine WL.v (Runs.boolT (c := true) (Runs.geq rfl rfl) (decide_eq_true q4)) rfl ?_
    refine WL.v (Runs.pick rfl rfl rfl) rfl ?_
    refine WL.v (Runs.move rfl) rfl ?_
    refine WL.gon rfl rfl rfl ?_
    refine WL.v (Runs.fld fld24_2 rfl) rfl ?_
    refine WL.gon rfl rfl rfl ?_
    refine WL.v (Runs.load1 Try.underlying3 rfl rfl (h1.ocell (i := 0) rfl rfl)) rfl ?_
    refine WL.gon rfl rfl rfl ?_
    refine WL.v (Runs.boolT (c := true) (Runs.leq rfl rfl) (decide_eq_true q5)) rfl ?_
    refine WL.v (Runs.pick rfl rfl rfl) rfl ?_
    refine WL.v (Runs.move rfl) rfl ?_
    refine WL.gon rfl rfl rfl ?_
    refine WL.v (Runs.fld fld24_3 rfl) rfl ?_
    refine WL.gon rfl rfl rfl ?_
    refine WL.v (Runs.load1 Try.underlying3 rfl rfl (h1.ocell (i := 0) rfl rfl)) rfl ?_
    refine WL.gon rfl rfl rfl ?_
    refine WL.call can11 rfl rfl (rnum_c _ _ h1) ?_
    rintro _ w8 ⟨rfl, h8⟩
    refine ⟨_, rfl, ?_⟩
    refine WL.gon rfl rfl rfl ?_
    refine WL.v (Runs.boolT (c := true) (Runs.lsneq (b := []) rfl rfl) (by rw [decide_eq_false q6]; rfl)) rfl ?_
    refine WL.v (Runs.pick rfl rfl rfl) rfl ?_
    refine WL.v (Runs.move rfl) rfl ?_
    refine WL.gon rfl rfl rfl ?_
    refine WL.v (Runs.fld fld24_4 rfl) rfl ?_
    refine WL.gon rfl rfl rfl ?_
    refine WL.v (Runs.load1 Try.underlying3 rfl rfl (h8.ocell (i := 0) rfl rfl)) rfl ?_
    refine WL.gon rfl rfl rfl ?_
    refine WL.call can11 rfl rfl (rnum_c _ _ h8) ?_
    rintro _ w9 ⟨rfl, h9⟩
    refine ⟨_, rfl, ?_⟩
    refine WL.gon rfl rfl rfl ?_
    refine WL.v (Runs.boolT (c := true) (Runs.lsneq (b := []) rfl rfl) (by rw [decide_eq_false q7]; rfl)) rfl ?_
    refine WL.v (Runs.pick rfl rfl rfl) rfl ?_
    refine WL.v (Runs.move rfl) rfl ?_
    refine WL.gon rfl rfl rfl ?_
    refine WL.v (Runs.fld fld24_5 rfl) rfl ?_
    refine WL.gon rfl rfl rfl ?_
    refine WL.v (Runs.load1 Try.underlying3 rfl rfl (h9.ocell (i := 0) rfl rfl)) rfl ?_
    refine WL.gon rfl rfl rfl ?_
    refine WL.call can11 rfl rfl (rnum_c _ _ h9) ?_
    rintro _ w10 ⟨rfl, h10⟩
    refine ⟨_, rfl, ?_⟩
    refine WL.gon rfl rfl rfl ?_
    refine WL.v (Runs.boolT (c := true) (Runs.lsneq (b := []) rfl rfl) (by rw [decide_eq_false q8]; rfl)) rfl ?_
    refine WL.v (Runs.pick rfl rfl rfl) rfl ?_
    refine WL.v (Runs.move rfl) rfl ?_
    refine WL.gon rfl rfl rfl ?_
    refine WL.v (Runs.fld fld24_6 rfl) rfl ?_
    refine WL.gon rfl rfl rfl ?_
    refine WL.v (Runs.load1 Try.underlying3 rfl rfl (h10.ocell (i := 0) rfl rfl)) rfl ?_
    refine WL.gon rfl rfl rfl ?_
    refine WL.call can11 rfl rfl (rnum_c _ _ h10) ?_
    rintro _ w11 ⟨rfl, h11⟩
    refine ⟨_, rfl, ?_⟩
    refine WL.gon rfl rfl rfl ?_
    refine WL.v (Runs.boolT (c := false) (Runs.lsneq (b := []) rfl rfl) (by rw [decide_eq_true (Classical.not_not.1 q9)]; rfl)) rfl ?_
    refine WL.v (Runs.pick rfl rfl rfl) rfl ?_
    refine WL.v (Runs.move rfl) rfl ?_
    refine WL.goff rfl rfl rfl rfl ?_
    refine WL.goff rfl rfl rfl rfl ?_
    refine WL.goff rfl rfl rfl rfl ?_
    refine WL.goff rfl rfl rfl rfl ?_
    refine WL.v (Runs.pick rfl rfl rfl) rfl ?_
    refine WL.v (Runs.assign rfl) rfl ?_
    refine WL.nil ?_
    refine WN.thn ?_
    refine WC.ret ?_
    refine ret1 rfl rfl ⟨?_, h11.drop 0⟩
    rw [decide_eq_false (fun hm => q9 ((may_eq m).2 hm).2.2.2.2.2.2.2.2.2.1)]; rfl
  · skip
    refine WC.reg ?_
    refine WL.v (Runs.fld fld24_0 rfl) rfl ?_
    refine WL.v (Runs.load1 Try.underlying3 rfl rfl (h1.ocell (i := 0) rfl rfl)) rfl ?_
    refine WL.v (Runs.boolT (c := true) (Runs.geq rfl rfl) (decide_eq_true q0)) rfl ?_
    refine WL.v (Runs.move rfl) rfl ?_
    refine WL.gon rfl rfl rfl ?_
    refine WL.v (Runs.fld fld24_0 rfl) rfl ?_
    refine WL.gon rfl rfl rfl ?_
    refine WL.v (Runs.load1 Try.underlying3 rfl rfl (h1.ocell (i := 0) rfl rfl)) rfl ?_
    refine WL.gon rfl rfl rfl ?_
    refine WL.v (Runs.boolT (c := true) (Runs.leq rfl rfl) (decide_eq_true q1)) rfl ?_
    refine WL.v (Runs.pick rfl rfl rfl) rfl ?_
    refine WL.v (Runs.move rfl) rfl ?_
    refine WL.gon rfl rfl rfl ?_
    refine WL.v (Runs.fld fld24_1 rfl) rfl ?_
    refine WL.gon rfl rfl rfl ?_
    refine WL.v (Runs.load1 Try.underlying3 rfl rfl (h1.ocell (i := 0) rfl rfl)) rfl ?_
    refine WL.gon rfl rfl rfl ?_
    refine WL.v (Runs.boolT (c := true) (Runs.geq rfl rfl) (decide_eq_true q2)) rfl ?_
    refine WL.v (Runs.pick rfl rfl rfl) rfl ?_
    refine WL.v (Runs.move rfl) rfl ?_
    refine WL.gon rfl rfl rfl ?_
    refine WL.v (Runs.fld fld24_1 rfl) rfl ?_
    refine WL.gon rfl rfl rfl ?_
    refine WL.v (Runs.load1 Try.underlying3 rfl rfl (h1.ocell (i := 0) rfl rfl)) rfl ?_
    refine WL.gon rfl rfl rfl ?_
    refine WL.v (Runs.boolT (c := true) (Runs.leq rfl rfl) (decide_eq_true q3)) rfl ?_
    refine WL.v (Runs.pick rfl rfl rfl) rfl ?_
    refine WL.v (Runs.move rfl) rfl ?_
    refine WL.gon rfl rfl rfl ?_
    refine WL.v (Runs.fld fld24_2 rfl) rfl ?_
    refine WL.gon rfl rfl rfl ?_
    refine WL.v (Runs.load1 Try.underlying3 rfl rfl (h1.ocell (i := 0) rfl rfl)) rfl ?_
    refine WL.gon rfl rfl rfl ?_
    refine WL.v (Runs.boolT (c := true) (Runs.geq rfl rfl) (decide_eq_true q4)) rfl ?_
    refine WL.v (Runs.pick rfl rfl rfl) rfl ?_
    refine WL.v (Runs.move rfl) rfl ?_
    refine WL.gon rfl rfl rfl ?_
    refine WL.v (Runs.fld fld24_2 rfl) rfl ?_
    refine WL.gon rfl rfl rfl ?_
    refine WL.v (Runs.load1 Try.underlying3 rfl rfl (h1.ocell (i := 0) rfl rfl)) rfl ?_
    refine WL.gon rfl rfl rfl ?_
    refine WL.v (Runs.boolT (c := true) (Runs.leq rfl rfl) (decide_eq_true q5)) rfl ?_
    refine WL.v (Runs.pick rfl rfl rfl) rfl ?_
    refine WL.v (Runs.move rfl) rfl ?_
    refine WL.gon rfl rfl rfl ?_
    refine WL.v (Runs.fld fld24_3 rfl) rfl ?_
    refine WL.gon rfl rfl rfl ?_
    refine WL.v (Runs.load1 Try.underlying3 rfl rfl (h1.ocell (i := 0) rfl rfl)) rfl ?_
    refine WL.gon rfl rfl rfl ?_
    refine WL.call can11 rfl rfl (rnum_c _ _ h1) ?_
    rintro _ w12 ⟨rfl, h12⟩
    refine ⟨_, rfl, ?_⟩
    refine WL.gon rfl rfl rfl ?_
    refine WL.v (Runs.boolT (c := true) (Runs.lsneq (b := []) rfl rfl) (by rw [decide_eq_false q6]; rfl)) rfl ?_
    refine WL.v (Runs.pick rfl rfl rfl) rfl ?_
    refine WL.v (Runs.move rfl) rfl ?_
    refine WL.gon rfl rfl rfl ?_
    refine WL.v (Runs.fld fld24_4 rfl) rfl ?_
    refine WL.gon rfl rfl rfl ?_
    refine WL.v (Runs.load1 Try.underlying3 rfl rfl (h12.ocell (i := 0) rfl rfl)) rfl ?_
    refine WL.gon rfl rfl rfl ?_
    refine WL.call can11 rfl rfl (rnum_c _ _ h12) ?_
    rintro _ w13 ⟨rfl, h13⟩
    refine ⟨_, rfl, ?_⟩
    refine WL.gon rfl rfl rfl ?_
    refine WL.v (Runs.boolT (c := true) (Runs.lsneq (b := []) rfl rfl) (by rw [decide_eq_false q7]; rfl)) rfl ?_
    refine WL.v (Runs.pick rfl rfl rfl) rfl ?_
    refine WL.v (Runs.move rfl) rfl ?_
    refine WL.gon rfl rfl rfl ?_
    refine WL.v (Runs.fld fld24_5 rfl) rfl ?_
    refine WL.gon rfl rfl rfl ?_
    refine WL.v (Runs.load1 Try.underlying3 rfl rfl (h13.ocell (i := 0) rfl rfl)) rfl ?_
    refine WL.gon rfl rfl rfl ?_
    refine WL.call can11 rfl rfl (rnum_c _ _ h13) ?_
    rintro _ w14 ⟨rfl, h14⟩
    refine ⟨_, rfl, ?_⟩
    refine WL.gon rfl rfl rfl ?_
    refine WL.v (Runs.boolT (c := true) (Runs.lsneq (b := []) rfl rfl) (by rw [decide_eq_false q8]; rfl)) rfl ?_
    refine WL.v (Runs.pick rfl rfl rfl) rfl ?_
    refine WL.v (Runs.move rfl) rfl ?_
    refine WL.gon rfl rfl rfl ?_
    refine WL.v (Runs.fld fld24_6 rfl) rfl ?_
    refine WL.gon rfl rfl rfl ?_
    refine WL.v (Runs.load1 Try.underlying3 rfl rfl (h14.ocell (i := 0) rfl rfl)) rfl ?_
    refine WL.gon rfl rfl rfl ?_
    refine WL.call can11 rfl rfl (rnum_c _ _ h14) ?_
    rintro _ w15 ⟨rfl, h15⟩
    refine ⟨_, rfl, ?_⟩
    refine WL.gon rfl rfl rfl ?_
    refine WL.v (Runs.boolT (c := true) (Runs.lsneq (b := []) rfl rfl) (by rw [decide_eq_false q9]; rfl)) rfl ?_
    refine WL.v (Runs.pick rfl rfl rfl) rfl ?_
    refine WL.v (Runs.move rfl) rfl ?_
    refine WL.gon rfl rfl rfl ?_
    refine WL.v (Runs.fld fld24_7 rfl) rfl ?_
    refine WL.gon rfl rfl rfl ?_
    refine WL.v (Runs.load1 Try.underlying9 rfl rfl (h15.ocell (i := 0) rfl rfl)) rfl ?_
    refine WL.gon rfl rfl rfl ?_
    refine WL.v (Runs.intT (n := (m.tx.length : Int)) (Runs.slen Try.underlying9 rfl rfl) rfl) rfl ?_
    refine WL.gon rfl rfl rfl ?_
    refine WL.v (Runs.boolT (c := false) (Runs.leq rfl rfl) (decide_eq_false q10)) rfl ?_
    refine WL.v (Runs.pick rfl rfl rfl) rfl ?_
    refine WL.v (Runs.assign rfl) rfl ?_
    refine WL.nil ?_
    refine WN.thn ?_
    refine WC.ret ?_
    refine ret1 rfl rfl ⟨?_, h15.drop 0⟩
    rw [decide_eq_false (fun hm => q10 ((may_eq m).2 hm).2.2.2.2.2.2.2.2.2.2)]; rfl
  · skip
    refine WC.reg ?_
    refine WL.v (Runs.fld fld24_0 rfl) rfl ?_
    refine WL.v (Runs.load1 Try.underlying3 rfl rfl (h1.ocell (i := 0) rfl rfl)) rfl ?_
    refine WL.v (Runs.boolT (c := true) (Runs.geq rfl rfl) (decide_eq_true q0)) rfl ?_
    refine WL.v (Runs.move rfl) rfl ?_
    refine WL.gon rfl rfl rfl ?_
    refine WL.v (Runs.fld fld24_0 rfl) rfl ?_
    refine WL.gon rfl rfl rfl ?_
    refine WL.v (Runs.load1 Try.underlying3 rfl rfl (h1.ocell (i := 0) rfl rfl)) rfl ?_
    refine WL.gon rfl rfl rfl ?_
    refine WL.v (Runs.boolT (c := true) (Runs.leq rfl rfl) (decide_eq_true q1)) rfl ?_
    refine WL.v (Runs.pick rfl rfl rfl) rfl ?_
    refine WL.v (Runs.move rfl) rfl ?_
    refine WL.gon rfl rfl rfl ?_
    refine WL.v (Runs.fld fld24_1 rfl) rfl ?_
    refine WL.gon rfl rfl rfl ?_
    refine WL.v (Runs.load1 Try.underlying3 rfl rfl (h1.ocell (i := 0) rfl rfl)) rfl ?_
    refine WL.gon rfl rfl rfl ?_
    refine WL.v (Runs.boolT (c := true) (Runs.geq rfl rfl) (decide_eq_true q2)) rfl ?_
    refine WL.v (Runs.pick rfl rfl rfl) rfl ?_
    refine WL.v (Runs.move rfl) rfl ?_
    refine WL.gon rfl rfl rfl ?_
    refine WL.v (Runs.fld fld24_1 rfl) rfl ?_
    refine WL.gon rfl rfl rfl ?_
    refine WL.v (Runs.load1 Try.underlying3 rfl rfl (h1.ocell (i := 0) rfl rfl)) rfl ?_
    refine WL.gon rfl rfl rfl ?_
    refine WL.v (Runs.boolT (c := true) (Runs.leq rfl rfl) (decide_eq_true q3)) rfl ?_
    refine WL.v (Runs.pick rfl rfl rfl) rfl ?_
    refine WL.v (Runs.move rfl) rfl ?_
    refine WL.gon rfl rfl rfl ?_
    refine WL.v (Runs.fld fld24_2 rfl) rfl ?_
    refine WL.gon rfl rfl rfl ?_
    refine WL.v (Runs.load1 Try.underlying3 rfl rfl (h1.ocell (i := 0) rfl rfl)) rfl ?_
    refine WL.gon rfl rfl rfl ?_
    refine WL.v (Runs.boolT (c := true) (Runs.geq rfl rfl) (decide_eq_true q4)) rfl ?_
    refine WL.v (Runs.pick rfl rfl rfl) rfl ?_
    refine WL.v (Runs.move rfl) rfl ?_
    refine WL.gon rfl rfl rfl ?_
    refine WL.v (Runs.fld fld24_2 rfl) rfl ?_
    refine WL.gon rfl rfl rfl ?_
    refine WL.v (Runs.load1 Try.underlying3 rfl rfl (h1.ocell (i := 0) rfl rfl)) rfl ?_
    refine WL.gon rfl rfl rfl ?_
    refine WL.v (Runs.boolT (c := true) (Runs.leq rfl rfl) (decide_eq_true q5)) rfl ?_
    refine WL.v (Runs.pick rfl rfl rfl) rfl ?_
    refine WL.v (Runs.move rfl) rfl ?_
    refine WL.gon rfl rfl rfl ?_
    refine WL.v (Runs.fld fld24_3 rfl) rfl ?_
    refine WL.gon rfl rfl rfl ?_
    refine WL.v (Runs.load1 Try.underlying3 rfl rfl (h1.ocell (i := 0) rfl rfl)) rfl ?_
    refine WL.gon rfl rfl rfl ?_
    refine WL.call can11 rfl rfl (rnum_c _ _ h1) ?_
    rintro _ w16 ⟨rfl, h16⟩
    refine ⟨_, rfl, ?_⟩
    refine WL.gon rfl rfl rfl ?_
    refine WL.v (Runs.boolT (c := true) (Runs.lsneq (b := []) rfl rfl) (by rw [decide_eq_false q6]; rfl)) rfl ?_
    refine WL.v (Runs.pick rfl rfl rfl) rfl ?_
    refine WL.v (Runs.move rfl) rfl ?_
    refine WL.gon rfl rfl rfl ?_
    refine WL.v (Runs.fld fld24_4 rfl) rfl ?_
    refine WL.gon rfl rfl rfl ?_
    refine WL.v (Runs.load1 Try.underlying3 rfl rfl (h16.ocell (i := 0) rfl rfl)) rfl ?_
    refine WL.gon rfl rfl rfl ?_
    refine WL.call can11 rfl rfl (rnum_c _ _ h16) ?_
    rintro _ w17 ⟨rfl, h17⟩
    refine ⟨_, rfl, ?_⟩
    refine WL.gon rfl rfl rfl ?_
    refine WL.v (Runs.boolT (c := true) (Runs.lsneq (b := []) rfl rfl) (by rw [decide_eq_false q7]; rfl)) rfl ?_
    refine WL.v (Runs.pick rfl rfl rfl) rfl ?_
    refine WL.v (Runs.move rfl) rfl ?_
    refine WL.gon rfl rfl rfl ?_
    refine WL.v (Runs.fld fld24_5 rfl) rfl ?_
    refine WL.gon rfl rfl rfl ?_
    refine WL.v (Runs.load1 Try.underlying3 rfl rfl (h17.ocell (i := 0) rfl rfl)) rfl ?_
    refine WL.gon rfl rfl rfl ?_
    refine WL.call can11 rfl rfl (rnum_c _ _ h17) ?_
    rintro _ w18 ⟨rfl, h18⟩
    refine ⟨_, rfl, ?_⟩
    refine WL.gon rfl rfl rfl ?_
    refine WL.v (Runs.boolT (c := true) (Runs.lsneq (b := []) rfl rfl) (by rw [decide_eq_false q8]; rfl)) rfl ?_
    refine WL.v (Runs.pick rfl rfl rfl) rfl ?_
    refine WL.v (Runs.move rfl) rfl ?_
    refine WL.gon rfl rfl rfl ?_
    refine WL.v (Runs.fld fld24_6 rfl) rfl ?_
    refine WL.gon rfl rfl rfl ?_
    refine WL.v (Runs.load1 Try.underlying3 rfl rfl (h18.ocell (i := 0) rfl rfl)) rfl ?_
    refine WL.gon rfl rfl rfl ?_
    refine WL.call can11 rfl rfl (rnum_c _ _ h18) ?_
    rintro _ w19 ⟨rfl, h19⟩
    refine ⟨_, rfl, ?_⟩
    refine WL.gon rfl rfl rfl ?_
    refine WL.v (Runs.boolT (c := true) (Runs.lsneq (b := []) rfl rfl) (by rw [decide_eq_false q9]; rfl)) rfl ?_
    refine WL.v (Runs.pick rfl rfl rfl) rfl ?_
    refine WL.v (Runs.move rfl) rfl ?_
    refine WL.gon rfl rfl rfl ?_
    refine WL.v (Runs.fld fld24_7 rfl) rfl ?_
    refine WL.gon rfl rfl rfl ?_
    refine WL.v (Runs.load1 Try.underlying9 rfl rfl (h19.ocell (i := 0) rfl rfl)) rfl ?_
    refine WL.gon rfl rfl rfl ?_
    refine WL.v (Runs.intT (n := (m.tx.length : Int)) (Runs.slen Try.underlying9 rfl rfl) rfl) rfl ?_
    refine WL.gon rfl rfl rfl ?_
    refine WL.v (Runs.boolT (c := true) (Runs.leq rfl rfl) (decide_eq_true q10)) rfl ?_
    refine WL.v (Runs.pick rfl rfl rfl) rfl ?_
    refine WL.v (Runs.assign rfl) rfl ?_
    refine WL.nil ?_
    refine WN.thn ?_
    refine WC.ret ?_
    refine ret1 rfl rfl ⟨?_, h19.drop 0⟩
    rw [decide_eq_true ((may_eq m).1 ⟨q0, q1, q2, q3, q4, q5, q6, q7, q8, q9, q10⟩)]; rfl
set_option maxRecDepth 100000 in
set_option maxHeartbeats 8000000 in
theorem renc_c {W : World} {F : Snap} {cs : List Res} (w : World) (m : M) (h : St W F cs w) (hl : m.tx.length ≤ 100000) : Calls Try.prog 17 #[m.val] w fun r w' => r = .returned (.string (bs (encB m))) ∧ St W F cs w'  := by
  refine enter (P := Try.prog) (args := [.agg #[Vi m.k, Vi m.f, Vi m.t, Vi m.j, Vi m.ep, Vi m.st, Vi m.ar, .string (bs m.tx)]]) Try.func17 rfl rfl rfl ?_
  refine WC.seq ?_
  refine WC.reg ?_
  refine WL.box rfl h rfl ?_
  intro b1 w1 h1
  refine WL.v (Runs.assign rfl) rfl ?_
  refine WL.nil ?_
  refine WN.thn ?_
  refine WC.seq ?_
  refine WC.seq ?_
  by_cases hmy : mayM m
  · skip
    refine WC.reg ?_
    refine WL.v (Runs.loadAll h1 0 rfl Try.underlying24 rfl inf24 rfl rfl) rfl ?_
    refine WL.call can35 rfl rfl (rmay_c _ m h1) ?_
    rintro _ w2 ⟨rfl, h2⟩
    refine ⟨_, rfl, ?_⟩
    refine WL.v (Runs.not rfl) rfl ?_
    refine WL.nil ?_
    refine WN.thn ?_
    refine WC.condF rfl ((by rw [decide_eq_true hmy]; rfl)) ?_
    refine WC.skip ?_
    refine WN.thn ?_
    refine WC.seq ?_
    have hmy2 := hmy
    obtain ⟨q0, q1, q2, q3, q4, q5, q6, q7, q8⟩ := hmy2
    refine WC.eregO h2 (fun s_ => ([] : List Nat).any (Nat.beq s_)) mixed (by kernel_rfl) (fun hx => ?_)
    intro w3 h3
    refine WE.pure (g := none) hx 0 (by rfl) trivial (by kernel_rfl) (by kernel_rfl) (by kernel_rfl) (by kernel_rfl) (fun w_ => Runs.fld fld24_0 rfl) rfl ?_
    refine WE.pure (g := none) hx 3 (by rfl) trivial (by kernel_rfl) (by kernel_rfl) (by kernel_rfl) (by kernel_rfl) (fun w_ => Runs.fld fld24_1 rfl) rfl ?_
    refine WE.pure (g := none) hx 8 (by rfl) trivial (by kernel_rfl) (by kernel_rfl) (by kernel_rfl) (by kernel_rfl) (fun w_ => Runs.fld fld24_2 rfl) rfl ?_
    refine WE.pure (g := none) hx 13 (by rfl) trivial (by kernel_rfl) (by kernel_rfl) (by kernel_rfl) (by kernel_rfl) (fun w_ => Runs.fld fld24_3 rfl) rfl ?_
    refine WE.pure (g := none) hx 17 (by rfl) trivial (by kernel_rfl) (by kernel_rfl) (by kernel_rfl) (by kernel_rfl) (fun w_ => Runs.fld fld24_4 rfl) rfl ?_
    refine WE.pure (g := none) hx 21 (by rfl) trivial (by kernel_rfl) (by kernel_rfl) (by kernel_rfl) (by kernel_rfl) (fun w_ => Runs.fld fld24_5 rfl) rfl ?_
    refine WE.pure (g := none) hx 25 (by rfl) trivial (by kernel_rfl) (by kernel_rfl) (by kernel_rfl) (by kernel_rfl) (fun w_ => Runs.fld fld24_6 rfl) rfl ?_
    refine WE.pure (g := none) hx 29 (by rfl) trivial (by kernel_rfl) (by kernel_rfl) (by kernel_rfl) (by kernel_rfl) (fun w_ => Runs.fld fld24_7 rfl) rfl ?_
    refine WE.val (g := none) 12 hx 1 (by rfl) trivial (by kernel_rfl) (by kernel_rfl) (by kernel_rfl) (by kernel_rfl) (fun w_ hE_ => Runs.load1 Try.underlying3 rfl rfl (hE_.ocell (i := 0) rfl rfl)) rfl ?_
    refine WE.val (g := none) 12 hx 4 (by rfl) trivial (by kernel_rfl) (by kernel_rfl) (by kernel_rfl) (by kernel_rfl) (fun w_ hE_ => Runs.load1 Try.underlying3 rfl rfl (hE_.ocell (i := 0) rfl rfl)) rfl ?_
    refine WE.pure (g := none) hx 5 (by rfl) trivial (by kernel_rfl) (by kernel_rfl) (by kernel_rfl) (by kernel_rfl) (fun w_ => Runs.addn rfl rfl (by omega)) rfl ?_
    refine WE.val (g := none) 12 hx 9 (by rfl) trivial (by kernel_rfl) (by kernel_rfl) (by kernel_rfl) (by kernel_rfl) (fun w_ hE_ => Runs.load1 Try.underlying3 rfl rfl (hE_.ocell (i := 0) rfl rfl)) rfl ?_
    refine WE.pure (g := none) hx 10 (by rfl) trivial (by kernel_rfl) (by kernel_rfl) (by kernel_rfl) (by kernel_rfl) (fun w_ => Runs.addn rfl rfl (by omega)) rfl ?_
    refine WE.val (g := none) 12 hx 14 (by rfl) trivial (by kernel_rfl) (by kernel_rfl) (by kernel_rfl) (by kernel_rfl) (fun w_ hE_ => Runs.load1 Try.underlying3 rfl rfl (hE_.ocell (i := 0) rfl rfl)) rfl ?_
    refine WE.val (g := none) 12 hx 18 (by rfl) trivial (by kernel_rfl) (by kernel_rfl) (by kernel_rfl) (by kernel_rfl) (fun w_ hE_ => Runs.load1 Try.underlying3 rfl rfl (hE_.ocell (i := 0) rfl rfl)) rfl ?_
    refine WE.val (g := none) 12 hx 22 (by rfl) trivial (by kernel_rfl) (by kernel_rfl) (by kernel_rfl) (by kernel_rfl) (fun w_ hE_ => Runs.load1 Try.underlying3 rfl rfl (hE_.ocell (i := 0) rfl rfl)) rfl ?_
    refine WE.val (g := none) 12 hx 26 (by rfl) trivial (by kernel_rfl) (by kernel_rfl) (by kernel_rfl) (by kernel_rfl) (fun w_ hE_ => Runs.load1 Try.underlying3 rfl rfl (hE_.ocell (i := 0) rfl rfl)) rfl ?_
    refine WE.val (g := none) 12 hx 30 (by rfl) trivial (by kernel_rfl) (by kernel_rfl) (by kernel_rfl) (by kernel_rfl) (fun w_ hE_ => Runs.load1 Try.underlying9 rfl rfl (hE_.ocell (i := 0) rfl rfl)) rfl ?_
    refine WE.op (.inr h3) (i := 2) (by rfl) (by kernel_rfl) ?_
    refine WL.call can11 rfl rfl (rnum_c _ _ h3) ?_
    rintro _ w4 ⟨rfl, h4⟩
    refine ⟨_, rfl, ?_⟩
    refine WL.nil ?_
    refine WE.next ?_
    refine WE.op (.inr h4) (i := 6) (by rfl) (by kernel_rfl) ?_
    refine WL.call can11 rfl rfl (rnum_c _ _ h4) ?_
    rintro _ w5 ⟨rfl, h5⟩
    refine ⟨_, rfl, ?_⟩
    refine WL.nil ?_
    refine WE.next ?_
    refine WE.pure (g := none) hx 7 (by rfl) trivial (by kernel_rfl) (by kernel_rfl) (by kernel_rfl) (by kernel_rfl) (fun w_ => Runs.lsadd rfl rfl (by have := text_len hl; have := numB_len m.k; have := numB_len (m.f + 1); have := numB_len (m.t + 1); have := numB_len m.j; have := numB_len m.ep; have := numB_len m.st; have := numB_len m.ar; (try simp only [List.length_append]); omega)) rfl ?_
    refine WE.op (.inr h5) (i := 11) (by rfl) (by kernel_rfl) ?_
    refine WL.call can11 rfl rfl (rnum_c _ _ h5) ?_
    rintro _ w6 ⟨rfl, h6⟩
    refine ⟨_, rfl, ?_⟩
    refine WL.nil ?_
    refine WE.next ?_
    refine WE.pure (g := none) hx 12 (by rfl) trivial (by kernel_rfl) (by kernel_rfl) (by kernel_rfl) (by kernel_rfl) (fun w_ => Runs.lsadd rfl rfl (by have := text_len hl; have := numB_len m.k; have := numB_len (m.f + 1); have := numB_len (m.t + 1); have := numB_len m.j; have := numB_len m.ep; have := numB_len m.st; have := numB_len m.ar; (try simp only [List.length_append]); omega)) rfl ?_
    refine WE.op (.inr h6) (i := 15) (by rfl) (by kernel_rfl) ?_
    refine WL.call can11 rfl rfl (rnum_c _ _ h6) ?_
    rintro _ w7 ⟨rfl, h7⟩
    refine ⟨_, rfl, ?_⟩
    refine WL.nil ?_
    refine WE.next ?_
    refine WE.pure (g := none) hx 16 (by rfl) trivial (by kernel_rfl) (by kernel_rfl) (by kernel_rfl) (by kernel_rfl) (fun w_ => Runs.lsadd rfl rfl (by have := text_len hl; have := numB_len m.k; have := numB_len (m.f + 1); have := numB_len (m.t + 1); have := numB_len m.j; have := numB_len m.ep; have := numB_len m.st; have := numB_len m.ar; (try simp only [List.length_append]); omega)) rfl ?_
    refine WE.op (.inr h7) (i := 19) (by rfl) (by kernel_rfl) ?_
    refine WL.call can11 rfl rfl (rnum_c _ _ h7) ?_
    rintro _ w8 ⟨rfl, h8⟩
    refine ⟨_, rfl, ?_⟩
    refine WL.nil ?_
    refine WE.next ?_
    refine WE.pure (g := none) hx 20 (by rfl) trivial (by kernel_rfl) (by kernel_rfl) (by kernel_rfl) (by kernel_rfl) (fun w_ => Runs.lsadd rfl rfl (by have := text_len hl; have := numB_len m.k; have := numB_len (m.f + 1); have := numB_len (m.t + 1); have := numB_len m.j; have := numB_len m.ep; have := numB_len m.st; have := numB_len m.ar; (try simp only [List.length_append]); omega)) rfl ?_
    refine WE.op (.inr h8) (i := 23) (by rfl) (by kernel_rfl) ?_
    refine WL.call can11 rfl rfl (rnum_c _ _ h8) ?_
    rintro _ w9 ⟨rfl, h9⟩
    refine ⟨_, rfl, ?_⟩
    refine WL.nil ?_
    refine WE.next ?_
    refine WE.pure (g := none) hx 24 (by rfl) trivial (by kernel_rfl) (by kernel_rfl) (by kernel_rfl) (by kernel_rfl) (fun w_ => Runs.lsadd rfl rfl (by have := text_len hl; have := numB_len m.k; have := numB_len (m.f + 1); have := numB_len (m.t + 1); have := numB_len m.j; have := numB_len m.ep; have := numB_len m.st; have := numB_len m.ar; (try simp only [List.length_append]); omega)) rfl ?_
    refine WE.op (.inr h9) (i := 27) (by rfl) (by kernel_rfl) ?_
    refine WL.call can11 rfl rfl (rnum_c _ _ h9) ?_
    rintro _ w10 ⟨rfl, h10⟩
    refine ⟨_, rfl, ?_⟩
    refine WL.nil ?_
    refine WE.next ?_
    refine WE.pure (g := none) hx 28 (by rfl) trivial (by kernel_rfl) (by kernel_rfl) (by kernel_rfl) (by kernel_rfl) (fun w_ => Runs.lsadd rfl rfl (by have := text_len hl; have := numB_len m.k; have := numB_len (m.f + 1); have := numB_len (m.t + 1); have := numB_len m.j; have := numB_len m.ep; have := numB_len m.st; have := numB_len m.ar; (try simp only [List.length_append]); omega)) rfl ?_
    refine WE.op (.inr h10) (i := 31) (by rfl) (by kernel_rfl) ?_
    refine WL.call can13 rfl rfl (rtext_c _ _ h10 hl) ?_
    rintro _ w11 ⟨rfl, h11⟩
    refine ⟨_, rfl, ?_⟩
    refine WL.nil ?_
    refine WE.next ?_
    refine WE.pure (g := none) hx 32 (by rfl) trivial (by kernel_rfl) (by kernel_rfl) (by kernel_rfl) (by kernel_rfl) (fun w_ => Runs.lsadd rfl rfl (by have := text_len hl; have := numB_len m.k; have := numB_len (m.f + 1); have := numB_len (m.t + 1); have := numB_len m.j; have := numB_len m.ep; have := numB_len m.st; have := numB_len m.ar; (try simp only [List.length_append]); omega)) rfl ?_
    refine WE.pure (g := none) hx 33 (by rfl) trivial (by kernel_rfl) (by kernel_rfl) (by kernel_rfl) (by kernel_rfl) (fun w_ => Runs.assign rfl) rfl ?_
    refine WE.fin (.inr h11) (by kernel_rfl) ?_
    refine WN.thn ?_
    refine WC.ret ?_
    refine ret1 rfl rfl ⟨?_, h11.drop 0⟩
    unfold encB
    rw [if_pos hmy]
    simp [numsM]
  · skip
    refine WC.reg ?_
    refine WL.v (Runs.loadAll h1 0 rfl Try.underlying24 rfl inf24 rfl rfl) rfl ?_
    refine WL.call can35 rfl rfl (rmay_c _ m h1) ?_
    rintro _ w12 ⟨rfl, h12⟩
    refine ⟨_, rfl, ?_⟩
    refine WL.v (Runs.not rfl) rfl ?_
    refine WL.nil ?_
    refine WN.thn ?_
    refine WC.condT rfl ((by rw [decide_eq_false hmy]; rfl)) ?_
    refine WC.seq ?_
    refine WC.reg ?_
    refine WL.v (Runs.assign rfl) rfl ?_
    refine WL.nil ?_
    refine WN.thn ?_
    refine WC.ret ?_
    refine ret1 rfl rfl ⟨?_, h12.drop 0⟩
    unfold encB
    rw [if_neg hmy]; rfl
end Wir
end Go.Proofs.Ytfiknofmniiehaa
