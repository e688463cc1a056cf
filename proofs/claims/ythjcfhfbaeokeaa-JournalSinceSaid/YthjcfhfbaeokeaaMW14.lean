/- Walks of the reference of chapter 02: what it writes. -/
import Derived.Test.YthjcfhfbaeokeaaMJ1
namespace Go.Proofs.Ythjcfhfbaeokeaa
open Go Go.RowKit B
set_option linter.unusedVariables false
set_option linter.unusedSimpArgs false
namespace Wir

theorem can37 : B.Can Try.prog 37 := ⟨_, Try.func37, by kernel_rfl, rfl⟩   -- roundhouse/roundhouseref02.Num
theorem can47 : B.Can Try.prog 47 := ⟨_, Try.func47, by kernel_rfl, rfl⟩   -- roundhouse/roundhouseref02.high
set_option maxRecDepth 100000 in
set_option maxHeartbeats 1000000 in
theorem high_c {W : World} {F : Snap} {cs : List Res} (w : World) (m : Nat) (h : St W F cs w) (hm : m ≤ 1099511627776) : Calls Try.prog 47 #[Vi (m : Int)] w fun r w' => r = .returned (.string (bs (hi m))) ∧ St W F cs w'  := by
  refine enter (P := Try.prog) (args := [Vi (m : Int)]) Try.func47 rfl rfl rfl ?_
  refine WC.seq ?_
  refine WC.reg ?_
  refine WL.v (Runs.assign rfl) rfl ?_
  refine WL.nil ?_
  refine WN.thn ?_
  refine WC.seq ?_
  refine WC.reg ?_
  refine WL.v (Runs.assign rfl) rfl ?_
  refine WL.nil ?_
  refine WN.thn ?_
  refine WC.seq ?_
  refine WC.block ?_
  refine WC.loop (σ := Nat × List UInt8) (fun q_ => [(0, Vi (q_.1 : Int)), (3, .string (bs q_.2))]) (fun q_ w => q_.1 ≤ m ∧ hi m = hi q_.1 ++ q_.2 ∧ q_.2.length ≤ (hi m).length ∧ St W F cs w) (fun q_ => q_.1) (⟨m, []⟩) (by repeat (first | exact trivial | refine ⟨rfl, ?_⟩)) (⟨Nat.le_refl _, by simp, by simp, h⟩) ?_
  rintro ⟨n, s⟩ w1 ⟨hn, he, hs, hL⟩
  try dsimp only at hn he hs hL
  refine WC.sub (s := [(0, Vi (n : Int)), (3, .string (bs s))]) (by repeat (first | exact trivial | refine ⟨rfl, ?_⟩)) ?_
  refine WC.seq ?_
  refine WC.seq ?_
  refine WC.reg ?_
  refine WL.v (Runs.move rfl) rfl ?_
  refine WL.v (Runs.gtr rfl rfl) rfl ?_
  refine WL.nil ?_
  refine WN.thn ?_
  refine WC.cond rfl (fun c2 => ?_) (fun c2 => ?_)
  · try simp only [decide_eq_true_eq, decide_eq_false_iff_not, Bool.not_eq_true', Bool.not_eq_false', Bool.and_eq_true, Int.not_lt, Int.not_le] at c2
    first
    | (exfalso; omega)
    | skip
      refine WC.skip ?_
      refine WN.thn ?_
      refine WC.block ?_
      refine WC.seq ?_
      refine WC.reg ?_
      refine WL.v (Runs.move rfl) rfl ?_
      refine WL.v (Runs.remn (m := (n : Int)) (n := 256) rfl rfl (by omega) (by omega)) rfl ?_
      refine WL.v (Runs.ito8 Try.underlying3 Try.underlying5 (m := n % 256) rfl (by omega)) rfl ?_
      refine WL.lit (vs := (([UInt8.ofNat (n % 256)] : List UInt8)).map V8) hL rfl Try.underlying53 inf5 rfl rfl rfl rfl rfl ?_
      intro lit9 w3 h3
      refine WL.v (Runs.valT (u := .string (bs [UInt8.ofNat (n % 256)])) (Runs.b2s Try.underlying53 Try.underlying5 Try.underlying9 rfl rfl (bs := [UInt8.ofNat (n % 256)]) (.inr ⟨_, rfl, fun j b hb => by rw [add_mk, Nat.zero_add]; exact h3.ocell (i := 0) rfl (one_el hb)⟩)) rfl) rfl ?_
      refine WL.v (Runs.move rfl) rfl ?_
      refine WL.v (Runs.lsadd (a := [UInt8.ofNat (n % 256)]) (b := s) rfl rfl (by have := hi_six hm; simp; omega)) rfl ?_
      refine WL.v (Runs.assign rfl) rfl ?_
      refine WL.nil ?_
      refine WN.thn ?_
      refine WC.reg ?_
      refine WL.v (Runs.move rfl) rfl ?_
      refine WL.v (Runs.intT (n := ((n / 256 : Nat) : Int)) (Runs.quon (m := (n : Int)) (n := 256) rfl rfl (by omega) (by omega)) (by omega)) rfl ?_
      refine WL.v (Runs.assign rfl) rfl ?_
      refine WL.nil ?_
      refine WN.blk ?_
      refine WN.again (⟨n / 256, UInt8.ofNat (n % 256) :: s⟩ : Nat × List UInt8) (by show n / 256 < n; omega) ⟨rfl, rfl, trivial⟩ ⟨by show n / 256 ≤ m; omega, ?_, ?_, h3.drop 0⟩
      · show hi m = hi (n / 256) ++ (UInt8.ofNat (n % 256) :: s)
        rw [he, hi_s (n := n) (by omega), show UInt8.ofNat (n % 256) = UInt8.ofNat n from UInt8.toNat_inj.1 (by rw [UInt8.toNat_ofNat', UInt8.toNat_ofNat']; omega)]
        simp
      · show (UInt8.ofNat (n % 256) :: s).length ≤ _
        rw [he, hi_s (n := n) (by omega)]
        simp
  · try simp only [decide_eq_true_eq, decide_eq_false_iff_not, Bool.not_eq_true', Bool.not_eq_false', Bool.and_eq_true, Int.not_lt, Int.not_le] at c2
    first
    | (exfalso; omega)
    | skip
      refine WC.exit ?_
      refine WX.thn ?_
      refine WX.cut ?_
      refine WX.hit ?_
      refine WN.thn ?_
      refine WC.seq ?_
      refine WC.reg ?_
      refine WL.v (Runs.move rfl) rfl ?_
      refine WL.v (Runs.assign rfl) rfl ?_
      refine WL.nil ?_
      refine WN.thn ?_
      refine WC.ret ?_
      obtain rfl : n = 0 := by omega
      refine ret1 rfl rfl ⟨?_, hL⟩
      rw [he, hi_0]; rfl
set_option maxRecDepth 100000 in
set_option maxHeartbeats 1000000 in
theorem rnum_no {W : World} {F : Snap} {cs : List Res} (w : World) (n : Int) (h : St W F cs w) (hn : ¬ mayN n) : Calls Try.prog 37 #[Vi n] w fun r w' => r = .returned (.string (bs (numB n))) ∧ St W F cs w'  := by
  refine enter (P := Try.prog) (args := [Vi n]) Try.func37 rfl rfl rfl ?_
  refine WC.seq ?_
  refine WC.reg ?_
  refine WL.v (Runs.assign rfl) rfl ?_
  refine WL.nil ?_
  refine WN.thn ?_
  refine WC.seq ?_
  refine WC.seq ?_
  have hcase : n < 0 ∨ (0 ≤ n ∧ 1099511627776 < n) := by unfold mayN at hn; omega
  rcases hcase with hA | hB
  · skip
    refine WC.reg ?_
    refine WL.v (Runs.move rfl) rfl ?_
    refine WL.v (Runs.boolT (c := true) (Runs.lss rfl rfl) (by rw [decide_eq_true_eq]; omega)) rfl ?_
    refine WL.v (Runs.move rfl) rfl ?_
    refine WL.goff rfl rfl rfl rfl ?_
    refine WL.goff rfl rfl rfl rfl ?_
    refine WL.v (Runs.pick rfl rfl rfl) rfl ?_
    refine WL.nil ?_
    refine WN.thn ?_
    refine WC.condT rfl (rfl) ?_
    refine WC.seq ?_
    refine WC.reg ?_
    refine WL.v (Runs.assign rfl) rfl ?_
    refine WL.nil ?_
    refine WN.thn ?_
    refine WC.ret ?_
    refine ret1 rfl rfl ⟨?_, h⟩
    rw [numB, if_neg hn]; rfl
  · skip
    refine WC.reg ?_
    refine WL.v (Runs.move rfl) rfl ?_
    refine WL.v (Runs.boolT (c := false) (Runs.lss rfl rfl) (by rw [decide_eq_false_iff_not]; omega)) rfl ?_
    refine WL.v (Runs.move rfl) rfl ?_
    refine WL.gon rfl rfl rfl ?_
    refine WL.v (Runs.move rfl) rfl ?_
    refine WL.gon rfl rfl rfl ?_
    refine WL.v (Runs.boolT (c := true) (Runs.gtr rfl rfl) (by rw [decide_eq_true_eq]; omega)) rfl ?_
    refine WL.v (Runs.pick rfl rfl rfl) rfl ?_
    refine WL.nil ?_
    refine WN.thn ?_
    refine WC.condT rfl (rfl) ?_
    refine WC.seq ?_
    refine WC.reg ?_
    refine WL.v (Runs.assign rfl) rfl ?_
    refine WL.nil ?_
    refine WN.thn ?_
    refine WC.ret ?_
    refine ret1 rfl rfl ⟨?_, h⟩
    rw [numB, if_neg hn]; rfl
set_option maxRecDepth 100000 in
set_option maxHeartbeats 1000000 in
theorem rnum_y {W : World} {F : Snap} {cs : List Res} (w : World) (m : Nat) (h : St W F cs w) (hm : m ≤ 1099511627776) : Calls Try.prog 37 #[Vi (m : Int)] w fun r w' => r = .returned (.string (bs (numN m))) ∧ St W F cs w'  := by
  refine enter (P := Try.prog) (args := [Vi (m : Int)]) Try.func37 rfl rfl rfl ?_
  refine WC.seq ?_
  refine WC.reg ?_
  refine WL.v (Runs.assign rfl) rfl ?_
  refine WL.nil ?_
  refine WN.thn ?_
  refine WC.seq ?_
  refine WC.seq ?_
  refine WC.reg ?_
  refine WL.v (Runs.move rfl) rfl ?_
  refine WL.v (Runs.boolT (c := false) (Runs.lss rfl rfl) (by rw [decide_eq_false_iff_not]; omega)) rfl ?_
  refine WL.v (Runs.move rfl) rfl ?_
  refine WL.gon rfl rfl rfl ?_
  refine WL.v (Runs.move rfl) rfl ?_
  refine WL.gon rfl rfl rfl ?_
  refine WL.v (Runs.boolT (c := false) (Runs.gtr rfl rfl) (by rw [decide_eq_false_iff_not]; omega)) rfl ?_
  refine WL.v (Runs.pick rfl rfl rfl) rfl ?_
  refine WL.nil ?_
  refine WN.thn ?_
  refine WC.condF rfl (rfl) ?_
  refine WC.skip ?_
  refine WN.thn ?_
  refine WC.seq ?_
  refine WC.reg ?_
  refine WL.v (Runs.move rfl) rfl ?_
  refine WL.call can47 rfl rfl (high_c _ m h hm) ?_
  rintro _ w1 ⟨rfl, h1⟩
  refine ⟨_, rfl, ?_⟩
  refine WL.v (Runs.assign rfl) rfl ?_
  refine WL.nil ?_
  refine WN.thn ?_
  refine WC.seq ?_
  refine WC.reg ?_
  refine WL.v (Runs.move rfl) rfl ?_
  refine WL.v (Runs.intT (n := ((hi m).length : Int)) (Runs.slen Try.underlying9 rfl rfl) rfl) rfl ?_
  refine WL.v (Runs.ito8 Try.underlying3 Try.underlying5 (m := (hi m).length) rfl rfl) rfl ?_
  refine WL.lit (vs := (([UInt8.ofNat (hi m).length] : List UInt8)).map V8) h1 rfl Try.underlying53 inf5 rfl rfl rfl rfl rfl ?_
  intro lit15 w2 h2
  refine WL.v (Runs.valT (u := .string (bs [UInt8.ofNat (hi m).length])) (Runs.b2s Try.underlying53 Try.underlying5 Try.underlying9 rfl rfl (bs := [UInt8.ofNat (hi m).length]) (.inr ⟨_, rfl, fun j b hb => by rw [add_mk, Nat.zero_add]; exact h2.ocell (i := 0) rfl (one_el hb)⟩)) rfl) rfl ?_
  refine WL.v (Runs.move rfl) rfl ?_
  refine WL.v (Runs.lsadd (a := [UInt8.ofNat (hi m).length]) (b := hi m) rfl rfl (by have := hi_six hm; simp; omega)) rfl ?_
  refine WL.v (Runs.assign rfl) rfl ?_
  refine WL.nil ?_
  refine WN.thn ?_
  refine WC.ret ?_
  exact ret1 rfl rfl ⟨rfl, h2.drop 0⟩
theorem rnum_c {W : World} {F : Snap} {cs : List Res} (w : World) (n : Int) (h : St W F cs w) : Calls Try.prog 37 #[Vi n] w fun r w' => r = .returned (.string (bs (numB n))) ∧ St W F cs w' := by
  by_cases hn : mayN n
  · have e : n = ((n.toNat : Nat) : Int) := by have := hn.1; omega
    have h2 := hn.2
    rw [numB, if_pos hn]
    have := rnum_y w n.toNat h (by omega)
    rwa [← e] at this
  · exact rnum_no w n h hn
set_option maxRecDepth 100000 in
set_option maxHeartbeats 1000000 in
theorem rtext_c {W : World} {F : Snap} {cs : List Res} (w : World) (l : List UInt8) (h : St W F cs w) (hl : l.length ≤ 100000) : Calls Try.prog 30 #[.string (bs l)] w fun r w' => r = .returned (.string (bs (textB l))) ∧ St W F cs w'  := by
  refine enter (P := Try.prog) (args := [.string (bs l)]) Try.func30 rfl rfl rfl ?_
  refine WC.seq ?_
  refine WC.reg ?_
  refine WL.v (Runs.assign rfl) rfl ?_
  refine WL.nil ?_
  refine WN.thn ?_
  refine WC.seq ?_
  refine WC.seq ?_
  refine WC.reg ?_
  refine WL.v (Runs.move rfl) rfl ?_
  refine WL.v (Runs.intT (n := (l.length : Int)) (Runs.slen Try.underlying9 rfl rfl) rfl) rfl ?_
  refine WL.v (Runs.gtr rfl rfl) rfl ?_
  refine WL.nil ?_
  refine WN.thn ?_
  refine WC.cond rfl (fun c1 => ?_) (fun c1 => ?_)
  · try simp only [decide_eq_true_eq, decide_eq_false_iff_not, Bool.not_eq_true', Bool.not_eq_false', Bool.and_eq_true, Int.not_lt, Int.not_le] at c1
    first
    | (exfalso; omega)
    | skip
      refine WC.seq ?_
      refine WC.reg ?_
      refine WL.v (Runs.assign rfl) rfl ?_
      refine WL.nil ?_
      refine WN.thn ?_
      refine WC.ret ?_
      refine ret1 rfl rfl ⟨?_, h⟩
      unfold textB
      rw [if_pos (by omega)]; rfl
  · try simp only [decide_eq_true_eq, decide_eq_false_iff_not, Bool.not_eq_true', Bool.not_eq_false', Bool.and_eq_true, Int.not_lt, Int.not_le] at c1
    first
    | (exfalso; omega)
    | skip
      refine WC.skip ?_
      refine WN.thn ?_
      refine WC.seq ?_
      refine WC.reg ?_
      refine WL.v (Runs.move rfl) rfl ?_
      refine WL.v (Runs.intT (n := (l.length : Int)) (Runs.slen Try.underlying9 rfl rfl) rfl) rfl ?_
      refine WL.call can37 rfl rfl (rnum_c _ _ h) ?_
      rintro _ w2 ⟨rfl, h2⟩
      refine ⟨_, rfl, ?_⟩
      refine WL.v (Runs.move rfl) rfl ?_
      refine WL.v (Runs.lsadd rfl rfl (by have := numB_len (l.length : Int); omega)) rfl ?_
      refine WL.v (Runs.assign rfl) rfl ?_
      refine WL.nil ?_
      refine WN.thn ?_
      refine WC.ret ?_
      refine ret1 rfl rfl ⟨?_, h2⟩
      unfold textB
      rw [if_neg (by omega)]
end Wir
end Go.Proofs.Ythjcfhfbaeokeaa
