/- Walks of package dag: the reference: whether all is over. -/
import Derived.Test.YtkfkdenikkadhaaD18
namespace Go.Proofs.Ytkfkdenikkadhaa
open Go Go.RowKit B
set_option linter.unusedVariables false
set_option linter.unusedSimpArgs false
namespace Dg

theorem can19 : B.Can Try.prog 19 := ⟨_, Try.func19, by kernel_rfl, rfl⟩   -- roundhouse/roundhouseref13.Settle
theorem over_n {l : List S} {codes : List Int} (h : withM l codes ≠ 0 ∨ (-1 : Int) ∈ settleM l codes) : overM l codes = (0, false) := if_pos h
theorem over_y {l : List S} {codes : List Int} (h : withM l codes = 0) (h2 : (-1 : Int) ∉ settleM l codes) : overM l codes = ((settleM l codes).foldl mxS 0, true) := if_neg (by rintro (h3 | h3); exact h3 h; exact h2 h3)
theorem mem_no {xs : List Int} {x : Int} (h : ∀ j, j < xs.length → xs.getD j 0 ≠ x) : x ∉ xs := fun hm => by
  obtain ⟨j, hj, rfl⟩ := List.getElem_of_mem hm
  refine h j hj ?_
  rw [List.getD_eq_getElem?_getD, List.getElem?_eq_getElem hj]; rfl
set_option maxRecDepth 100000 in
set_option maxHeartbeats 8000000 in
theorem qover_c {W : World} {F : Snap} {cs : List Res} (w : World) {A : Option Addr} {cap : Nat} {l : List S} {A2 : Option Addr} {cap2 : Nat} {codes : List Int} (h : St W F cs w) (hR : RdS KS F A l) (hl : l.length ≤ 100000) (hf : fewE l) (hRc : RdS (Kd.one Vi) F A2 codes) (hc : codes.length ≤ 100000) : Calls Try.prog 21 #[.slice A l.length cap, .slice A2 codes.length cap2] w fun r w' => r = .returned (.tuple #[Vi (overM l codes).1, .bool (overM l codes).2]) ∧ St W F cs w'  := by
  refine enter (P := Try.prog) (args := [.slice A l.length cap, .slice A2 codes.length cap2]) Try.func21 rfl rfl rfl ?_
  refine WC.seq ?_
  refine WC.reg ?_
  refine WL.v (Runs.assign rfl) rfl ?_
  refine WL.v (Runs.assign rfl) rfl ?_
  refine WL.nil ?_
  refine WN.thn ?_
  refine WC.seq ?_
  refine WC.reg ?_
  refine WL.v (Runs.move rfl) rfl ?_
  refine WL.v (Runs.move rfl) rfl ?_
  refine WL.call can19 rfl rfl (qsettle_c _ h hR hl hf hRc hc) ?_
  rintro _ w1 ⟨G, A4, cap4, hG, rfl, hc4, hR4, h1⟩
  refine ⟨_, rfl, ?_⟩
  rw [qsettle_eq] at *
  refine WL.v (Runs.move rfl) rfl ?_
  refine WL.v (Runs.extract rfl rfl) rfl ?_
  refine WL.v (Runs.extract rfl rfl) rfl ?_
  refine WL.v (Runs.assign rfl) rfl ?_
  refine WL.v (Runs.assign rfl) rfl ?_
  refine WL.nil ?_
  refine WN.thn ?_
  refine WC.seq ?_
  refine WC.seq ?_
  refine WC.reg ?_
  refine WL.v (Runs.move rfl) rfl ?_
  refine WL.v (Runs.neq rfl rfl) rfl ?_
  refine WL.nil ?_
  refine WN.thn ?_
  refine WC.cond rfl (fun c2 => ?_) (fun c2 => ?_)
  · try simp only [decide_eq_true_eq, decide_eq_false_iff_not, Bool.not_eq_true', Bool.not_eq_false', Bool.and_eq_true, Int.not_lt, Int.not_le] at c2
    first
    | (exfalso; omega)
    | skip
      refine WC.seq ?_
      refine WC.reg ?_
      refine WL.v (Runs.assign rfl) rfl ?_
      refine WL.v (Runs.assign rfl) rfl ?_
      refine WL.nil ?_
      refine WN.thn ?_
      refine WC.ret ?_
      refine ret2 rfl rfl rfl ⟨?_, h1.weak hG⟩
      rw [over_n (.inl (by simpa using c2))]
  · try simp only [decide_eq_true_eq, decide_eq_false_iff_not, Bool.not_eq_true', Bool.not_eq_false', Bool.and_eq_true, Int.not_lt, Int.not_le] at c2
    first
    | (exfalso; omega)
    | skip
      refine WC.skip ?_
      refine WN.thn ?_
      refine WC.seq ?_
      have hw0 : withM l codes = 0 := by simpa using c2
      have hw := with_ok hw0
      have hcl := settle_len _ _ hw0
      have hvals := (settle_spec hw0).1.vals hw.2.2
      refine WC.reg ?_
      refine WL.v (Runs.assign rfl) rfl ?_
      refine WL.nil ?_
      refine WN.thn ?_
      refine WC.seq ?_
      refine WC.seq ?_
      refine WC.reg ?_
      refine WL.v (Runs.assign rfl) rfl ?_
      refine WL.nil ?_
      refine WN.thn ?_
      refine WC.block ?_
      refine WC.loop (σ := Nat) (fun q_ => [(6, .slice A4 (settleM l codes).length cap4), (8, Vi (((settleM l codes).take q_).foldl mxS 0)), (9, .int .i64 (q_ : Int))]) (fun q_ w => q_ ≤ (settleM l codes).length ∧ (∀ j, j < q_ → (settleM l codes).getD j 0 ≠ -1) ∧ St W G cs w) (fun q_ => (settleM l codes).length - q_) (0) (by repeat (first | exact trivial | refine ⟨rfl, ?_⟩)) (⟨Nat.zero_le _, fun j hj => absurd hj (Nat.not_lt_zero _), h1⟩) ?_
      rintro i w3 ⟨hi, hno, hL⟩
      try dsimp only at hi hno hL
      refine WC.sub (s := [(6, .slice A4 (settleM l codes).length cap4), (8, Vi (((settleM l codes).take i).foldl mxS 0)), (9, .int .i64 (i : Int))]) (by repeat (first | exact trivial | refine ⟨rfl, ?_⟩)) ?_
      refine WC.seq ?_
      refine WC.seq ?_
      refine WC.reg ?_
      refine WL.v (Runs.move rfl) rfl ?_
      refine WL.v (Runs.move rfl) rfl ?_
      refine WL.v (Runs.intT (n := ((settleM l codes).length : Int)) (Runs.llen Try.underlying28 rfl rfl) rfl) rfl ?_
      refine WL.v (Runs.lss rfl rfl) rfl ?_
      refine WL.nil ?_
      refine WN.thn ?_
      refine WC.cond rfl (fun c4 => ?_) (fun c4 => ?_)
      · try simp only [decide_eq_true_eq, decide_eq_false_iff_not, Bool.not_eq_true', Bool.not_eq_false', Bool.and_eq_true, Int.not_lt, Int.not_le] at c4
        first
        | (exfalso; omega)
        | skip
          refine WC.skip ?_
          refine WN.thn ?_
          refine WC.seq ?_
          refine WC.block ?_
          refine WC.seq ?_
          refine WC.seq ?_
          obtain ⟨a4, rfl, hrd⟩ := rd1 hR4 (by omega)
          have hi2 : i < (settleM l codes).length := by omega
          have hvi := hvals _ (mem_getD hi2)
          refine WC.reg ?_
          refine WL.v (Runs.move rfl) rfl ?_
          refine WL.v (Runs.move rfl) rfl ?_
          refine WL.v (Runs.lidxN Try.underlying28 inf3 rfl rfl (n := i) rfl (by omega)) rfl ?_
          refine WL.v (Runs.loadR (f := Vi) (0 : Int) hL hrd (n := i) (by omega) Try.underlying3 rfl rfl) rfl ?_
          refine WL.v (Runs.eql rfl rfl) rfl ?_
          refine WL.nil ?_
          refine WN.thn ?_
          refine WC.cond rfl (fun c5 => ?_) (fun c5 => ?_)
          · try simp only [decide_eq_true_eq, decide_eq_false_iff_not, Bool.not_eq_true', Bool.not_eq_false', Bool.and_eq_true, Int.not_lt, Int.not_le] at c5
            first
            | (exfalso; omega)
            | skip
              refine WC.seq ?_
              refine WC.reg ?_
              refine WL.v (Runs.assign rfl) rfl ?_
              refine WL.v (Runs.assign rfl) rfl ?_
              refine WL.nil ?_
              refine WN.thn ?_
              refine WC.ret ?_
              refine ret2 rfl rfl rfl ⟨?_, hL.weak hG⟩
              rw [over_n (.inr (by rw [← c5]; exact mem_getD hi2))]
          · try simp only [decide_eq_true_eq, decide_eq_false_iff_not, Bool.not_eq_true', Bool.not_eq_false', Bool.and_eq_true, Int.not_lt, Int.not_le] at c5
            first
            | (exfalso; omega)
            | skip
              refine WC.skip ?_
              refine WN.thn ?_
              refine WC.seq ?_
              refine WC.reg ?_
              refine WL.v (Runs.move rfl) rfl ?_
              refine WL.v (Runs.move rfl) rfl ?_
              refine WL.v (Runs.lidxN Try.underlying28 inf3 rfl rfl (n := i) rfl (by omega)) rfl ?_
              refine WL.v (Runs.loadR (f := Vi) (0 : Int) hL hrd (n := i) (by omega) Try.underlying3 rfl rfl) rfl ?_
              refine WL.v (Runs.leq rfl rfl) rfl ?_
              refine WL.nil ?_
              refine WN.thn ?_
              refine WC.cond rfl (fun c6 => ?_) (fun c6 => ?_)
              · try simp only [decide_eq_true_eq, decide_eq_false_iff_not, Bool.not_eq_true', Bool.not_eq_false', Bool.and_eq_true, Int.not_lt, Int.not_le] at c6
                first
                | (exfalso; omega)
                | skip
                  refine WC.reg ?_
                  refine WL.v (Runs.move rfl) rfl ?_
                  refine WL.v (Runs.move rfl) rfl ?_
                  refine WL.v (Runs.move rfl) rfl ?_
                  refine WL.v (Runs.lidxN Try.underlying28 inf3 rfl rfl (n := i) rfl (by omega)) rfl ?_
                  refine WL.v (Runs.loadR (f := Vi) (0 : Int) hL hrd (n := i) (by omega) Try.underlying3 rfl rfl) rfl ?_
                  refine WL.v (Runs.max rfl rfl) rfl ?_
                  refine WL.v (Runs.assign rfl) rfl ?_
                  refine WL.nil ?_
                  refine WN.blk ?_
                  refine WN.thn ?_
                  refine WC.reg ?_
                  refine WL.v (Runs.move rfl) rfl ?_
                  refine WL.v (Runs.addn rfl rfl (by omega)) rfl ?_
                  refine WL.v (Runs.assign rfl) rfl ?_
                  refine WL.nil ?_
                  exact WN.again (i + 1) (by omega) ⟨rfl, (by show some (Value.int .i64 _) = some (Value.int .i64 _); rw [take_fold hi2, ← mxS_y (by omega)]), rfl, trivial⟩ ⟨by omega, fun j hj => (by
                    by_cases e : j = i
                    · subst e; omega
                    · exact hno j (by omega)), hL⟩
              · try simp only [decide_eq_true_eq, decide_eq_false_iff_not, Bool.not_eq_true', Bool.not_eq_false', Bool.and_eq_true, Int.not_lt, Int.not_le] at c6
                first
                | (exfalso; omega)
                | skip
                  refine WC.skip ?_
                  refine WN.blk ?_
                  refine WN.thn ?_
                  refine WC.reg ?_
                  refine WL.v (Runs.move rfl) rfl ?_
                  refine WL.v (Runs.addn rfl rfl (by omega)) rfl ?_
                  refine WL.v (Runs.assign rfl) rfl ?_
                  refine WL.nil ?_
                  exact WN.again (i + 1) (by omega) ⟨rfl, (by show some (Value.int .i64 _) = some (Value.int .i64 _); rw [take_fold hi2, ← mxS_n (by omega)]), rfl, trivial⟩ ⟨by omega, fun j hj => (by
                    by_cases e : j = i
                    · subst e; omega
                    · exact hno j (by omega)), hL⟩
      · try simp only [decide_eq_true_eq, decide_eq_false_iff_not, Bool.not_eq_true', Bool.not_eq_false', Bool.and_eq_true, Int.not_lt, Int.not_le] at c4
        first
        | (exfalso; omega)
        | skip
          refine WC.exit ?_
          refine WX.thn ?_
          refine WX.cut ?_
          refine WX.hit ?_
          refine WN.thn ?_
          refine WC.seq ?_
          refine WC.reg ?_
          refine WL.v (Runs.move rfl) rfl ?_
          refine WL.v (Runs.assign rfl) rfl ?_
          refine WL.v (Runs.assign rfl) rfl ?_
          refine WL.nil ?_
          refine WN.thn ?_
          refine WC.ret ?_
          have hkk : i = (settleM l codes).length := by omega
          refine ret2 rfl rfl rfl ⟨?_, hL.weak hG⟩
          rw [over_y hw0 (mem_no fun j hj => hno j (by omega)), hkk, List.take_of_length_le (Nat.le_refl _)]
end Dg
end Go.Proofs.Ytkfkdenikkadhaa
