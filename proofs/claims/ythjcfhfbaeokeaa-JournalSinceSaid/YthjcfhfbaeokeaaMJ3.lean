/- Walks of package journal: what is appended, torn, compacted. -/
import Derived.Test.YthjcfhfbaeokeaaMJ2
namespace Go.Proofs.Ythjcfhfbaeokeaa
open Go Go.RowKit B
set_option linter.unusedVariables false
set_option linter.unusedSimpArgs false
namespace Jo
open Wir (Vi textB numB rdT rdEnd wtext_c)

theorem can11 : B.Can Try.prog 11 := ⟨_, Try.func11, by kernel_rfl, rfl⟩   -- roundhouse/journal.Record
def appM (log : List UInt8) (k : Int) (s : List UInt8) : List UInt8 × Int := if ¬ okK k then (log, 1) else if 4096 < s.length then (log, 3) else (log ++ recB k s, 0)
def tearM (log : List UInt8) (k : Int) (s : List UInt8) (j : Int) : List UInt8 := log ++ (recB k s).take j.toNat
def compM (log s : List UInt8) : List UInt8 := if 4096 < s.length then log else recB 1 s
theorem mm_eq (j : Int) (n : Nat) : (if (n : Int) < (if j < 0 then 0 else j) then (n : Int) else (if j < 0 then 0 else j)) = ((min j.toNat n : Nat) : Int) := by
  by_cases h : j < 0
  · rw [if_pos h, if_neg (by omega)]; omega
  · rw [if_neg h]
    split <;> omega
theorem take_mm (t : List UInt8) (j : Nat) : t.take (min j t.length) = t.take j := by
  rcases Nat.lt_or_ge j t.length with h | h
  · rw [Nat.min_eq_left (by omega)]
  · rw [Nat.min_eq_right h, List.take_of_length_le (Nat.le_refl _), List.take_of_length_le h]
set_option maxRecDepth 100000 in
set_option maxHeartbeats 1000000 in
theorem append_c {W : World} {F : Snap} {cs : List Res} (w : World) (l : List UInt8) (k : Int) (s : List UInt8) (h : St W F cs w) (hl : l.length ≤ 1000000000) : Calls Try.prog 9 #[.string (bs l), Vi k, .string (bs s)] w fun r w' => r = .returned (.tuple #[.string (bs (appM l k s).1), Vi (appM l k s).2]) ∧ St W F cs w'  := by
  refine enter (P := Try.prog) (args := [.string (bs l), Vi k, .string (bs s)]) Try.func9 rfl rfl rfl ?_
  refine WC.seq ?_
  refine WC.reg ?_
  refine WL.v (Runs.assign rfl) rfl ?_
  refine WL.v (Runs.assign rfl) rfl ?_
  refine WL.nil ?_
  refine WN.thn ?_
  refine WC.seq ?_
  refine WC.block ?_
  refine WC.seq ?_
  refine WC.reg ?_
  refine WL.v (Runs.move rfl) rfl ?_
  refine WL.call can27 rfl rfl (kind_c _ k h) ?_
  rintro _ w1 ⟨rfl, h1⟩
  refine ⟨_, rfl, ?_⟩
  refine WL.v (Runs.not rfl) rfl ?_
  refine WL.v (Runs.assign rfl) rfl ?_
  refine WL.nil ?_
  refine WN.thn ?_
  refine WC.cond rfl (fun c2 => ?_) (fun c2 => ?_)
  · try simp only [decide_eq_true_eq, decide_eq_false_iff_not, Bool.not_eq_true', Bool.not_eq_false', Bool.and_eq_true, Int.not_lt, Int.not_le] at c2
    first
    | (exfalso; omega)
    | skip
      refine WC.seq ?_
      refine WC.reg ?_
      refine WL.v (Runs.move rfl) rfl ?_
      refine WL.v (Runs.assign rfl) rfl ?_
      refine WL.v (Runs.assign rfl) rfl ?_
      refine WL.nil ?_
      refine WN.thn ?_
      refine WC.ret ?_
      refine ret2 rfl rfl rfl ⟨?_, h1⟩
      unfold appM
      rw [if_pos (by simpa using c2)]
  · try simp only [decide_eq_true_eq, decide_eq_false_iff_not, Bool.not_eq_true', Bool.not_eq_false', Bool.and_eq_true, Int.not_lt, Int.not_le] at c2
    first
    | (exfalso; omega)
    | skip
      refine WC.seq ?_
      refine WC.reg ?_
      refine WL.v (Runs.move rfl) rfl ?_
      refine WL.v (Runs.intT (n := (s.length : Int)) (Runs.slen Try.underlying9 rfl rfl) rfl) rfl ?_
      refine WL.v (Runs.gtr rfl rfl) rfl ?_
      refine WL.v (Runs.assign rfl) rfl ?_
      refine WL.nil ?_
      refine WN.thn ?_
      refine WC.cond rfl (fun c3 => ?_) (fun c3 => ?_)
      · try simp only [decide_eq_true_eq, decide_eq_false_iff_not, Bool.not_eq_true', Bool.not_eq_false', Bool.and_eq_true, Int.not_lt, Int.not_le] at c3
        first
        | (exfalso; omega)
        | skip
          refine WC.seq ?_
          refine WC.reg ?_
          refine WL.v (Runs.move rfl) rfl ?_
          refine WL.v (Runs.assign rfl) rfl ?_
          refine WL.v (Runs.assign rfl) rfl ?_
          refine WL.nil ?_
          refine WN.thn ?_
          refine WC.ret ?_
          refine ret2 rfl rfl rfl ⟨?_, h1⟩
          unfold appM
          rw [if_neg (fun hh => hh (by simpa using c2)), if_pos (by omega)]
      · try simp only [decide_eq_true_eq, decide_eq_false_iff_not, Bool.not_eq_true', Bool.not_eq_false', Bool.and_eq_true, Int.not_lt, Int.not_le] at c3
        first
        | (exfalso; omega)
        | skip
          refine WC.skip ?_
          refine WN.blk ?_
          refine WN.thn ?_
          refine WC.seq ?_
          refine WC.reg ?_
          refine WL.v (Runs.move rfl) rfl ?_
          refine WL.v (Runs.move rfl) rfl ?_
          refine WL.v (Runs.move rfl) rfl ?_
          refine WL.call can11 rfl rfl (record_c _ k s h1) ?_
          rintro _ w4 ⟨rfl, h4⟩
          refine ⟨_, rfl, ?_⟩
          refine WL.v (Runs.lsadd rfl rfl (by have := recB_len (k := k) (s := s); omega)) rfl ?_
          refine WL.v (Runs.assign rfl) rfl ?_
          refine WL.v (Runs.assign rfl) rfl ?_
          refine WL.nil ?_
          refine WN.thn ?_
          refine WC.ret ?_
          refine ret2 rfl rfl rfl ⟨?_, h4⟩
          unfold appM
          rw [if_neg (fun hh => hh (by simpa using c2)), if_neg (by omega)]
set_option maxRecDepth 100000 in
set_option maxHeartbeats 1000000 in
theorem tear_c {W : World} {F : Snap} {cs : List Res} (w : World) (l : List UInt8) (k : Int) (s : List UInt8) (j : Int) (h : St W F cs w) (hl : l.length ≤ 1000000000) : Calls Try.prog 13 #[.string (bs l), Vi k, .string (bs s), Vi j] w fun r w' => r = .returned (.string (bs (tearM l k s j))) ∧ St W F cs w'  := by
  refine enter (P := Try.prog) (args := [.string (bs l), Vi k, .string (bs s), Vi j]) Try.func13 rfl rfl rfl ?_
  refine WC.seq ?_
  refine WC.reg ?_
  refine WL.v (Runs.assign rfl) rfl ?_
  refine WL.nil ?_
  refine WN.thn ?_
  refine WC.seq ?_
  refine WC.reg ?_
  refine WL.v (Runs.move rfl) rfl ?_
  refine WL.v (Runs.move rfl) rfl ?_
  refine WL.call can11 rfl rfl (record_c _ k s h) ?_
  rintro _ w1 ⟨rfl, h1⟩
  refine ⟨_, rfl, ?_⟩
  refine WL.v (Runs.assign rfl) rfl ?_
  refine WL.nil ?_
  refine WN.thn ?_
  refine WC.seq ?_
  refine WC.reg ?_
  refine WL.v (Runs.move rfl) rfl ?_
  refine WL.v (Runs.move rfl) rfl ?_
  refine WL.v (Runs.move rfl) rfl ?_
  refine WL.v (Runs.max rfl rfl) rfl ?_
  refine WL.v (Runs.move rfl) rfl ?_
  refine WL.v (Runs.intT (n := ((recB k s).length : Int)) (Runs.slen Try.underlying9 rfl rfl) rfl) rfl ?_
  refine WL.v (Runs.intT (n := ((min j.toNat (recB k s).length : Nat) : Int)) (Runs.min rfl rfl) (mm_eq _ _)) rfl ?_
  refine WL.v (Runs.valT (u := .string (bs ((recB k s).take j.toNat))) (Runs.lssl_hi Try.underlying9 rfl rfl (m := min j.toNat (recB k s).length) rfl (Nat.min_le_right _ _)) (by rw [take_mm])) rfl ?_
  refine WL.v (Runs.lsadd rfl rfl (by have := recB_len (k := k) (s := s); rw [List.length_take]; omega)) rfl ?_
  refine WL.v (Runs.assign rfl) rfl ?_
  refine WL.nil ?_
  refine WN.thn ?_
  refine WC.ret ?_
  exact ret1 rfl rfl ⟨rfl, h1⟩
set_option maxRecDepth 100000 in
set_option maxHeartbeats 1000000 in
theorem compact_c {W : World} {F : Snap} {cs : List Res} (w : World) (l s : List UInt8) (h : St W F cs w) : Calls Try.prog 15 #[.string (bs l), .string (bs s)] w fun r w' => r = .returned (.string (bs (compM l s))) ∧ St W F cs w'  := by
  refine enter (P := Try.prog) (args := [.string (bs l), .string (bs s)]) Try.func15 rfl rfl rfl ?_
  refine WC.seq ?_
  refine WC.reg ?_
  refine WL.v (Runs.assign rfl) rfl ?_
  refine WL.nil ?_
  refine WN.thn ?_
  refine WC.seq ?_
  refine WC.seq ?_
  refine WC.reg ?_
  refine WL.v (Runs.move rfl) rfl ?_
  refine WL.v (Runs.intT (n := (s.length : Int)) (Runs.slen Try.underlying9 rfl rfl) rfl) rfl ?_
  refine WL.v (Runs.gtr rfl rfl) rfl ?_
  refine WL.nil ?_
  refine WN.thn ?_
  refine WC.cond rfl (fun c1 => ?_) (fun c1 => ?_)
  · try simp only [decide_eq_true_eq, decide_eq_false_iff_not, Bool.not_eq_true', Bool.not_eq_false', Bool.and_eq_true, Int.not_lt, Int.not_le] at c1
    first
    | (exfalso; omega)
    | skip
      refine WC.seq ?_
      refine WC.reg ?_
      refine WL.v (Runs.move rfl) rfl ?_
      refine WL.v (Runs.assign rfl) rfl ?_
      refine WL.nil ?_
      refine WN.thn ?_
      refine WC.ret ?_
      refine ret1 rfl rfl ⟨?_, h⟩
      unfold compM
      rw [if_pos (by omega)]
  · try simp only [decide_eq_true_eq, decide_eq_false_iff_not, Bool.not_eq_true', Bool.not_eq_false', Bool.and_eq_true, Int.not_lt, Int.not_le] at c1
    first
    | (exfalso; omega)
    | skip
      refine WC.skip ?_
      refine WN.thn ?_
      refine WC.seq ?_
      refine WC.reg ?_
      refine WL.v (Runs.move rfl) rfl ?_
      refine WL.call can11 rfl rfl (record_c _ 1 s h) ?_
      rintro _ w2 ⟨rfl, h2⟩
      refine ⟨_, rfl, ?_⟩
      refine WL.v (Runs.assign rfl) rfl ?_
      refine WL.nil ?_
      refine WN.thn ?_
      refine WC.ret ?_
      refine ret1 rfl rfl ⟨?_, h2⟩
      unfold compM
      rw [if_neg (by omega)]
end Jo
end Go.Proofs.Ythjcfhfbaeokeaa
