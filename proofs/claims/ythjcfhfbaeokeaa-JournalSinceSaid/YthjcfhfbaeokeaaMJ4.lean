/- Walks of package journal: the record at the front. -/
import Derived.Test.YthjcfhfbaeokeaaMJ3
namespace Go.Proofs.Ythjcfhfbaeokeaa
open Go Go.RowKit B
set_option linter.unusedVariables false
set_option linter.unusedSimpArgs false
namespace Jo
open Wir (Vi textB numB rdT rdEnd wtext_c)

theorem inf50 : Inf Try.prog 50 (.agg #[.int .i64 0, .string ⟨#[]⟩]) 2 24 := by unfold Inf; kernel_rfl
theorem fld50_0 : fldB Try.prog 50 0 0 = true := by kernel_rfl
theorem fld50_1 : fldB Try.prog 50 1 1 = true := by kernel_rfl
theorem can53 : B.Can Try.prog 53 := ⟨_, Try.func53, by kernel_rfl, rfl⟩   -- roundhouse/wire.Read
theorem can54 : B.Can Try.prog 54 := ⟨_, Try.func54, by kernel_rfl, rfl⟩   -- (*roundhouse/wire.Reader).Text
theorem can55 : B.Can Try.prog 55 := ⟨_, Try.func55, by kernel_rfl, rfl⟩   -- (*roundhouse/wire.Reader).End
theorem first3 (P0 P1 P2 : Prop) : (P0) ∨ (¬ P0 ∧ P1) ∨ (¬ P0 ∧ ¬ P1 ∧ P2) ∨ (¬ P0 ∧ ¬ P1 ∧ ¬ P2) := by
  by_cases h0 : P0
  · exact .inl h0
  · by_cases h1 : P1
    · exact .inr (.inl ⟨h0, h1⟩)
    · by_cases h2 : P2
      · exact .inr (.inr (.inl ⟨h0, h1, h2⟩))
      · exact .inr (.inr (.inr (⟨h0, h1, h2⟩)))
def kOf (s : List UInt8) : Int := ((s.getD 1 0).toNat : Int)
def txOf (s : List UInt8) : List UInt8 := (rdT (s.drop 2) 0 0).1
def hdOk (s : List UInt8) : Prop := ¬ s.length < 2 ∧ ¬ ((s.getD 0 0).toNat : Int) ≠ 74 ∧ ¬ ¬ okK (kOf s)
instance (s : List UInt8) : Decidable (hdOk s) := inferInstanceAs (Decidable (_ ∧ _))
/-- the record at the front -/
def firstM (s : List UInt8) : Option (Int × List UInt8) := if hdOk s ∧ (rdT (s.drop 2) 0 0).2.2 = 0 ∧ ¬ s.length < (recB (kOf s) (txOf s)).length ∧ s.take (recB (kOf s) (txOf s)).length = recB (kOf s) (txOf s) then some (kOf s, txOf s) else none
theorem firstM_a {s : List UInt8} (h : s.length < 2 ∨ ((s.getD 0 0).toNat : Int) ≠ 74 ∨ ¬ okK (kOf s)) : firstM s = none := if_neg (fun hh => by
  rcases h with h | h | h
  · exact hh.1.1 h
  · exact hh.1.2.1 h
  · exact hh.1.2.2 h)
theorem firstM_b {s : List UInt8} (h : hdOk s) (h2 : (rdT (s.drop 2) 0 0).2.2 ≠ 0) : firstM s = none := if_neg (fun hh => h2 hh.2.1)
theorem firstM_c {s : List UInt8} (h : hdOk s) (h2 : (rdT (s.drop 2) 0 0).2.2 = 0) (h3 : s.length < (recB (kOf s) (txOf s)).length ∨ s.take (recB (kOf s) (txOf s)).length ≠ recB (kOf s) (txOf s)) : firstM s = none := if_neg (fun hh => by
  rcases h3 with h3 | h3
  · exact hh.2.2.1 h3
  · exact h3 hh.2.2.2)
theorem firstM_d {s : List UInt8} (h : hdOk s) (h2 : (rdT (s.drop 2) 0 0).2.2 = 0) (h3 : ¬ s.length < (recB (kOf s) (txOf s)).length) (h4 : s.take (recB (kOf s) (txOf s)).length = recB (kOf s) (txOf s)) : firstM s = some (kOf s, txOf s) := if_pos ⟨h, h2, h3, h4⟩
def entV : Option (Int × List UInt8) → Value
  | none => .agg #[Vi 0, .string (bs [])]
  | some (k, t) => .agg #[Vi k, .string (bs t)]
def lenV : Option (Int × List UInt8) → Nat
  | none => 0
  | some (k, t) => (recB k t).length
theorem rerr_4 (l : List UInt8) (p : Nat) : Wir.rerr l p ≠ 4 := by
  unfold Wir.rerr
  repeat' split
  all_goals decide
theorem rdT_4 (l : List UInt8) : (rdT l 0 0).2.2 ≠ 4 := by
  unfold rdT Wir.cerr
  have := rerr_4 l 0
  repeat' split
  all_goals first | decide | (simp; done) | simpa using this
theorem b2i (b : UInt8) : IntKind.i64.wrap (b.toNat : Int) = (b.toNat : Int) := wrap64_in (by have := b.toNat_lt; omega)
theorem takeCase (s t : List UInt8) : s.length < t.length ∨ (¬ s.length < t.length ∧ s.take t.length ≠ t) ∨ (¬ s.length < t.length ∧ s.take t.length = t) := by
  by_cases h : s.length < t.length
  · exact .inl h
  · by_cases h2 : s.take t.length = t
    · exact .inr (.inr ⟨h, h2⟩)
    · exact .inr (.inl ⟨h, h2⟩)
set_option maxRecDepth 100000 in
set_option maxHeartbeats 8000000 in
theorem first_c {W : World} {F : Snap} {cs : List Res} (w : World) (s : List UInt8) (h : St W F cs w) (hs : s.length ≤ 100000) : Calls Try.prog 41 #[.string (bs s)] w fun r w' => r = .returned (.tuple #[entV (firstM s), Vi (lenV (firstM s) : Nat)]) ∧ St W F cs w'  := by
  refine enter (P := Try.prog) (args := [.string (bs s)]) Try.func41 rfl rfl rfl ?_
  refine WC.seq ?_
  refine WC.reg ?_
  refine WL.alloc' rfl h inf50 ?_
  intro b2 w1 h1
  refine WL.v (Runs.assign rfl) rfl ?_
  refine WL.nil ?_
  refine WN.thn ?_
  refine WC.seq ?_
  refine WC.seq ?_
  rcases first3 (s.length < 2) (((s.getD 0 0).toNat : Int) ≠ 74) (¬ okK (kOf s)) with q0 | ⟨q0, q1⟩ | ⟨q0, q1, q2⟩ | ⟨q0, q1, q2⟩
  · skip
    refine WC.reg ?_
    refine WL.v (Runs.move rfl) rfl ?_
    refine WL.v (Runs.intT (n := (s.length : Int)) (Runs.slen Try.underlying9 rfl rfl) rfl) rfl ?_
    refine WL.v (Runs.boolT (c := true) (Runs.lss rfl rfl) (by rw [decide_eq_true_eq]; omega)) rfl ?_
    refine WL.v (Runs.move rfl) rfl ?_
    refine WL.goff rfl rfl rfl rfl ?_
    refine WL.goff rfl rfl rfl rfl ?_
    refine WL.goff rfl rfl rfl rfl ?_
    refine WL.v (Runs.pick rfl rfl rfl) rfl ?_
    refine WL.v (Runs.move rfl) rfl ?_
    refine WL.goff rfl rfl rfl rfl ?_
    refine WL.goff rfl rfl rfl rfl ?_
    refine WL.goff rfl rfl rfl rfl ?_
    refine WL.goff rfl rfl rfl rfl ?_
    refine WL.goff rfl rfl rfl rfl ?_
    refine WL.v (Runs.pick rfl rfl rfl) rfl ?_
    refine WL.nil ?_
    refine WN.thn ?_
    refine WC.condT rfl (rfl) ?_
    refine WC.seq ?_
    refine WC.reg ?_
    refine WL.v (Runs.build (vs := []) (cells := #[Vi 0, .string (bs [])]) rfl (by kernel_rfl)) rfl ?_
    refine WL.storeAll h1 0 rfl rfl rfl inf50 rfl rfl rfl (Free.zero _) ?_
    intro  w2 h2
    try simp only [List.set_cons_zero, List.set_cons_succ, List.eraseIdx_cons_zero, List.eraseIdx_cons_succ] at h2
    refine WL.v (Runs.assign rfl) rfl ?_
    refine WL.nil ?_
    refine WN.thn ?_
    refine WC.ret ?_
    exact retB rfl (v := .agg #[Vi 0, .string (bs [])]) ⟨_, rfl, run_loadVarA (vs := [Vi 0, .string (bs [])]) Try.underlying50 rfl inf50 rfl (fun j v hv => by rw [add_mk, Nat.zero_add]; exact h2.ocell (i := 0) rfl (by simpa using hv))⟩ (show lk _ _ = _ from rfl) ⟨by rw [firstM_a (.inl q0)]; rfl, (h2.drop 0)⟩
  · skip
    refine WC.reg ?_
    refine WL.v (Runs.move rfl) rfl ?_
    refine WL.v (Runs.intT (n := (s.length : Int)) (Runs.slen Try.underlying9 rfl rfl) rfl) rfl ?_
    refine WL.v (Runs.boolT (c := false) (Runs.lss rfl rfl) (by rw [decide_eq_false_iff_not]; omega)) rfl ?_
    refine WL.v (Runs.move rfl) rfl ?_
    refine WL.gon rfl rfl rfl ?_
    refine WL.v (Runs.move rfl) rfl ?_
    refine WL.gon rfl rfl rfl ?_
    refine WL.v (Runs.lsidx Try.underlying9 rfl rfl (n := 0) rfl (by omega)) rfl ?_
    refine WL.gon rfl rfl rfl ?_
    refine WL.v (Runs.boolT (c := true) (Runs.neq rfl rfl) (by rw [decide_eq_false q1]; rfl)) rfl ?_
    refine WL.v (Runs.pick rfl rfl rfl) rfl ?_
    refine WL.v (Runs.move rfl) rfl ?_
    refine WL.goff rfl rfl rfl rfl ?_
    refine WL.goff rfl rfl rfl rfl ?_
    refine WL.goff rfl rfl rfl rfl ?_
    refine WL.goff rfl rfl rfl rfl ?_
    refine WL.goff rfl rfl rfl rfl ?_
    refine WL.v (Runs.pick rfl rfl rfl) rfl ?_
    refine WL.nil ?_
    refine WN.thn ?_
    refine WC.condT rfl (rfl) ?_
    refine WC.seq ?_
    refine WC.reg ?_
    refine WL.v (Runs.build (vs := []) (cells := #[Vi 0, .string (bs [])]) rfl (by kernel_rfl)) rfl ?_
    refine WL.storeAll h1 0 rfl rfl rfl inf50 rfl rfl rfl (Free.zero _) ?_
    intro  w3 h3
    try simp only [List.set_cons_zero, List.set_cons_succ, List.eraseIdx_cons_zero, List.eraseIdx_cons_succ] at h3
    refine WL.v (Runs.assign rfl) rfl ?_
    refine WL.nil ?_
    refine WN.thn ?_
    refine WC.ret ?_
    exact retB rfl (v := .agg #[Vi 0, .string (bs [])]) ⟨_, rfl, run_loadVarA (vs := [Vi 0, .string (bs [])]) Try.underlying50 rfl inf50 rfl (fun j v hv => by rw [add_mk, Nat.zero_add]; exact h3.ocell (i := 0) rfl (by simpa using hv))⟩ (show lk _ _ = _ from rfl) ⟨by rw [firstM_a (.inr (.inl q1))]; rfl, (h3.drop 0)⟩
  · skip
    refine WC.reg ?_
    refine WL.v (Runs.move rfl) rfl ?_
    refine WL.v (Runs.intT (n := (s.length : Int)) (Runs.slen Try.underlying9 rfl rfl) rfl) rfl ?_
    refine WL.v (Runs.boolT (c := false) (Runs.lss rfl rfl) (by rw [decide_eq_false_iff_not]; omega)) rfl ?_
    refine WL.v (Runs.move rfl) rfl ?_
    refine WL.gon rfl rfl rfl ?_
    refine WL.v (Runs.move rfl) rfl ?_
    refine WL.gon rfl rfl rfl ?_
    refine WL.v (Runs.lsidx Try.underlying9 rfl rfl (n := 0) rfl (by omega)) rfl ?_
    refine WL.gon rfl rfl rfl ?_
    refine WL.v (Runs.boolT (c := false) (Runs.neq rfl rfl) (by rw [decide_eq_true (Decidable.of_not_not q1)]; rfl)) rfl ?_
    refine WL.v (Runs.pick rfl rfl rfl) rfl ?_
    refine WL.v (Runs.move rfl) rfl ?_
    refine WL.gon rfl rfl rfl ?_
    refine WL.v (Runs.move rfl) rfl ?_
    refine WL.gon rfl rfl rfl ?_
    refine WL.v (Runs.lsidx Try.underlying9 rfl rfl (n := 1) rfl (by omega)) rfl ?_
    refine WL.gon rfl rfl rfl ?_
    refine WL.v (Runs.intT (n := (kOf s)) (Runs.toInt Try.underlying5 Try.underlying3 rfl) (b2i _)) rfl ?_
    refine WL.gon rfl rfl rfl ?_
    refine WL.call can27 rfl rfl (kind_c _ (kOf s) h1) ?_
    rintro _ w4 ⟨rfl, h4⟩
    refine ⟨_, rfl, ?_⟩
    refine WL.gon rfl rfl rfl ?_
    refine WL.v (Runs.boolT (c := true) (Runs.not rfl) (by rw [decide_eq_false q2]; rfl)) rfl ?_
    refine WL.v (Runs.pick rfl rfl rfl) rfl ?_
    refine WL.nil ?_
    refine WN.thn ?_
    refine WC.condT rfl (rfl) ?_
    refine WC.seq ?_
    refine WC.reg ?_
    refine WL.v (Runs.build (vs := []) (cells := #[Vi 0, .string (bs [])]) rfl (by kernel_rfl)) rfl ?_
    refine WL.storeAll h4 0 rfl rfl rfl inf50 rfl rfl rfl (Free.zero _) ?_
    intro  w5 h5
    try simp only [List.set_cons_zero, List.set_cons_succ, List.eraseIdx_cons_zero, List.eraseIdx_cons_succ] at h5
    refine WL.v (Runs.assign rfl) rfl ?_
    refine WL.nil ?_
    refine WN.thn ?_
    refine WC.ret ?_
    exact retB rfl (v := .agg #[Vi 0, .string (bs [])]) ⟨_, rfl, run_loadVarA (vs := [Vi 0, .string (bs [])]) Try.underlying50 rfl inf50 rfl (fun j v hv => by rw [add_mk, Nat.zero_add]; exact h5.ocell (i := 0) rfl (by simpa using hv))⟩ (show lk _ _ = _ from rfl) ⟨by rw [firstM_a (.inr (.inr q2))]; rfl, (h5.drop 0)⟩
  · skip
    refine WC.reg ?_
    refine WL.v (Runs.move rfl) rfl ?_
    refine WL.v (Runs.intT (n := (s.length : Int)) (Runs.slen Try.underlying9 rfl rfl) rfl) rfl ?_
    refine WL.v (Runs.boolT (c := false) (Runs.lss rfl rfl) (by rw [decide_eq_false_iff_not]; omega)) rfl ?_
    refine WL.v (Runs.move rfl) rfl ?_
    refine WL.gon rfl rfl rfl ?_
    refine WL.v (Runs.move rfl) rfl ?_
    refine WL.gon rfl rfl rfl ?_
    refine WL.v (Runs.lsidx Try.underlying9 rfl rfl (n := 0) rfl (by omega)) rfl ?_
    refine WL.gon rfl rfl rfl ?_
    refine WL.v (Runs.boolT (c := false) (Runs.neq rfl rfl) (by rw [decide_eq_true (Decidable.of_not_not q1)]; rfl)) rfl ?_
    refine WL.v (Runs.pick rfl rfl rfl) rfl ?_
    refine WL.v (Runs.move rfl) rfl ?_
    refine WL.gon rfl rfl rfl ?_
    refine WL.v (Runs.move rfl) rfl ?_
    refine WL.gon rfl rfl rfl ?_
    refine WL.v (Runs.lsidx Try.underlying9 rfl rfl (n := 1) rfl (by omega)) rfl ?_
    refine WL.gon rfl rfl rfl ?_
    refine WL.v (Runs.intT (n := (kOf s)) (Runs.toInt Try.underlying5 Try.underlying3 rfl) (b2i _)) rfl ?_
    refine WL.gon rfl rfl rfl ?_
    refine WL.call can27 rfl rfl (kind_c _ (kOf s) h1) ?_
    rintro _ w6 ⟨rfl, h6⟩
    refine ⟨_, rfl, ?_⟩
    refine WL.gon rfl rfl rfl ?_
    refine WL.v (Runs.boolT (c := false) (Runs.not rfl) (by rw [decide_eq_true (Decidable.of_not_not q2)]; rfl)) rfl ?_
    refine WL.v (Runs.pick rfl rfl rfl) rfl ?_
    refine WL.nil ?_
    refine WN.thn ?_
    refine WC.condF rfl (rfl) ?_
    refine WC.skip ?_
    refine WN.thn ?_
    refine WC.seq ?_
    have hok : hdOk s := ⟨q0, q1, q2⟩
    refine WC.reg ?_
    refine WL.v (Runs.move rfl) rfl ?_
    refine WL.v (Runs.valT (u := .string (bs (s.drop 2))) (Runs.lssl_lo Try.underlying9 rfl rfl (n := 2) rfl (by omega)) rfl) rfl ?_
    refine WL.call can53 rfl rfl (Wir.read_c _ (s.drop 2) h6) ?_
    rintro _ w7 ⟨rb, rfl, h7⟩
    refine ⟨_, rfl, ?_⟩
    refine WL.v (Runs.assign rfl) rfl ?_
    refine WL.nil ?_
    refine WN.thn ?_
    refine WC.seq ?_
    refine WC.ereg h7 (fun _ => True) (fun s_ => ([] : List Nat).any (Nat.beq s_)) mixed (by kernel_rfl) (fun hx => ?_)
    intro w8 h8
    refine WE.pure (g := none) hx 0 (by rfl) trivial (by kernel_rfl) (by kernel_rfl) (by kernel_rfl) (by kernel_rfl) (fun w_ => Runs.move rfl) rfl ?_
    refine WE.pure (g := none) hx 1 (by rfl) trivial (by kernel_rfl) (by kernel_rfl) (by kernel_rfl) (by kernel_rfl) (fun w_ => Runs.lsidx Try.underlying9 rfl rfl (n := 1) rfl (by omega)) rfl ?_
    refine WE.pure (g := none) hx 2 (by rfl) trivial (by kernel_rfl) (by kernel_rfl) (by kernel_rfl) (by kernel_rfl) (fun w_ => Runs.intT (n := (kOf s)) (Runs.toInt Try.underlying5 Try.underlying3 rfl) (b2i _)) rfl ?_
    refine WE.pure (g := none) hx 3 (by rfl) trivial (by kernel_rfl) (by kernel_rfl) (by kernel_rfl) (by kernel_rfl) (fun w_ => Runs.move rfl) rfl ?_
    refine WE.op2 (.inr trivial) (i := 4) (j := 6) (by rfl) (by rfl) (by kernel_rfl) ?_ ?_
    · skip
      refine WL.call can54 rfl rfl (Wir.readT_on (p := 0) _ (i := 0) h8 rfl (by rw [List.length_drop]; omega) (Nat.zero_le _)) ?_
      rintro _ w9 ⟨rfl, h9⟩
      refine ⟨_, rfl, ?_⟩
      simp only [List.set_cons_zero, List.set_cons_succ] at h9
      refine WL.nil ?_
      refine WE.next ?_
      refine WE.pure (g := none) hx 5 (by rfl) trivial (by kernel_rfl) (by kernel_rfl) (by kernel_rfl) (by kernel_rfl) (fun w_ => Runs.build (vs := [(0, Vi (kOf s)), (1, .string (bs (txOf s)))]) (cells := #[Vi (kOf s), .string (bs (txOf s))]) rfl (by kernel_rfl)) rfl ?_
      refine WE.op (.inr trivial) (i := 6) (by rfl) (by kernel_rfl) ?_
      refine WL.alloc' rfl h9 inf50 ?_
      intro b5 w10 h10
      refine WL.nil ?_
      refine WE.next ?_
      refine WE.op (.inr trivial) (i := 7) (by rfl) (by kernel_rfl) ?_
      refine WL.storeAll h10 0 rfl rfl rfl inf50 rfl rfl rfl (Free.zero _) ?_
      intro  w11 h11
      try simp only [List.set_cons_zero, List.set_cons_succ, List.eraseIdx_cons_zero, List.eraseIdx_cons_succ] at h11
      refine WL.nil ?_
      refine WE.next ?_
      refine WE.fin (.inr trivial) (by kernel_rfl) ?_
      refine WN.thn ?_
      refine WC.seq ?_
      refine WC.seq ?_
      refine WC.reg ?_
      refine WL.v (Runs.move rfl) rfl ?_
      refine WL.call can55 rfl rfl (Wir.rend_c _ (p := (rdT (s.drop 2) 0 0).2.1) (e := (rdT (s.drop 2) 0 0).2.2) h11 (i := 1) rfl) ?_
      rintro _ w12 ⟨rfl, h12⟩
      refine ⟨_, rfl, ?_⟩
      refine WL.v (Runs.move rfl) rfl ?_
      refine WL.v (Runs.extract rfl rfl) rfl ?_
      refine WL.v (Runs.extract rfl rfl) rfl ?_
      refine WL.v (Runs.assign rfl) rfl ?_
      refine WL.v (Runs.assign rfl) rfl ?_
      refine WL.nil ?_
      refine WN.thn ?_
      refine WC.seq ?_
      rcases Wir.cases5 (rdT (s.drop 2) 0 0).2.2 (rdT (s.drop 2) 0 0).2.1 (s.drop 2).length with hx1 | ⟨hx1, hx2⟩ | ⟨hx1, hx2⟩
      · have he : (rdEnd (s.drop 2) (rdT (s.drop 2) 0 0).2.1 (rdT (s.drop 2) 0 0).2.2).1 = (rdT (s.drop 2) 0 0).2.2 := by unfold rdEnd; rw [if_neg (fun hh => hx1 hh.1)]
        refine WC.reg ?_
        refine WL.v (Runs.move rfl) rfl ?_
        refine WL.v (Runs.boolT (c := true) (Runs.neq rfl rfl) (by rw [he, decide_eq_false hx1]; rfl)) rfl ?_
        refine WL.v (Runs.move rfl) rfl ?_
        refine WL.gon rfl rfl rfl ?_
        refine WL.v (Runs.move rfl) rfl ?_
        refine WL.gon rfl rfl rfl ?_
        refine WL.v (Runs.boolT (c := true) (Runs.neq rfl rfl) (by rw [he, decide_eq_false (rdT_4 _)]; rfl)) rfl ?_
        refine WL.v (Runs.pick rfl rfl rfl) rfl ?_
        refine WL.nil ?_
        refine WN.thn ?_
        refine WC.condT rfl (rfl) ?_
        refine WC.seq ?_
        refine WC.reg ?_
        refine WL.v (Runs.build (vs := []) (cells := #[Vi 0, .string (bs [])]) rfl (by kernel_rfl)) rfl ?_
        refine WL.storeAll h12 2 rfl rfl rfl inf50 rfl rfl rfl (Free.zero _) ?_
        intro  w13 h13
        try simp only [List.set_cons_zero, List.set_cons_succ, List.eraseIdx_cons_zero, List.eraseIdx_cons_succ] at h13
        refine WL.v (Runs.assign rfl) rfl ?_
        refine WL.nil ?_
        refine WN.thn ?_
        refine WC.ret ?_
        exact retB rfl (v := .agg #[Vi 0, .string (bs [])]) ⟨_, rfl, run_loadVarA (vs := [Vi 0, .string (bs [])]) Try.underlying50 rfl inf50 rfl (fun j v hv => by rw [add_mk, Nat.zero_add]; exact h13.ocell (i := 2) rfl (by simpa using hv))⟩ (show lk _ _ = _ from rfl) ⟨by rw [firstM_b hok hx1]; rfl, (((h13.drop 0).drop 0).drop 0)⟩
      · have he : (rdEnd (s.drop 2) (rdT (s.drop 2) 0 0).2.1 (rdT (s.drop 2) 0 0).2.2).1 = 4 := by unfold rdEnd; rw [if_pos ⟨hx1, hx2⟩]
        refine WC.reg ?_
        refine WL.v (Runs.move rfl) rfl ?_
        refine WL.v (Runs.boolT (c := true) (Runs.neq rfl rfl) (by rw [he]; rfl)) rfl ?_
        refine WL.v (Runs.move rfl) rfl ?_
        refine WL.gon rfl rfl rfl ?_
        refine WL.v (Runs.move rfl) rfl ?_
        refine WL.gon rfl rfl rfl ?_
        refine WL.v (Runs.boolT (c := false) (Runs.neq rfl rfl) (by rw [he]; rfl)) rfl ?_
        refine WL.v (Runs.pick rfl rfl rfl) rfl ?_
        refine WL.nil ?_
        refine WN.thn ?_
        refine WC.condF rfl (rfl) ?_
        refine WC.skip ?_
        refine WN.thn ?_
        refine WC.seq ?_
        refine WC.reg ?_
        refine WL.v (Runs.fld fld50_0 rfl) rfl ?_
        refine WL.v (Runs.load1 Try.underlying3 rfl rfl (h12.ocell (i := 0) rfl rfl)) rfl ?_
        refine WL.v (Runs.fld fld50_1 rfl) rfl ?_
        refine WL.v (Runs.load1 Try.underlying9 rfl rfl (h12.ocell (i := 0) rfl rfl)) rfl ?_
        refine WL.call can11 rfl rfl (record_c _ (kOf s) (txOf s) h12) ?_
        rintro _ w14 ⟨rfl, h14⟩
        refine ⟨_, rfl, ?_⟩
        refine WL.v (Runs.assign rfl) rfl ?_
        refine WL.nil ?_
        refine WN.thn ?_
        refine WC.seq ?_
        refine WC.seq ?_
        rcases takeCase s (recB (kOf s) (txOf s)) with hv | ⟨hv, hv2⟩ | ⟨hv, hv2⟩
        · skip
          refine WC.reg ?_
          refine WL.v (Runs.move rfl) rfl ?_
          refine WL.v (Runs.intT (n := (s.length : Int)) (Runs.slen Try.underlying9 rfl rfl) rfl) rfl ?_
          refine WL.v (Runs.move rfl) rfl ?_
          refine WL.v (Runs.intT (n := ((recB (kOf s) (txOf s)).length : Int)) (Runs.slen Try.underlying9 rfl rfl) rfl) rfl ?_
          refine WL.v (Runs.boolT (c := true) (Runs.lss rfl rfl) (by rw [decide_eq_true_eq]; omega)) rfl ?_
          refine WL.v (Runs.move rfl) rfl ?_
          refine WL.goff rfl rfl rfl rfl ?_
          refine WL.goff rfl rfl rfl rfl ?_
          refine WL.goff rfl rfl rfl rfl ?_
          refine WL.goff rfl rfl rfl rfl ?_
          refine WL.goff rfl rfl rfl rfl ?_
          refine WL.goff rfl rfl rfl rfl ?_
          refine WL.v (Runs.pick rfl rfl rfl) rfl ?_
          refine WL.nil ?_
          refine WN.thn ?_
          refine WC.condT rfl (rfl) ?_
          refine WC.seq ?_
          refine WC.reg ?_
          refine WL.v (Runs.build (vs := []) (cells := #[Vi 0, .string (bs [])]) rfl (by kernel_rfl)) rfl ?_
          refine WL.storeAll h14 2 rfl rfl rfl inf50 rfl rfl rfl (Free.zero _) ?_
          intro  w15 h15
          try simp only [List.set_cons_zero, List.set_cons_succ, List.eraseIdx_cons_zero, List.eraseIdx_cons_succ] at h15
          refine WL.v (Runs.assign rfl) rfl ?_
          refine WL.nil ?_
          refine WN.thn ?_
          refine WC.ret ?_
          exact retB rfl (v := .agg #[Vi 0, .string (bs [])]) ⟨_, rfl, run_loadVarA (vs := [Vi 0, .string (bs [])]) Try.underlying50 rfl inf50 rfl (fun j v hv => by rw [add_mk, Nat.zero_add]; exact h15.ocell (i := 2) rfl (by simpa using hv))⟩ (show lk _ _ = _ from rfl) ⟨by rw [firstM_c hok hx1 (.inl hv)]; rfl, (((h15.drop 0).drop 0).drop 0)⟩
        · skip
          refine WC.reg ?_
          refine WL.v (Runs.move rfl) rfl ?_
          refine WL.v (Runs.intT (n := (s.length : Int)) (Runs.slen Try.underlying9 rfl rfl) rfl) rfl ?_
          refine WL.v (Runs.move rfl) rfl ?_
          refine WL.v (Runs.intT (n := ((recB (kOf s) (txOf s)).length : Int)) (Runs.slen Try.underlying9 rfl rfl) rfl) rfl ?_
          refine WL.v (Runs.boolT (c := false) (Runs.lss rfl rfl) (by rw [decide_eq_false_iff_not]; omega)) rfl ?_
          refine WL.v (Runs.move rfl) rfl ?_
          refine WL.gon rfl rfl rfl ?_
          refine WL.v (Runs.move rfl) rfl ?_
          refine WL.gon rfl rfl rfl ?_
          refine WL.v (Runs.move rfl) rfl ?_
          refine WL.gon rfl rfl rfl ?_
          refine WL.v (Runs.intT (n := ((recB (kOf s) (txOf s)).length : Int)) (Runs.slen Try.underlying9 rfl rfl) rfl) rfl ?_
          refine WL.gon rfl rfl rfl ?_
          refine WL.v (Runs.lssl_hi Try.underlying9 rfl rfl (m := (recB (kOf s) (txOf s)).length) rfl (by omega)) rfl ?_
          refine WL.gon rfl rfl rfl ?_
          refine WL.v (Runs.move rfl) rfl ?_
          refine WL.gon rfl rfl rfl ?_
          refine WL.v (Runs.boolT (c := true) (Runs.lsneq rfl rfl) (by rw [decide_eq_false hv2]; rfl)) rfl ?_
          refine WL.v (Runs.pick rfl rfl rfl) rfl ?_
          refine WL.nil ?_
          refine WN.thn ?_
          refine WC.condT rfl (rfl) ?_
          refine WC.seq ?_
          refine WC.reg ?_
          refine WL.v (Runs.build (vs := []) (cells := #[Vi 0, .string (bs [])]) rfl (by kernel_rfl)) rfl ?_
          refine WL.storeAll h14 2 rfl rfl rfl inf50 rfl rfl rfl (Free.zero _) ?_
          intro  w16 h16
          try simp only [List.set_cons_zero, List.set_cons_succ, List.eraseIdx_cons_zero, List.eraseIdx_cons_succ] at h16
          refine WL.v (Runs.assign rfl) rfl ?_
          refine WL.nil ?_
          refine WN.thn ?_
          refine WC.ret ?_
          exact retB rfl (v := .agg #[Vi 0, .string (bs [])]) ⟨_, rfl, run_loadVarA (vs := [Vi 0, .string (bs [])]) Try.underlying50 rfl inf50 rfl (fun j v hv => by rw [add_mk, Nat.zero_add]; exact h16.ocell (i := 2) rfl (by simpa using hv))⟩ (show lk _ _ = _ from rfl) ⟨by rw [firstM_c hok hx1 (.inr hv2)]; rfl, (((h16.drop 0).drop 0).drop 0)⟩
        · skip
          refine WC.reg ?_
          refine WL.v (Runs.move rfl) rfl ?_
          refine WL.v (Runs.intT (n := (s.length : Int)) (Runs.slen Try.underlying9 rfl rfl) rfl) rfl ?_
          refine WL.v (Runs.move rfl) rfl ?_
          refine WL.v (Runs.intT (n := ((recB (kOf s) (txOf s)).length : Int)) (Runs.slen Try.underlying9 rfl rfl) rfl) rfl ?_
          refine WL.v (Runs.boolT (c := false) (Runs.lss rfl rfl) (by rw [decide_eq_false_iff_not]; omega)) rfl ?_
          refine WL.v (Runs.move rfl) rfl ?_
          refine WL.gon rfl rfl rfl ?_
          refine WL.v (Runs.move rfl) rfl ?_
          refine WL.gon rfl rfl rfl ?_
          refine WL.v (Runs.move rfl) rfl ?_
          refine WL.gon rfl rfl rfl ?_
          refine WL.v (Runs.intT (n := ((recB (kOf s) (txOf s)).length : Int)) (Runs.slen Try.underlying9 rfl rfl) rfl) rfl ?_
          refine WL.gon rfl rfl rfl ?_
          refine WL.v (Runs.lssl_hi Try.underlying9 rfl rfl (m := (recB (kOf s) (txOf s)).length) rfl (by omega)) rfl ?_
          refine WL.gon rfl rfl rfl ?_
          refine WL.v (Runs.move rfl) rfl ?_
          refine WL.gon rfl rfl rfl ?_
          refine WL.v (Runs.boolT (c := false) (Runs.lsneq rfl rfl) (by rw [decide_eq_true hv2]; rfl)) rfl ?_
          refine WL.v (Runs.pick rfl rfl rfl) rfl ?_
          refine WL.nil ?_
          refine WN.thn ?_
          refine WC.condF rfl (rfl) ?_
          refine WC.skip ?_
          refine WN.thn ?_
          refine WC.seq ?_
          refine WC.reg ?_
          refine WL.v (Runs.loadAll h14 0 rfl Try.underlying50 rfl inf50 rfl rfl) rfl ?_
          refine WL.v (Runs.move rfl) rfl ?_
          refine WL.v (Runs.intT (n := ((recB (kOf s) (txOf s)).length : Int)) (Runs.slen Try.underlying9 rfl rfl) rfl) rfl ?_
          refine WL.storeAll h14 2 rfl rfl rfl inf50 rfl rfl rfl (Free.zero _) ?_
          intro  w17 h17
          try simp only [List.set_cons_zero, List.set_cons_succ, List.eraseIdx_cons_zero, List.eraseIdx_cons_succ] at h17
          refine WL.v (Runs.assign rfl) rfl ?_
          refine WL.nil ?_
          refine WN.thn ?_
          refine WC.ret ?_
          exact retB rfl (v := .agg #[Vi (kOf s), .string (bs (txOf s))]) ⟨_, rfl, run_loadVarA (vs := [Vi (kOf s), .string (bs (txOf s))]) Try.underlying50 rfl inf50 rfl (fun j v hv => by rw [add_mk, Nat.zero_add]; exact h17.ocell (i := 2) rfl (by simpa using hv))⟩ (show lk _ _ = _ from rfl) ⟨by rw [firstM_d hok hx1 hv hv2]; rfl, (((h17.drop 0).drop 0).drop 0)⟩
      · have he : (rdEnd (s.drop 2) (rdT (s.drop 2) 0 0).2.1 (rdT (s.drop 2) 0 0).2.2).1 = 0 := by unfold rdEnd; rw [if_neg (fun hh => hx2 hh.2)]; exact hx1
        refine WC.reg ?_
        refine WL.v (Runs.move rfl) rfl ?_
        refine WL.v (Runs.boolT (c := false) (Runs.neq rfl rfl) (by rw [he]; rfl)) rfl ?_
        refine WL.v (Runs.move rfl) rfl ?_
        refine WL.goff rfl rfl rfl rfl ?_
        refine WL.goff rfl rfl rfl rfl ?_
        refine WL.v (Runs.pick rfl rfl rfl) rfl ?_
        refine WL.nil ?_
        refine WN.thn ?_
        refine WC.condF rfl (rfl) ?_
        refine WC.skip ?_
        refine WN.thn ?_
        refine WC.seq ?_
        refine WC.reg ?_
        refine WL.v (Runs.fld fld50_0 rfl) rfl ?_
        refine WL.v (Runs.load1 Try.underlying3 rfl rfl (h12.ocell (i := 0) rfl rfl)) rfl ?_
        refine WL.v (Runs.fld fld50_1 rfl) rfl ?_
        refine WL.v (Runs.load1 Try.underlying9 rfl rfl (h12.ocell (i := 0) rfl rfl)) rfl ?_
        refine WL.call can11 rfl rfl (record_c _ (kOf s) (txOf s) h12) ?_
        rintro _ w18 ⟨rfl, h18⟩
        refine ⟨_, rfl, ?_⟩
        refine WL.v (Runs.assign rfl) rfl ?_
        refine WL.nil ?_
        refine WN.thn ?_
        refine WC.seq ?_
        refine WC.seq ?_
        rcases takeCase s (recB (kOf s) (txOf s)) with hv | ⟨hv, hv2⟩ | ⟨hv, hv2⟩
        · skip
          refine WC.reg ?_
          refine WL.v (Runs.move rfl) rfl ?_
          refine WL.v (Runs.intT (n := (s.length : Int)) (Runs.slen Try.underlying9 rfl rfl) rfl) rfl ?_
          refine WL.v (Runs.move rfl) rfl ?_
          refine WL.v (Runs.intT (n := ((recB (kOf s) (txOf s)).length : Int)) (Runs.slen Try.underlying9 rfl rfl) rfl) rfl ?_
          refine WL.v (Runs.boolT (c := true) (Runs.lss rfl rfl) (by rw [decide_eq_true_eq]; omega)) rfl ?_
          refine WL.v (Runs.move rfl) rfl ?_
          refine WL.goff rfl rfl rfl rfl ?_
          refine WL.goff rfl rfl rfl rfl ?_
          refine WL.goff rfl rfl rfl rfl ?_
          refine WL.goff rfl rfl rfl rfl ?_
          refine WL.goff rfl rfl rfl rfl ?_
          refine WL.goff rfl rfl rfl rfl ?_
          refine WL.v (Runs.pick rfl rfl rfl) rfl ?_
          refine WL.nil ?_
          refine WN.thn ?_
          refine WC.condT rfl (rfl) ?_
          refine WC.seq ?_
          refine WC.reg ?_
          refine WL.v (Runs.build (vs := []) (cells := #[Vi 0, .string (bs [])]) rfl (by kernel_rfl)) rfl ?_
          refine WL.storeAll h18 2 rfl rfl rfl inf50 rfl rfl rfl (Free.zero _) ?_
          intro  w19 h19
          try simp only [List.set_cons_zero, List.set_cons_succ, List.eraseIdx_cons_zero, List.eraseIdx_cons_succ] at h19
          refine WL.v (Runs.assign rfl) rfl ?_
          refine WL.nil ?_
          refine WN.thn ?_
          refine WC.ret ?_
          exact retB rfl (v := .agg #[Vi 0, .string (bs [])]) ⟨_, rfl, run_loadVarA (vs := [Vi 0, .string (bs [])]) Try.underlying50 rfl inf50 rfl (fun j v hv => by rw [add_mk, Nat.zero_add]; exact h19.ocell (i := 2) rfl (by simpa using hv))⟩ (show lk _ _ = _ from rfl) ⟨by rw [firstM_c hok hx1 (.inl hv)]; rfl, (((h19.drop 0).drop 0).drop 0)⟩
        · skip
          refine WC.reg ?_
          refine WL.v (Runs.move rfl) rfl ?_
          refine WL.v (Runs.intT (n := (s.length : Int)) (Runs.slen Try.underlying9 rfl rfl) rfl) rfl ?_
          refine WL.v (Runs.move rfl) rfl ?_
          refine WL.v (Runs.intT (n := ((recB (kOf s) (txOf s)).length : Int)) (Runs.slen Try.underlying9 rfl rfl) rfl) rfl ?_
          refine WL.v (Runs.boolT (c := false) (Runs.lss rfl rfl) (by rw [decide_eq_false_iff_not]; omega)) rfl ?_
          refine WL.v (Runs.move rfl) rfl ?_
          refine WL.gon rfl rfl rfl ?_
          refine WL.v (Runs.move rfl) rfl ?_
          refine WL.gon rfl rfl rfl ?_
          refine WL.v (Runs.move rfl) rfl ?_
          refine WL.gon rfl rfl rfl ?_
          refine WL.v (Runs.intT (n := ((recB (kOf s) (txOf s)).length : Int)) (Runs.slen Try.underlying9 rfl rfl) rfl) rfl ?_
          refine WL.gon rfl rfl rfl ?_
          refine WL.v (Runs.lssl_hi Try.underlying9 rfl rfl (m := (recB (kOf s) (txOf s)).length) rfl (by omega)) rfl ?_
          refine WL.gon rfl rfl rfl ?_
          refine WL.v (Runs.move rfl) rfl ?_
          refine WL.gon rfl rfl rfl ?_
          refine WL.v (Runs.boolT (c := true) (Runs.lsneq rfl rfl) (by rw [decide_eq_false hv2]; rfl)) rfl ?_
          refine WL.v (Runs.pick rfl rfl rfl) rfl ?_
          refine WL.nil ?_
          refine WN.thn ?_
          refine WC.condT rfl (rfl) ?_
          refine WC.seq ?_
          refine WC.reg ?_
          refine WL.v (Runs.build (vs := []) (cells := #[Vi 0, .string (bs [])]) rfl (by kernel_rfl)) rfl ?_
          refine WL.storeAll h18 2 rfl rfl rfl inf50 rfl rfl rfl (Free.zero _) ?_
          intro  w20 h20
          try simp only [List.set_cons_zero, List.set_cons_succ, List.eraseIdx_cons_zero, List.eraseIdx_cons_succ] at h20
          refine WL.v (Runs.assign rfl) rfl ?_
          refine WL.nil ?_
          refine WN.thn ?_
          refine WC.ret ?_
          exact retB rfl (v := .agg #[Vi 0, .string (bs [])]) ⟨_, rfl, run_loadVarA (vs := [Vi 0, .string (bs [])]) Try.underlying50 rfl inf50 rfl (fun j v hv => by rw [add_mk, Nat.zero_add]; exact h20.ocell (i := 2) rfl (by simpa using hv))⟩ (show lk _ _ = _ from rfl) ⟨by rw [firstM_c hok hx1 (.inr hv2)]; rfl, (((h20.drop 0).drop 0).drop 0)⟩
        · skip
          refine WC.reg ?_
          refine WL.v (Runs.move rfl) rfl ?_
          refine WL.v (Runs.intT (n := (s.length : Int)) (Runs.slen Try.underlying9 rfl rfl) rfl) rfl ?_
          refine WL.v (Runs.move rfl) rfl ?_
          refine WL.v (Runs.intT (n := ((recB (kOf s) (txOf s)).length : Int)) (Runs.slen Try.underlying9 rfl rfl) rfl) rfl ?_
          refine WL.v (Runs.boolT (c := false) (Runs.lss rfl rfl) (by rw [decide_eq_false_iff_not]; omega)) rfl ?_
          refine WL.v (Runs.move rfl) rfl ?_
          refine WL.gon rfl rfl rfl ?_
          refine WL.v (Runs.move rfl) rfl ?_
          refine WL.gon rfl rfl rfl ?_
          refine WL.v (Runs.move rfl) rfl ?_
          refine WL.gon rfl rfl rfl ?_
          refine WL.v (Runs.intT (n := ((recB (kOf s) (txOf s)).length : Int)) (Runs.slen Try.underlying9 rfl rfl) rfl) rfl ?_
          refine WL.gon rfl rfl rfl ?_
          refine WL.v (Runs.lssl_hi Try.underlying9 rfl rfl (m := (recB (kOf s) (txOf s)).length) rfl (by omega)) rfl ?_
          refine WL.gon rfl rfl rfl ?_
          refine WL.v (Runs.move rfl) rfl ?_
          refine WL.gon rfl rfl rfl ?_
          refine WL.v (Runs.boolT (c := false) (Runs.lsneq rfl rfl) (by rw [decide_eq_true hv2]; rfl)) rfl ?_
          refine WL.v (Runs.pick rfl rfl rfl) rfl ?_
          refine WL.nil ?_
          refine WN.thn ?_
          refine WC.condF rfl (rfl) ?_
          refine WC.skip ?_
          refine WN.thn ?_
          refine WC.seq ?_
          refine WC.reg ?_
          refine WL.v (Runs.loadAll h18 0 rfl Try.underlying50 rfl inf50 rfl rfl) rfl ?_
          refine WL.v (Runs.move rfl) rfl ?_
          refine WL.v (Runs.intT (n := ((recB (kOf s) (txOf s)).length : Int)) (Runs.slen Try.underlying9 rfl rfl) rfl) rfl ?_
          refine WL.storeAll h18 2 rfl rfl rfl inf50 rfl rfl rfl (Free.zero _) ?_
          intro  w21 h21
          try simp only [List.set_cons_zero, List.set_cons_succ, List.eraseIdx_cons_zero, List.eraseIdx_cons_succ] at h21
          refine WL.v (Runs.assign rfl) rfl ?_
          refine WL.nil ?_
          refine WN.thn ?_
          refine WC.ret ?_
          exact retB rfl (v := .agg #[Vi (kOf s), .string (bs (txOf s))]) ⟨_, rfl, run_loadVarA (vs := [Vi (kOf s), .string (bs (txOf s))]) Try.underlying50 rfl inf50 rfl (fun j v hv => by rw [add_mk, Nat.zero_add]; exact h21.ocell (i := 2) rfl (by simpa using hv))⟩ (show lk _ _ = _ from rfl) ⟨by rw [firstM_d hok hx1 hv hv2]; rfl, (((h21.drop 0).drop 0).drop 0)⟩
    · skip
      refine WL.alloc' rfl h8 inf50 ?_
      intro b5 w22 h22
      refine WL.nil ?_
      refine WE.next ?_
      refine WE.op (.inr trivial) (i := 4) (by rfl) (by kernel_rfl) ?_
      refine WL.call can54 rfl rfl (Wir.readT_on (p := 0) _ (i := 1) h22 rfl (by rw [List.length_drop]; omega) (Nat.zero_le _)) ?_
      rintro _ w23 ⟨rfl, h23⟩
      refine ⟨_, rfl, ?_⟩
      simp only [List.set_cons_zero, List.set_cons_succ] at h23
      refine WL.nil ?_
      refine WE.next ?_
      refine WE.pure (g := none) hx 5 (by rfl) trivial (by kernel_rfl) (by kernel_rfl) (by kernel_rfl) (by kernel_rfl) (fun w_ => Runs.build (vs := [(0, Vi (kOf s)), (1, .string (bs (txOf s)))]) (cells := #[Vi (kOf s), .string (bs (txOf s))]) rfl (by kernel_rfl)) rfl ?_
      refine WE.op (.inr trivial) (i := 7) (by rfl) (by kernel_rfl) ?_
      refine WL.storeAll h23 0 rfl rfl rfl inf50 rfl rfl rfl (Free.zero _) ?_
      intro  w24 h24
      try simp only [List.set_cons_zero, List.set_cons_succ, List.eraseIdx_cons_zero, List.eraseIdx_cons_succ] at h24
      refine WL.nil ?_
      refine WE.next ?_
      refine WE.fin (.inr trivial) (by kernel_rfl) ?_
      refine WN.thn ?_
      refine WC.seq ?_
      refine WC.seq ?_
      refine WC.reg ?_
      refine WL.v (Runs.move rfl) rfl ?_
      refine WL.call can55 rfl rfl (Wir.rend_c _ (p := (rdT (s.drop 2) 0 0).2.1) (e := (rdT (s.drop 2) 0 0).2.2) h24 (i := 1) rfl) ?_
      rintro _ w25 ⟨rfl, h25⟩
      refine ⟨_, rfl, ?_⟩
      refine WL.v (Runs.move rfl) rfl ?_
      refine WL.v (Runs.extract rfl rfl) rfl ?_
      refine WL.v (Runs.extract rfl rfl) rfl ?_
      refine WL.v (Runs.assign rfl) rfl ?_
      refine WL.v (Runs.assign rfl) rfl ?_
      refine WL.nil ?_
      refine WN.thn ?_
      refine WC.seq ?_
      rcases Wir.cases5 (rdT (s.drop 2) 0 0).2.2 (rdT (s.drop 2) 0 0).2.1 (s.drop 2).length with hx1 | ⟨hx1, hx2⟩ | ⟨hx1, hx2⟩
      · have he : (rdEnd (s.drop 2) (rdT (s.drop 2) 0 0).2.1 (rdT (s.drop 2) 0 0).2.2).1 = (rdT (s.drop 2) 0 0).2.2 := by unfold rdEnd; rw [if_neg (fun hh => hx1 hh.1)]
        refine WC.reg ?_
        refine WL.v (Runs.move rfl) rfl ?_
        refine WL.v (Runs.boolT (c := true) (Runs.neq rfl rfl) (by rw [he, decide_eq_false hx1]; rfl)) rfl ?_
        refine WL.v (Runs.move rfl) rfl ?_
        refine WL.gon rfl rfl rfl ?_
        refine WL.v (Runs.move rfl) rfl ?_
        refine WL.gon rfl rfl rfl ?_
        refine WL.v (Runs.boolT (c := true) (Runs.neq rfl rfl) (by rw [he, decide_eq_false (rdT_4 _)]; rfl)) rfl ?_
        refine WL.v (Runs.pick rfl rfl rfl) rfl ?_
        refine WL.nil ?_
        refine WN.thn ?_
        refine WC.condT rfl (rfl) ?_
        refine WC.seq ?_
        refine WC.reg ?_
        refine WL.v (Runs.build (vs := []) (cells := #[Vi 0, .string (bs [])]) rfl (by kernel_rfl)) rfl ?_
        refine WL.storeAll h25 2 rfl rfl rfl inf50 rfl rfl rfl (Free.zero _) ?_
        intro  w26 h26
        try simp only [List.set_cons_zero, List.set_cons_succ, List.eraseIdx_cons_zero, List.eraseIdx_cons_succ] at h26
        refine WL.v (Runs.assign rfl) rfl ?_
        refine WL.nil ?_
        refine WN.thn ?_
        refine WC.ret ?_
        exact retB rfl (v := .agg #[Vi 0, .string (bs [])]) ⟨_, rfl, run_loadVarA (vs := [Vi 0, .string (bs [])]) Try.underlying50 rfl inf50 rfl (fun j v hv => by rw [add_mk, Nat.zero_add]; exact h26.ocell (i := 2) rfl (by simpa using hv))⟩ (show lk _ _ = _ from rfl) ⟨by rw [firstM_b hok hx1]; rfl, (((h26.drop 0).drop 0).drop 0)⟩
      · have he : (rdEnd (s.drop 2) (rdT (s.drop 2) 0 0).2.1 (rdT (s.drop 2) 0 0).2.2).1 = 4 := by unfold rdEnd; rw [if_pos ⟨hx1, hx2⟩]
        refine WC.reg ?_
        refine WL.v (Runs.move rfl) rfl ?_
        refine WL.v (Runs.boolT (c := true) (Runs.neq rfl rfl) (by rw [he]; rfl)) rfl ?_
        refine WL.v (Runs.move rfl) rfl ?_
        refine WL.gon rfl rfl rfl ?_
        refine WL.v (Runs.move rfl) rfl ?_
        refine WL.gon rfl rfl rfl ?_
        refine WL.v (Runs.boolT (c := false) (Runs.neq rfl rfl) (by rw [he]; rfl)) rfl ?_
        refine WL.v (Runs.pick rfl rfl rfl) rfl ?_
        refine WL.nil ?_
        refine WN.thn ?_
        refine WC.condF rfl (rfl) ?_
        refine WC.skip ?_
        refine WN.thn ?_
        refine WC.seq ?_
        refine WC.reg ?_
        refine WL.v (Runs.fld fld50_0 rfl) rfl ?_
        refine WL.v (Runs.load1 Try.underlying3 rfl rfl (h25.ocell (i := 0) rfl rfl)) rfl ?_
        refine WL.v (Runs.fld fld50_1 rfl) rfl ?_
        refine WL.v (Runs.load1 Try.underlying9 rfl rfl (h25.ocell (i := 0) rfl rfl)) rfl ?_
        refine WL.call can11 rfl rfl (record_c _ (kOf s) (txOf s) h25) ?_
        rintro _ w27 ⟨rfl, h27⟩
        refine ⟨_, rfl, ?_⟩
        refine WL.v (Runs.assign rfl) rfl ?_
        refine WL.nil ?_
        refine WN.thn ?_
        refine WC.seq ?_
        refine WC.seq ?_
        rcases takeCase s (recB (kOf s) (txOf s)) with hv | ⟨hv, hv2⟩ | ⟨hv, hv2⟩
        · skip
          refine WC.reg ?_
          refine WL.v (Runs.move rfl) rfl ?_
          refine WL.v (Runs.intT (n := (s.length : Int)) (Runs.slen Try.underlying9 rfl rfl) rfl) rfl ?_
          refine WL.v (Runs.move rfl) rfl ?_
          refine WL.v (Runs.intT (n := ((recB (kOf s) (txOf s)).length : Int)) (Runs.slen Try.underlying9 rfl rfl) rfl) rfl ?_
          refine WL.v (Runs.boolT (c := true) (Runs.lss rfl rfl) (by rw [decide_eq_true_eq]; omega)) rfl ?_
          refine WL.v (Runs.move rfl) rfl ?_
          refine WL.goff rfl rfl rfl rfl ?_
          refine WL.goff rfl rfl rfl rfl ?_
          refine WL.goff rfl rfl rfl rfl ?_
          refine WL.goff rfl rfl rfl rfl ?_
          refine WL.goff rfl rfl rfl rfl ?_
          refine WL.goff rfl rfl rfl rfl ?_
          refine WL.v (Runs.pick rfl rfl rfl) rfl ?_
          refine WL.nil ?_
          refine WN.thn ?_
          refine WC.condT rfl (rfl) ?_
          refine WC.seq ?_
          refine WC.reg ?_
          refine WL.v (Runs.build (vs := []) (cells := #[Vi 0, .string (bs [])]) rfl (by kernel_rfl)) rfl ?_
          refine WL.storeAll h27 2 rfl rfl rfl inf50 rfl rfl rfl (Free.zero _) ?_
          intro  w28 h28
          try simp only [List.set_cons_zero, List.set_cons_succ, List.eraseIdx_cons_zero, List.eraseIdx_cons_succ] at h28
          refine WL.v (Runs.assign rfl) rfl ?_
          refine WL.nil ?_
          refine WN.thn ?_
          refine WC.ret ?_
          exact retB rfl (v := .agg #[Vi 0, .string (bs [])]) ⟨_, rfl, run_loadVarA (vs := [Vi 0, .string (bs [])]) Try.underlying50 rfl inf50 rfl (fun j v hv => by rw [add_mk, Nat.zero_add]; exact h28.ocell (i := 2) rfl (by simpa using hv))⟩ (show lk _ _ = _ from rfl) ⟨by rw [firstM_c hok hx1 (.inl hv)]; rfl, (((h28.drop 0).drop 0).drop 0)⟩
        · skip
          refine WC.reg ?_
          refine WL.v (Runs.move rfl) rfl ?_
          refine WL.v (Runs.intT (n := (s.length : Int)) (Runs.slen Try.underlying9 rfl rfl) rfl) rfl ?_
          refine WL.v (Runs.move rfl) rfl ?_
          refine WL.v (Runs.intT (n := ((recB (kOf s) (txOf s)).length : Int)) (Runs.slen Try.underlying9 rfl rfl) rfl) rfl ?_
          refine WL.v (Runs.boolT (c := false) (Runs.lss rfl rfl) (by rw [decide_eq_false_iff_not]; omega)) rfl ?_
          refine WL.v (Runs.move rfl) rfl ?_
          refine WL.gon rfl rfl rfl ?_
          refine WL.v (Runs.move rfl) rfl ?_
          refine WL.gon rfl rfl rfl ?_
          refine WL.v (Runs.move rfl) rfl ?_
          refine WL.gon rfl rfl rfl ?_
          refine WL.v (Runs.intT (n := ((recB (kOf s) (txOf s)).length : Int)) (Runs.slen Try.underlying9 rfl rfl) rfl) rfl ?_
          refine WL.gon rfl rfl rfl ?_
          refine WL.v (Runs.lssl_hi Try.underlying9 rfl rfl (m := (recB (kOf s) (txOf s)).length) rfl (by omega)) rfl ?_
          refine WL.gon rfl rfl rfl ?_
          refine WL.v (Runs.move rfl) rfl ?_
          refine WL.gon rfl rfl rfl ?_
          refine WL.v (Runs.boolT (c := true) (Runs.lsneq rfl rfl) (by rw [decide_eq_false hv2]; rfl)) rfl ?_
          refine WL.v (Runs.pick rfl rfl rfl) rfl ?_
          refine WL.nil ?_
          refine WN.thn ?_
          refine WC.condT rfl (rfl) ?_
          refine WC.seq ?_
          refine WC.reg ?_
          refine WL.v (Runs.build (vs := []) (cells := #[Vi 0, .string (bs [])]) rfl (by kernel_rfl)) rfl ?_
          refine WL.storeAll h27 2 rfl rfl rfl inf50 rfl rfl rfl (Free.zero _) ?_
          intro  w29 h29
          try simp only [List.set_cons_zero, List.set_cons_succ, List.eraseIdx_cons_zero, List.eraseIdx_cons_succ] at h29
          refine WL.v (Runs.assign rfl) rfl ?_
          refine WL.nil ?_
          refine WN.thn ?_
          refine WC.ret ?_
          exact retB rfl (v := .agg #[Vi 0, .string (bs [])]) ⟨_, rfl, run_loadVarA (vs := [Vi 0, .string (bs [])]) Try.underlying50 rfl inf50 rfl (fun j v hv => by rw [add_mk, Nat.zero_add]; exact h29.ocell (i := 2) rfl (by simpa using hv))⟩ (show lk _ _ = _ from rfl) ⟨by rw [firstM_c hok hx1 (.inr hv2)]; rfl, (((h29.drop 0).drop 0).drop 0)⟩
        · skip
          refine WC.reg ?_
          refine WL.v (Runs.move rfl) rfl ?_
          refine WL.v (Runs.intT (n := (s.length : Int)) (Runs.slen Try.underlying9 rfl rfl) rfl) rfl ?_
          refine WL.v (Runs.move rfl) rfl ?_
          refine WL.v (Runs.intT (n := ((recB (kOf s) (txOf s)).length : Int)) (Runs.slen Try.underlying9 rfl rfl) rfl) rfl ?_
          refine WL.v (Runs.boolT (c := false) (Runs.lss rfl rfl) (by rw [decide_eq_false_iff_not]; omega)) rfl ?_
          refine WL.v (Runs.move rfl) rfl ?_
          refine WL.gon rfl rfl rfl ?_
          refine WL.v (Runs.move rfl) rfl ?_
          refine WL.gon rfl rfl rfl ?_
          refine WL.v (Runs.move rfl) rfl ?_
          refine WL.gon rfl rfl rfl ?_
          refine WL.v (Runs.intT (n := ((recB (kOf s) (txOf s)).length : Int)) (Runs.slen Try.underlying9 rfl rfl) rfl) rfl ?_
          refine WL.gon rfl rfl rfl ?_
          refine WL.v (Runs.lssl_hi Try.underlying9 rfl rfl (m := (recB (kOf s) (txOf s)).length) rfl (by omega)) rfl ?_
          refine WL.gon rfl rfl rfl ?_
          refine WL.v (Runs.move rfl) rfl ?_
          refine WL.gon rfl rfl rfl ?_
          refine WL.v (Runs.boolT (c := false) (Runs.lsneq rfl rfl) (by rw [decide_eq_true hv2]; rfl)) rfl ?_
          refine WL.v (Runs.pick rfl rfl rfl) rfl ?_
          refine WL.nil ?_
          refine WN.thn ?_
          refine WC.condF rfl (rfl) ?_
          refine WC.skip ?_
          refine WN.thn ?_
          refine WC.seq ?_
          refine WC.reg ?_
          refine WL.v (Runs.loadAll h27 0 rfl Try.underlying50 rfl inf50 rfl rfl) rfl ?_
          refine WL.v (Runs.move rfl) rfl ?_
          refine WL.v (Runs.intT (n := ((recB (kOf s) (txOf s)).length : Int)) (Runs.slen Try.underlying9 rfl rfl) rfl) rfl ?_
          refine WL.storeAll h27 2 rfl rfl rfl inf50 rfl rfl rfl (Free.zero _) ?_
          intro  w30 h30
          try simp only [List.set_cons_zero, List.set_cons_succ, List.eraseIdx_cons_zero, List.eraseIdx_cons_succ] at h30
          refine WL.v (Runs.assign rfl) rfl ?_
          refine WL.nil ?_
          refine WN.thn ?_
          refine WC.ret ?_
          exact retB rfl (v := .agg #[Vi (kOf s), .string (bs (txOf s))]) ⟨_, rfl, run_loadVarA (vs := [Vi (kOf s), .string (bs (txOf s))]) Try.underlying50 rfl inf50 rfl (fun j v hv => by rw [add_mk, Nat.zero_add]; exact h30.ocell (i := 2) rfl (by simpa using hv))⟩ (show lk _ _ = _ from rfl) ⟨by rw [firstM_d hok hx1 hv hv2]; rfl, (((h30.drop 0).drop 0).drop 0)⟩
      · have he : (rdEnd (s.drop 2) (rdT (s.drop 2) 0 0).2.1 (rdT (s.drop 2) 0 0).2.2).1 = 0 := by unfold rdEnd; rw [if_neg (fun hh => hx2 hh.2)]; exact hx1
        refine WC.reg ?_
        refine WL.v (Runs.move rfl) rfl ?_
        refine WL.v (Runs.boolT (c := false) (Runs.neq rfl rfl) (by rw [he]; rfl)) rfl ?_
        refine WL.v (Runs.move rfl) rfl ?_
        refine WL.goff rfl rfl rfl rfl ?_
        refine WL.goff rfl rfl rfl rfl ?_
        refine WL.v (Runs.pick rfl rfl rfl) rfl ?_
        refine WL.nil ?_
        refine WN.thn ?_
        refine WC.condF rfl (rfl) ?_
        refine WC.skip ?_
        refine WN.thn ?_
        refine WC.seq ?_
        refine WC.reg ?_
        refine WL.v (Runs.fld fld50_0 rfl) rfl ?_
        refine WL.v (Runs.load1 Try.underlying3 rfl rfl (h25.ocell (i := 0) rfl rfl)) rfl ?_
        refine WL.v (Runs.fld fld50_1 rfl) rfl ?_
        refine WL.v (Runs.load1 Try.underlying9 rfl rfl (h25.ocell (i := 0) rfl rfl)) rfl ?_
        refine WL.call can11 rfl rfl (record_c _ (kOf s) (txOf s) h25) ?_
        rintro _ w31 ⟨rfl, h31⟩
        refine ⟨_, rfl, ?_⟩
        refine WL.v (Runs.assign rfl) rfl ?_
        refine WL.nil ?_
        refine WN.thn ?_
        refine WC.seq ?_
        refine WC.seq ?_
        rcases takeCase s (recB (kOf s) (txOf s)) with hv | ⟨hv, hv2⟩ | ⟨hv, hv2⟩
        · skip
          refine WC.reg ?_
          refine WL.v (Runs.move rfl) rfl ?_
          refine WL.v (Runs.intT (n := (s.length : Int)) (Runs.slen Try.underlying9 rfl rfl) rfl) rfl ?_
          refine WL.v (Runs.move rfl) rfl ?_
          refine WL.v (Runs.intT (n := ((recB (kOf s) (txOf s)).length : Int)) (Runs.slen Try.underlying9 rfl rfl) rfl) rfl ?_
          refine WL.v (Runs.boolT (c := true) (Runs.lss rfl rfl) (by rw [decide_eq_true_eq]; omega)) rfl ?_
          refine WL.v (Runs.move rfl) rfl ?_
          refine WL.goff rfl rfl rfl rfl ?_
          refine WL.goff rfl rfl rfl rfl ?_
          refine WL.goff rfl rfl rfl rfl ?_
          refine WL.goff rfl rfl rfl rfl ?_
          refine WL.goff rfl rfl rfl rfl ?_
          refine WL.goff rfl rfl rfl rfl ?_
          refine WL.v (Runs.pick rfl rfl rfl) rfl ?_
          refine WL.nil ?_
          refine WN.thn ?_
          refine WC.condT rfl (rfl) ?_
          refine WC.seq ?_
          refine WC.reg ?_
          refine WL.v (Runs.build (vs := []) (cells := #[Vi 0, .string (bs [])]) rfl (by kernel_rfl)) rfl ?_
          refine WL.storeAll h31 2 rfl rfl rfl inf50 rfl rfl rfl (Free.zero _) ?_
          intro  w32 h32
          try simp only [List.set_cons_zero, List.set_cons_succ, List.eraseIdx_cons_zero, List.eraseIdx_cons_succ] at h32
          refine WL.v (Runs.assign rfl) rfl ?_
          refine WL.nil ?_
          refine WN.thn ?_
          refine WC.ret ?_
          exact retB rfl (v := .agg #[Vi 0, .string (bs [])]) ⟨_, rfl, run_loadVarA (vs := [Vi 0, .string (bs [])]) Try.underlying50 rfl inf50 rfl (fun j v hv => by rw [add_mk, Nat.zero_add]; exact h32.ocell (i := 2) rfl (by simpa using hv))⟩ (show lk _ _ = _ from rfl) ⟨by rw [firstM_c hok hx1 (.inl hv)]; rfl, (((h32.drop 0).drop 0).drop 0)⟩
        · skip
          refine WC.reg ?_
          refine WL.v (Runs.move rfl) rfl ?_
          refine WL.v (Runs.intT (n := (s.length : Int)) (Runs.slen Try.underlying9 rfl rfl) rfl) rfl ?_
          refine WL.v (Runs.move rfl) rfl ?_
          refine WL.v (Runs.intT (n := ((recB (kOf s) (txOf s)).length : Int)) (Runs.slen Try.underlying9 rfl rfl) rfl) rfl ?_
          refine WL.v (Runs.boolT (c := false) (Runs.lss rfl rfl) (by rw [decide_eq_false_iff_not]; omega)) rfl ?_
          refine WL.v (Runs.move rfl) rfl ?_
          refine WL.gon rfl rfl rfl ?_
          refine WL.v (Runs.move rfl) rfl ?_
          refine WL.gon rfl rfl rfl ?_
          refine WL.v (Runs.move rfl) rfl ?_
          refine WL.gon rfl rfl rfl ?_
          refine WL.v (Runs.intT (n := ((recB (kOf s) (txOf s)).length : Int)) (Runs.slen Try.underlying9 rfl rfl) rfl) rfl ?_
          refine WL.gon rfl rfl rfl ?_
          refine WL.v (Runs.lssl_hi Try.underlying9 rfl rfl (m := (recB (kOf s) (txOf s)).length) rfl (by omega)) rfl ?_
          refine WL.gon rfl rfl rfl ?_
          refine WL.v (Runs.move rfl) rfl ?_
          refine WL.gon rfl rfl rfl ?_
          refine WL.v (Runs.boolT (c := true) (Runs.lsneq rfl rfl) (by rw [decide_eq_false hv2]; rfl)) rfl ?_
          refine WL.v (Runs.pick rfl rfl rfl) rfl ?_
          refine WL.nil ?_
          refine WN.thn ?_
          refine WC.condT rfl (rfl) ?_
          refine WC.seq ?_
          refine WC.reg ?_
          refine WL.v (Runs.build (vs := []) (cells := #[Vi 0, .string (bs [])]) rfl (by kernel_rfl)) rfl ?_
          refine WL.storeAll h31 2 rfl rfl rfl inf50 rfl rfl rfl (Free.zero _) ?_
          intro  w33 h33
          try simp only [List.set_cons_zero, List.set_cons_succ, List.eraseIdx_cons_zero, List.eraseIdx_cons_succ] at h33
          refine WL.v (Runs.assign rfl) rfl ?_
          refine WL.nil ?_
          refine WN.thn ?_
          refine WC.ret ?_
          exact retB rfl (v := .agg #[Vi 0, .string (bs [])]) ⟨_, rfl, run_loadVarA (vs := [Vi 0, .string (bs [])]) Try.underlying50 rfl inf50 rfl (fun j v hv => by rw [add_mk, Nat.zero_add]; exact h33.ocell (i := 2) rfl (by simpa using hv))⟩ (show lk _ _ = _ from rfl) ⟨by rw [firstM_c hok hx1 (.inr hv2)]; rfl, (((h33.drop 0).drop 0).drop 0)⟩
        · skip
          refine WC.reg ?_
          refine WL.v (Runs.move rfl) rfl ?_
          refine WL.v (Runs.intT (n := (s.length : Int)) (Runs.slen Try.underlying9 rfl rfl) rfl) rfl ?_
          refine WL.v (Runs.move rfl) rfl ?_
          refine WL.v (Runs.intT (n := ((recB (kOf s) (txOf s)).length : Int)) (Runs.slen Try.underlying9 rfl rfl) rfl) rfl ?_
          refine WL.v (Runs.boolT (c := false) (Runs.lss rfl rfl) (by rw [decide_eq_false_iff_not]; omega)) rfl ?_
          refine WL.v (Runs.move rfl) rfl ?_
          refine WL.gon rfl rfl rfl ?_
          refine WL.v (Runs.move rfl) rfl ?_
          refine WL.gon rfl rfl rfl ?_
          refine WL.v (Runs.move rfl) rfl ?_
          refine WL.gon rfl rfl rfl ?_
          refine WL.v (Runs.intT (n := ((recB (kOf s) (txOf s)).length : Int)) (Runs.slen Try.underlying9 rfl rfl) rfl) rfl ?_
          refine WL.gon rfl rfl rfl ?_
          refine WL.v (Runs.lssl_hi Try.underlying9 rfl rfl (m := (recB (kOf s) (txOf s)).length) rfl (by omega)) rfl ?_
          refine WL.gon rfl rfl rfl ?_
          refine WL.v (Runs.move rfl) rfl ?_
          refine WL.gon rfl rfl rfl ?_
          refine WL.v (Runs.boolT (c := false) (Runs.lsneq rfl rfl) (by rw [decide_eq_true hv2]; rfl)) rfl ?_
          refine WL.v (Runs.pick rfl rfl rfl) rfl ?_
          refine WL.nil ?_
          refine WN.thn ?_
          refine WC.condF rfl (rfl) ?_
          refine WC.skip ?_
          refine WN.thn ?_
          refine WC.seq ?_
          refine WC.reg ?_
          refine WL.v (Runs.loadAll h31 0 rfl Try.underlying50 rfl inf50 rfl rfl) rfl ?_
          refine WL.v (Runs.move rfl) rfl ?_
          refine WL.v (Runs.intT (n := ((recB (kOf s) (txOf s)).length : Int)) (Runs.slen Try.underlying9 rfl rfl) rfl) rfl ?_
          refine WL.storeAll h31 2 rfl rfl rfl inf50 rfl rfl rfl (Free.zero _) ?_
          intro  w34 h34
          try simp only [List.set_cons_zero, List.set_cons_succ, List.eraseIdx_cons_zero, List.eraseIdx_cons_succ] at h34
          refine WL.v (Runs.assign rfl) rfl ?_
          refine WL.nil ?_
          refine WN.thn ?_
          refine WC.ret ?_
          exact retB rfl (v := .agg #[Vi (kOf s), .string (bs (txOf s))]) ⟨_, rfl, run_loadVarA (vs := [Vi (kOf s), .string (bs (txOf s))]) Try.underlying50 rfl inf50 rfl (fun j v hv => by rw [add_mk, Nat.zero_add]; exact h34.ocell (i := 2) rfl (by simpa using hv))⟩ (show lk _ _ = _ from rfl) ⟨by rw [firstM_d hok hx1 hv hv2]; rfl, (((h34.drop 0).drop 0).drop 0)⟩
end Jo
end Go.Proofs.Ythjcfhfbaeokeaa
