/- The reference of chapter 08: records. -/
import Derived.Test.YthjcfhfbaeokeaaMJ6
import Derived.Test.YthjcfhfbaeokeaaMW17
import Derived.Test.YthjcfhfbaeokeaaMSha11
namespace Go.Proofs.Ythjcfhfbaeokeaa
open Go Go.RowKit B
set_option linter.unusedVariables false
set_option linter.unusedSimpArgs false
namespace Jo
open Wir (Vi textB numB rdT rdEnd wtext_c)

theorem can12 : B.Can Try.prog 12 := ⟨_, Try.func12, by kernel_rfl, rfl⟩   -- roundhouse/roundhouseref08.Record
theorem can30 : B.Can Try.prog 30 := ⟨_, Try.func30, by kernel_rfl, rfl⟩   -- roundhouse/roundhouseref02.Text
theorem can31 : B.Can Try.prog 31 := ⟨_, Try.func31, by kernel_rfl, rfl⟩   -- roundhouse/roundhouseref01.Of
theorem rofb_c {W : World} {F : Snap} {cs : List Res} (w : World) (l : List UInt8) (h : St W F cs w) (hl : l.length ≤ 1000000) : Calls Try.prog 31 #[.string (bs l)] w fun e w' => e = .returned (.string (bs (ShaM.of l))) ∧ St W F cs w' := by
  have := Sha.rof_c w (bs l) h hl
  have e : (bs l).data.toList = l := by simp [bs]
  rwa [e] at this
theorem kCase (k : Int) : k < 0 ∨ (0 ≤ k ∧ 1 < k) ∨ okK k := by
  unfold okK
  omega
theorem qrecCase (k : Int) (s : List UInt8) : k < 0 ∨ (0 ≤ k ∧ 1 < k) ∨ (okK k ∧ 4096 < s.length) ∨ okR k s := by
  rcases kCase k with h | h | h
  · exact .inl h
  · exact .inr (.inl h)
  · rcases recCase k s with h2 | h2 | h2
    · exact absurd h h2
    · exact .inr (.inr (.inl h2))
    · exact .inr (.inr (.inr h2))
theorem okK_b {k : Int} (h : okK k) : 0 ≤ k ∧ k ≤ 1 := by
  rcases h with h | h <;> omega
set_option maxRecDepth 100000 in
set_option maxHeartbeats 4000000 in
theorem qrecord_c {W : World} {F : Snap} {cs : List Res} (w : World) (k : Int) (s : List UInt8) (h : St W F cs w) : Calls Try.prog 12 #[Vi k, .string (bs s)] w fun r w' => r = .returned (.string (bs (recB k s))) ∧ St W F cs w'  := by
  refine enter (P := Try.prog) (args := [Vi k, .string (bs s)]) Try.func12 rfl rfl rfl ?_
  refine WC.seq ?_
  refine WC.reg ?_
  refine WL.v (Runs.assign rfl) rfl ?_
  refine WL.nil ?_
  refine WN.thn ?_
  refine WC.seq ?_
  refine WC.seq ?_
  rcases qrecCase k s with hn | ⟨hn, hn2⟩ | ⟨hk1, hn⟩ | hk
  · skip
    refine WC.reg ?_
    refine WL.v (Runs.move rfl) rfl ?_
    refine WL.v (Runs.boolT (c := true) (Runs.lss rfl rfl) (by rw [decide_eq_true_eq]; omega)) rfl ?_
    refine WL.v (Runs.move rfl) rfl ?_
    refine WL.goff rfl rfl rfl rfl ?_
    refine WL.goff rfl rfl rfl rfl ?_
    refine WL.v (Runs.pick rfl rfl rfl) rfl ?_
    refine WL.v (Runs.move rfl) rfl ?_
    refine WL.goff rfl rfl rfl rfl ?_
    refine WL.goff rfl rfl rfl rfl ?_
    refine WL.goff rfl rfl rfl rfl ?_
    refine WL.v (Runs.pick rfl rfl rfl) rfl ?_
    refine WL.nil ?_
    refine WN.thn ?_
    refine WC.condT rfl (rfl) ?_
    refine WC.seq ?_
    refine WC.reg ?_
    refine WL.v (Runs.assign rfl) rfl ?_
    refine WL.nil ?_
    refine WN.thn ?_
    refine WC.ret ?_
    refine ret1 rfl rfl ⟨?_, h⟩
    rw [recB_n (fun hh => by have := okK_b hh.1; omega)]; rfl
  · skip
    refine WC.reg ?_
    refine WL.v (Runs.move rfl) rfl ?_
    refine WL.v (Runs.boolT (c := false) (Runs.lss rfl rfl) (by rw [decide_eq_false_iff_not]; omega)) rfl ?_
    refine WL.v (Runs.move rfl) rfl ?_
    refine WL.gon rfl rfl rfl ?_
    refine WL.v (Runs.move rfl) rfl ?_
    refine WL.gon rfl rfl rfl ?_
    refine WL.v (Runs.boolT (c := true) (Runs.gtr rfl rfl) (by rw [decide_eq_true_eq]; omega)) rfl ?_
    refine WL.v (Runs.pick rfl rfl rfl) rfl ?_
    refine WL.v (Runs.move rfl) rfl ?_
    refine WL.goff rfl rfl rfl rfl ?_
    refine WL.goff rfl rfl rfl rfl ?_
    refine WL.goff rfl rfl rfl rfl ?_
    refine WL.v (Runs.pick rfl rfl rfl) rfl ?_
    refine WL.nil ?_
    refine WN.thn ?_
    refine WC.condT rfl (rfl) ?_
    refine WC.seq ?_
    refine WC.reg ?_
    refine WL.v (Runs.assign rfl) rfl ?_
    refine WL.nil ?_
    refine WN.thn ?_
    refine WC.ret ?_
    refine ret1 rfl rfl ⟨?_, h⟩
    rw [recB_n (fun hh => by have := okK_b hh.1; omega)]; rfl
  · have hkb := okK_b hk1
    refine WC.reg ?_
    refine WL.v (Runs.move rfl) rfl ?_
    refine WL.v (Runs.boolT (c := false) (Runs.lss rfl rfl) (by rw [decide_eq_false_iff_not]; omega)) rfl ?_
    refine WL.v (Runs.move rfl) rfl ?_
    refine WL.gon rfl rfl rfl ?_
    refine WL.v (Runs.move rfl) rfl ?_
    refine WL.gon rfl rfl rfl ?_
    refine WL.v (Runs.boolT (c := false) (Runs.gtr rfl rfl) (by rw [decide_eq_false_iff_not]; omega)) rfl ?_
    refine WL.v (Runs.pick rfl rfl rfl) rfl ?_
    refine WL.v (Runs.move rfl) rfl ?_
    refine WL.gon rfl rfl rfl ?_
    refine WL.v (Runs.move rfl) rfl ?_
    refine WL.gon rfl rfl rfl ?_
    refine WL.v (Runs.intT (n := (s.length : Int)) (Runs.slen Try.underlying9 rfl rfl) rfl) rfl ?_
    refine WL.gon rfl rfl rfl ?_
    refine WL.v (Runs.boolT (c := true) (Runs.gtr rfl rfl) (by rw [decide_eq_true_eq]; omega)) rfl ?_
    refine WL.v (Runs.pick rfl rfl rfl) rfl ?_
    refine WL.nil ?_
    refine WN.thn ?_
    refine WC.condT rfl (rfl) ?_
    refine WC.seq ?_
    refine WC.reg ?_
    refine WL.v (Runs.assign rfl) rfl ?_
    refine WL.nil ?_
    refine WN.thn ?_
    refine WC.ret ?_
    refine ret1 rfl rfl ⟨?_, h⟩
    rw [recB_n (fun hh => by have := hh.2; omega)]; rfl
  · have hkb := okK_b hk.1
    have hk2 := hk.2
    refine WC.reg ?_
    refine WL.v (Runs.move rfl) rfl ?_
    refine WL.v (Runs.boolT (c := false) (Runs.lss rfl rfl) (by rw [decide_eq_false_iff_not]; omega)) rfl ?_
    refine WL.v (Runs.move rfl) rfl ?_
    refine WL.gon rfl rfl rfl ?_
    refine WL.v (Runs.move rfl) rfl ?_
    refine WL.gon rfl rfl rfl ?_
    refine WL.v (Runs.boolT (c := false) (Runs.gtr rfl rfl) (by rw [decide_eq_false_iff_not]; omega)) rfl ?_
    refine WL.v (Runs.pick rfl rfl rfl) rfl ?_
    refine WL.v (Runs.move rfl) rfl ?_
    refine WL.gon rfl rfl rfl ?_
    refine WL.v (Runs.move rfl) rfl ?_
    refine WL.gon rfl rfl rfl ?_
    refine WL.v (Runs.intT (n := (s.length : Int)) (Runs.slen Try.underlying9 rfl rfl) rfl) rfl ?_
    refine WL.gon rfl rfl rfl ?_
    refine WL.v (Runs.boolT (c := false) (Runs.gtr rfl rfl) (by rw [decide_eq_false_iff_not]; omega)) rfl ?_
    refine WL.v (Runs.pick rfl rfl rfl) rfl ?_
    refine WL.nil ?_
    refine WN.thn ?_
    refine WC.condF rfl (rfl) ?_
    refine WC.skip ?_
    refine WN.thn ?_
    refine WC.seq ?_
    refine WC.ereg h (fun _ => True) (fun s_ => ([] : List Nat).any (Nat.beq s_)) mixed (by kernel_rfl) (fun hx => ?_)
    intro w1 h1
    refine WE.pure (g := none) hx 0 (by rfl) trivial (by kernel_rfl) (by kernel_rfl) (by kernel_rfl) (by kernel_rfl) (fun w_ => Runs.move rfl) rfl ?_
    refine WE.pure (g := none) hx 1 (by rfl) trivial (by kernel_rfl) (by kernel_rfl) (by kernel_rfl) (by kernel_rfl) (fun w_ => Runs.valT (u := V8 (UInt8.ofNat k.toNat)) (Runs.toInt Try.underlying3 Try.underlying5 rfl) (by rcases hk.1 with rfl | rfl <;> rfl)) rfl ?_
    refine WE.pure (g := none) hx 4 (by rfl) trivial (by kernel_rfl) (by kernel_rfl) (by kernel_rfl) (by kernel_rfl) (fun w_ => Runs.move rfl) rfl ?_
    refine WE.op2 (.inr trivial) (i := 2) (j := 5) (by rfl) (by rfl) (by kernel_rfl) ?_ ?_
    · skip
      refine WL.lit (vs := (([74, UInt8.ofNat k.toNat] : List UInt8)).map V8) h1 rfl Try.underlying53 inf5 rfl rfl rfl rfl rfl ?_
      intro lit19 w2 h2
      refine WL.nil ?_
      refine WE.next ?_
      refine WE.op2 (.inr trivial) (i := 3) (j := 5) (by rfl) (by rfl) (by kernel_rfl) ?_ ?_
      · skip
        refine WL.v (Runs.valT (u := .string (bs [74, UInt8.ofNat k.toNat])) (Runs.b2s Try.underlying53 Try.underlying5 Try.underlying9 rfl rfl (bs := [74, UInt8.ofNat k.toNat]) (.inr ⟨_, rfl, fun j b hb => by rw [add_mk, Nat.zero_add]; exact h2.ocell (i := 0) rfl (two_el hb)⟩)) rfl) rfl ?_
        refine WL.nil ?_
        refine WE.next ?_
        refine WE.op (.inr trivial) (i := 5) (by rfl) (by kernel_rfl) ?_
        refine WL.call can30 rfl rfl (Wir.rtext_c _ s h2 (by have := hk.2; omega)) ?_
        rintro _ w3 ⟨rfl, h3⟩
        refine ⟨_, rfl, ?_⟩
        refine WL.nil ?_
        refine WE.next ?_
        refine WE.pure (g := none) hx 6 (by rfl) trivial (by kernel_rfl) (by kernel_rfl) (by kernel_rfl) (by kernel_rfl) (fun w_ => Runs.valT (u := .string (bs (hdB k s))) (Runs.lsadd (a := [74, UInt8.ofNat k.toNat]) (b := textB s) rfl rfl (by have := hdB_len (k := k) hk.2; unfold hdB at this; simp only [List.length_cons] at this ⊢; simp only [List.length_nil]; omega)) rfl) rfl ?_
        refine WE.pure (g := none) hx 7 (by rfl) trivial (by kernel_rfl) (by kernel_rfl) (by kernel_rfl) (by kernel_rfl) (fun w_ => Runs.assign rfl) rfl ?_
        refine WE.fin (.inr trivial) (by kernel_rfl) ?_
        refine WN.thn ?_
        refine WC.seq ?_
        refine WC.reg ?_
        refine WL.v (Runs.move rfl) rfl ?_
        refine WL.v (Runs.move rfl) rfl ?_
        refine WL.call can31 rfl rfl (rofb_c _ (hdB k s) h3 (by have := hdB_len (k := k) hk.2; omega)) ?_
        rintro _ w4 ⟨rfl, h4⟩
        refine ⟨_, rfl, ?_⟩
        refine WL.v (Runs.lssl_hi Try.underlying9 rfl rfl (m := 4) rfl (by rw [of_l]; decide)) rfl ?_
        refine WL.v (Runs.lsadd rfl rfl (by have := hdB_len (k := k) hk.2; rw [List.length_take, of_l]; omega)) rfl ?_
        refine WL.v (Runs.assign rfl) rfl ?_
        refine WL.nil ?_
        refine WN.thn ?_
        refine WC.ret ?_
        refine ret1 rfl rfl ⟨?_, h4.drop 0⟩
        rw [recB_y hk]; rfl
      · skip
        refine WL.call can30 rfl rfl (Wir.rtext_c _ s h2 (by have := hk.2; omega)) ?_
        rintro _ w5 ⟨rfl, h5⟩
        refine ⟨_, rfl, ?_⟩
        refine WL.nil ?_
        refine WE.next ?_
        refine WE.op (.inr trivial) (i := 3) (by rfl) (by kernel_rfl) ?_
        refine WL.v (Runs.valT (u := .string (bs [74, UInt8.ofNat k.toNat])) (Runs.b2s Try.underlying53 Try.underlying5 Try.underlying9 rfl rfl (bs := [74, UInt8.ofNat k.toNat]) (.inr ⟨_, rfl, fun j b hb => by rw [add_mk, Nat.zero_add]; exact h5.ocell (i := 0) rfl (two_el hb)⟩)) rfl) rfl ?_
        refine WL.nil ?_
        refine WE.next ?_
        refine WE.pure (g := none) hx 6 (by rfl) trivial (by kernel_rfl) (by kernel_rfl) (by kernel_rfl) (by kernel_rfl) (fun w_ => Runs.valT (u := .string (bs (hdB k s))) (Runs.lsadd (a := [74, UInt8.ofNat k.toNat]) (b := textB s) rfl rfl (by have := hdB_len (k := k) hk.2; unfold hdB at this; simp only [List.length_cons] at this ⊢; simp only [List.length_nil]; omega)) rfl) rfl ?_
        refine WE.pure (g := none) hx 7 (by rfl) trivial (by kernel_rfl) (by kernel_rfl) (by kernel_rfl) (by kernel_rfl) (fun w_ => Runs.assign rfl) rfl ?_
        refine WE.fin (.inr trivial) (by kernel_rfl) ?_
        refine WN.thn ?_
        refine WC.seq ?_
        refine WC.reg ?_
        refine WL.v (Runs.move rfl) rfl ?_
        refine WL.v (Runs.move rfl) rfl ?_
        refine WL.call can31 rfl rfl (rofb_c _ (hdB k s) h5 (by have := hdB_len (k := k) hk.2; omega)) ?_
        rintro _ w6 ⟨rfl, h6⟩
        refine ⟨_, rfl, ?_⟩
        refine WL.v (Runs.lssl_hi Try.underlying9 rfl rfl (m := 4) rfl (by rw [of_l]; decide)) rfl ?_
        refine WL.v (Runs.lsadd rfl rfl (by have := hdB_len (k := k) hk.2; rw [List.length_take, of_l]; omega)) rfl ?_
        refine WL.v (Runs.assign rfl) rfl ?_
        refine WL.nil ?_
        refine WN.thn ?_
        refine WC.ret ?_
        refine ret1 rfl rfl ⟨?_, h6.drop 0⟩
        rw [recB_y hk]; rfl
    · skip
      refine WL.call can30 rfl rfl (Wir.rtext_c _ s h1 (by have := hk.2; omega)) ?_
      rintro _ w7 ⟨rfl, h7⟩
      refine ⟨_, rfl, ?_⟩
      refine WL.nil ?_
      refine WE.next ?_
      refine WE.op (.inr trivial) (i := 2) (by rfl) (by kernel_rfl) ?_
      refine WL.lit (vs := (([74, UInt8.ofNat k.toNat] : List UInt8)).map V8) h7 rfl Try.underlying53 inf5 rfl rfl rfl rfl rfl ?_
      intro lit19 w8 h8
      refine WL.nil ?_
      refine WE.next ?_
      refine WE.op (.inr trivial) (i := 3) (by rfl) (by kernel_rfl) ?_
      refine WL.v (Runs.valT (u := .string (bs [74, UInt8.ofNat k.toNat])) (Runs.b2s Try.underlying53 Try.underlying5 Try.underlying9 rfl rfl (bs := [74, UInt8.ofNat k.toNat]) (.inr ⟨_, rfl, fun j b hb => by rw [add_mk, Nat.zero_add]; exact h8.ocell (i := 0) rfl (two_el hb)⟩)) rfl) rfl ?_
      refine WL.nil ?_
      refine WE.next ?_
      refine WE.pure (g := none) hx 6 (by rfl) trivial (by kernel_rfl) (by kernel_rfl) (by kernel_rfl) (by kernel_rfl) (fun w_ => Runs.valT (u := .string (bs (hdB k s))) (Runs.lsadd (a := [74, UInt8.ofNat k.toNat]) (b := textB s) rfl rfl (by have := hdB_len (k := k) hk.2; unfold hdB at this; simp only [List.length_cons] at this ⊢; simp only [List.length_nil]; omega)) rfl) rfl ?_
      refine WE.pure (g := none) hx 7 (by rfl) trivial (by kernel_rfl) (by kernel_rfl) (by kernel_rfl) (by kernel_rfl) (fun w_ => Runs.assign rfl) rfl ?_
      refine WE.fin (.inr trivial) (by kernel_rfl) ?_
      refine WN.thn ?_
      refine WC.seq ?_
      refine WC.reg ?_
      refine WL.v (Runs.move rfl) rfl ?_
      refine WL.v (Runs.move rfl) rfl ?_
      refine WL.call can31 rfl rfl (rofb_c _ (hdB k s) h8 (by have := hdB_len (k := k) hk.2; omega)) ?_
      rintro _ w9 ⟨rfl, h9⟩
      refine ⟨_, rfl, ?_⟩
      refine WL.v (Runs.lssl_hi Try.underlying9 rfl rfl (m := 4) rfl (by rw [of_l]; decide)) rfl ?_
      refine WL.v (Runs.lsadd rfl rfl (by have := hdB_len (k := k) hk.2; rw [List.length_take, of_l]; omega)) rfl ?_
      refine WL.v (Runs.assign rfl) rfl ?_
      refine WL.nil ?_
      refine WN.thn ?_
      refine WC.ret ?_
      refine ret1 rfl rfl ⟨?_, h9.drop 0⟩
      rw [recB_y hk]; rfl
set_option maxRecDepth 100000 in
set_option maxHeartbeats 1000000 in
theorem qappend_c {W : World} {F : Snap} {cs : List Res} (w : World) (l : List UInt8) (k : Int) (s : List UInt8) (h : St W F cs w) (hl : l.length ≤ 1000000000) : Calls Try.prog 10 #[.string (bs l), Vi k, .string (bs s)] w fun r w' => r = .returned (.tuple #[.string (bs (appM l k s).1), Vi (appM l k s).2]) ∧ St W F cs w'  := by
  refine enter (P := Try.prog) (args := [.string (bs l), Vi k, .string (bs s)]) Try.func10 rfl rfl rfl ?_
  refine WC.seq ?_
  refine WC.reg ?_
  refine WL.v (Runs.assign rfl) rfl ?_
  refine WL.v (Runs.assign rfl) rfl ?_
  refine WL.nil ?_
  refine WN.thn ?_
  refine WC.seq ?_
  refine WC.seq ?_
  rcases kCase k with hk0 | ⟨hk0, hk1⟩ | hkk
  · skip
    refine WC.reg ?_
    refine WL.v (Runs.move rfl) rfl ?_
    refine WL.v (Runs.boolT (c := true) (Runs.lss rfl rfl) (by rw [decide_eq_true_eq]; omega)) rfl ?_
    refine WL.v (Runs.move rfl) rfl ?_
    refine WL.goff rfl rfl rfl rfl ?_
    refine WL.goff rfl rfl rfl rfl ?_
    refine WL.v (Runs.pick rfl rfl rfl) rfl ?_
    refine WL.nil ?_
    refine WN.thn ?_
    refine WC.condT rfl (rfl) ?_
    refine WC.seq ?_
    refine WC.reg ?_
    refine WL.v (Runs.move rfl) rfl ?_
    refine WL.v (Runs.assign rfl) rfl ?_
    refine WL.v (Runs.assign rfl) rfl ?_
    refine WL.nil ?_
    refine WN.thn ?_
    refine WC.ret ?_
    refine ret2 rfl rfl rfl ⟨?_, h⟩
    unfold appM
    rw [if_pos (fun hh => by have := okK_b hh; omega)]
  · skip
    refine WC.reg ?_
    refine WL.v (Runs.move rfl) rfl ?_
    refine WL.v (Runs.boolT (c := false) (Runs.lss rfl rfl) (by rw [decide_eq_false_iff_not]; omega)) rfl ?_
    refine WL.v (Runs.move rfl) rfl ?_
    refine WL.gon rfl rfl rfl ?_
    refine WL.v (Runs.move rfl) rfl ?_
    refine WL.gon rfl rfl rfl ?_
    refine WL.v (Runs.boolT (c := true) (Runs.gtr rfl rfl) (by rw [decide_eq_true_eq]; omega)) rfl ?_
    refine WL.v (Runs.pick rfl rfl rfl) rfl ?_
    refine WL.nil ?_
    refine WN.thn ?_
    refine WC.condT rfl (rfl) ?_
    refine WC.seq ?_
    refine WC.reg ?_
    refine WL.v (Runs.move rfl) rfl ?_
    refine WL.v (Runs.assign rfl) rfl ?_
    refine WL.v (Runs.assign rfl) rfl ?_
    refine WL.nil ?_
    refine WN.thn ?_
    refine WC.ret ?_
    refine ret2 rfl rfl rfl ⟨?_, h⟩
    unfold appM
    rw [if_pos (fun hh => by have := okK_b hh; omega)]
  · have hkb := okK_b hkk
    refine WC.reg ?_
    refine WL.v (Runs.move rfl) rfl ?_
    refine WL.v (Runs.boolT (c := false) (Runs.lss rfl rfl) (by rw [decide_eq_false_iff_not]; omega)) rfl ?_
    refine WL.v (Runs.move rfl) rfl ?_
    refine WL.gon rfl rfl rfl ?_
    refine WL.v (Runs.move rfl) rfl ?_
    refine WL.gon rfl rfl rfl ?_
    refine WL.v (Runs.boolT (c := false) (Runs.gtr rfl rfl) (by rw [decide_eq_false_iff_not]; omega)) rfl ?_
    refine WL.v (Runs.pick rfl rfl rfl) rfl ?_
    refine WL.nil ?_
    refine WN.thn ?_
    refine WC.condF rfl (rfl) ?_
    refine WC.skip ?_
    refine WN.thn ?_
    refine WC.seq ?_
    refine WC.seq ?_
    refine WC.reg ?_
    refine WL.v (Runs.move rfl) rfl ?_
    refine WL.v (Runs.intT (n := (s.length : Int)) (Runs.slen Try.underlying9 rfl rfl) rfl) rfl ?_
    refine WL.v (Runs.gtr rfl rfl) rfl ?_
    refine WL.nil ?_
    refine WN.thn ?_
    refine WC.cond rfl (fun c1 => ?_) (fun c1 => ?_)
    · try simp only [decide_eq_true_eq, decide_eq_false_iff_not, Bool.not_eq_true', Bool.not_eq_false', Bool.and_eq_true, Int.not_lt, Int.not_le] at c1
      first
      | (exfalso; omega)
      | skip
        refine WC.seq ?_
        refine WC.reg ?_
        refine WL.v (Runs.move rfl) rfl ?_
        refine WL.v (Runs.assign rfl) rfl ?_
        refine WL.v (Runs.assign rfl) rfl ?_
        refine WL.nil ?_
        refine WN.thn ?_
        refine WC.ret ?_
        refine ret2 rfl rfl rfl ⟨?_, h⟩
        unfold appM
        rw [if_neg (fun hh => hh hkk), if_pos (by omega)]
    · try simp only [decide_eq_true_eq, decide_eq_false_iff_not, Bool.not_eq_true', Bool.not_eq_false', Bool.and_eq_true, Int.not_lt, Int.not_le] at c1
      first
      | (exfalso; omega)
      | skip
        refine WC.skip ?_
        refine WN.thn ?_
        refine WC.seq ?_
        refine WC.reg ?_
        refine WL.v (Runs.move rfl) rfl ?_
        refine WL.v (Runs.move rfl) rfl ?_
        refine WL.v (Runs.move rfl) rfl ?_
        refine WL.call can12 rfl rfl (qrecord_c _ k s h) ?_
        rintro _ w2 ⟨rfl, h2⟩
        refine ⟨_, rfl, ?_⟩
        refine WL.v (Runs.lsadd rfl rfl (by have := recB_len (k := k) (s := s); omega)) rfl ?_
        refine WL.v (Runs.assign rfl) rfl ?_
        refine WL.v (Runs.assign rfl) rfl ?_
        refine WL.nil ?_
        refine WN.thn ?_
        refine WC.ret ?_
        refine ret2 rfl rfl rfl ⟨?_, h2⟩
        unfold appM
        rw [if_neg (fun hh => hh hkk), if_neg (by omega)]
set_option maxRecDepth 100000 in
set_option maxHeartbeats 1000000 in
theorem qtear_c {W : World} {F : Snap} {cs : List Res} (w : World) (l : List UInt8) (k : Int) (s : List UInt8) (j : Int) (h : St W F cs w) (hl : l.length ≤ 1000000000) : Calls Try.prog 14 #[.string (bs l), Vi k, .string (bs s), Vi j] w fun r w' => r = .returned (.string (bs (tearM l k s j))) ∧ St W F cs w'  := by
  refine enter (P := Try.prog) (args := [.string (bs l), Vi k, .string (bs s), Vi j]) Try.func14 rfl rfl rfl ?_
  refine WC.seq ?_
  refine WC.reg ?_
  refine WL.v (Runs.assign rfl) rfl ?_
  refine WL.nil ?_
  refine WN.thn ?_
  refine WC.seq ?_
  refine WC.reg ?_
  refine WL.v (Runs.move rfl) rfl ?_
  refine WL.v (Runs.move rfl) rfl ?_
  refine WL.call can12 rfl rfl (qrecord_c _ k s h) ?_
  rintro _ w1 ⟨rfl, h1⟩
  refine ⟨_, rfl, ?_⟩
  refine WL.v (Runs.assign rfl) rfl ?_
  refine WL.nil ?_
  refine WN.thn ?_
  refine WC.seq ?_
  refine WC.reg ?_
  refine WL.v (Runs.move rfl) rfl ?_
  refine WL.v (Runs.move rfl) rfl ?_
  refine WL.v (Runs.move rfl) rfl ?_
  refine WL.v (Runs.max rfl rfl) rfl ?_
  refine WL.v (Runs.move rfl) rfl ?_
  refine WL.v (Runs.intT (n := ((recB k s).length : Int)) (Runs.slen Try.underlying9 rfl rfl) rfl) rfl ?_
  refine WL.v (Runs.intT (n := ((min j.toNat (recB k s).length : Nat) : Int)) (Runs.min rfl rfl) (mm_eq _ _)) rfl ?_
  refine WL.v (Runs.valT (u := .string (bs ((recB k s).take j.toNat))) (Runs.lssl_hi Try.underlying9 rfl rfl (m := min j.toNat (recB k s).length) rfl (Nat.min_le_right _ _)) (by rw [take_mm])) rfl ?_
  refine WL.v (Runs.lsadd rfl rfl (by have := recB_len (k := k) (s := s); rw [List.length_take]; omega)) rfl ?_
  refine WL.v (Runs.assign rfl) rfl ?_
  refine WL.nil ?_
  refine WN.thn ?_
  refine WC.ret ?_
  exact ret1 rfl rfl ⟨rfl, h1⟩
set_option maxRecDepth 100000 in
set_option maxHeartbeats 1000000 in
theorem qcompact_c {W : World} {F : Snap} {cs : List Res} (w : World) (l s : List UInt8) (h : St W F cs w) : Calls Try.prog 16 #[.string (bs l), .string (bs s)] w fun r w' => r = .returned (.string (bs (compM l s))) ∧ St W F cs w'  := by
  refine enter (P := Try.prog) (args := [.string (bs l), .string (bs s)]) Try.func16 rfl rfl rfl ?_
  refine WC.seq ?_
  refine WC.reg ?_
  refine WL.v (Runs.assign rfl) rfl ?_
  refine WL.nil ?_
  refine WN.thn ?_
  refine WC.seq ?_
  refine WC.seq ?_
  refine WC.reg ?_
  refine WL.v (Runs.move rfl) rfl ?_
  refine WL.v (Runs.intT (n := (s.length : Int)) (Runs.slen Try.underlying9 rfl rfl) rfl) rfl ?_
  refine WL.v (Runs.gtr rfl rfl) rfl ?_
  refine WL.nil ?_
  refine WN.thn ?_
  refine WC.cond rfl (fun c1 => ?_) (fun c1 => ?_)
  · try simp only [decide_eq_true_eq, decide_eq_false_iff_not, Bool.not_eq_true', Bool.not_eq_false', Bool.and_eq_true, Int.not_lt, Int.not_le] at c1
    first
    | (exfalso; omega)
    | skip
      refine WC.seq ?_
      refine WC.reg ?_
      refine WL.v (Runs.move rfl) rfl ?_
      refine WL.v (Runs.assign rfl) rfl ?_
      refine WL.nil ?_
      refine WN.thn ?_
      refine WC.ret ?_
      refine ret1 rfl rfl ⟨?_, h⟩
      unfold compM
      rw [if_pos (by omega)]
  · try simp only [decide_eq_true_eq, decide_eq_false_iff_not, Bool.not_eq_true', Bool.not_eq_false', Bool.and_eq_true, Int.not_lt, Int.not_le] at c1
    first
    | (exfalso; omega)
    | skip
      refine WC.skip ?_
      refine WN.thn ?_
      refine WC.seq ?_
      refine WC.reg ?_
      refine WL.v (Runs.move rfl) rfl ?_
      refine WL.call can12 rfl rfl (qrecord_c _ 1 s h) ?_
      rintro _ w2 ⟨rfl, h2⟩
      refine ⟨_, rfl, ?_⟩
      refine WL.v (Runs.assign rfl) rfl ?_
      refine WL.nil ?_
      refine WN.thn ?_
      refine WC.ret ?_
      refine ret1 rfl rfl ⟨?_, h2⟩
      unfold compM
      rw [if_neg (by omega)]
end Jo
end Go.Proofs.Ythjcfhfbaeokeaa
