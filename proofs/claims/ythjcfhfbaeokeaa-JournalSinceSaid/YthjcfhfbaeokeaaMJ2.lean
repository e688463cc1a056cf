/- Walks of package journal: records. -/
import Derived.Test.YthjcfhfbaeokeaaMBaseAE
import Derived.Test.YthjcfhfbaeokeaaMJ1
import Derived.Test.YthjcfhfbaeokeaaMSha4
import Derived.Test.YthjcfhfbaeokeaaMSha5
namespace Go.Proofs.Ythjcfhfbaeokeaa
open Go Go.RowKit B
set_option linter.unusedVariables false
set_option linter.unusedSimpArgs false
namespace Jo
open Wir (Vi textB numB rdT rdEnd wtext_c)

theorem mixed : Try.prog.follows .mixedOrders = true := by kernel_rfl
theorem inf5 : Inf Try.prog 5 (.int .u8 0) 1 1 := by unfold Inf; kernel_rfl
theorem can27 : B.Can Try.prog 27 := ⟨_, Try.func27, by kernel_rfl, rfl⟩   -- roundhouse/journal.kindMay
theorem can28 : B.Can Try.prog 28 := ⟨_, Try.func28, by kernel_rfl, rfl⟩   -- roundhouse/wire.Text
theorem can29 : B.Can Try.prog 29 := ⟨_, Try.func29, by kernel_rfl, rfl⟩   -- roundhouse/sha.Of
def okK (k : Int) : Prop := k = 0 ∨ k = 1
instance (k : Int) : Decidable (okK k) := inferInstanceAs (Decidable (_ ∨ _))
def okR (k : Int) (s : List UInt8) : Prop := okK k ∧ s.length ≤ 4096
instance (k : Int) (s : List UInt8) : Decidable (okR k s) := inferInstanceAs (Decidable (_ ∧ _))
/-- a record without its sum, and with it -/
def hdB (k : Int) (s : List UInt8) : List UInt8 := 74 :: UInt8.ofNat k.toNat :: textB s
def sumB (t : List UInt8) : List UInt8 := (ShaM.of t).take 4
def recB (k : Int) (s : List UInt8) : List UInt8 := if okR k s then hdB k s ++ sumB (hdB k s) else []
theorem recB_y {k : Int} {s : List UInt8} (h : okR k s) : recB k s = hdB k s ++ sumB (hdB k s) := if_pos h
theorem recB_n {k : Int} {s : List UInt8} (h : ¬ okR k s) : recB k s = [] := if_neg h
theorem of_l (l : List UInt8) : (ShaM.of l).length = 32 := Sha.of_len l
theorem hdB_len {k : Int} {s : List UInt8} (h : s.length ≤ 4096) : (hdB k s).length ≤ 5000 := by
  have h1 := Wir.numB_len (s.length : Int)
  unfold hdB textB
  rw [if_neg (by omega), List.length_cons, List.length_cons, List.length_append]
  omega
theorem recB_len {k : Int} {s : List UInt8} : (recB k s).length ≤ 6000 := by
  by_cases h : okR k s
  · have h1 := hdB_len (k := k) h.2
    rw [recB_y h, List.length_append, sumB, List.length_take, of_l]
    omega
  · rw [recB_n h]; exact Nat.zero_le _
theorem ofb_c {W : World} {F : Snap} {cs : List Res} (w : World) (l : List UInt8) (h : St W F cs w) (hl : l.length ≤ 1000000) : Calls Try.prog 29 #[.string (bs l)] w fun e w' => e = .returned (.string (bs (ShaM.of l))) ∧ St W F cs w' := by
  have := Sha.of_c w (bs l) h hl
  have e : (bs l).data.toList = l := by simp [bs]
  rwa [e] at this
theorem recCase (k : Int) (s : List UInt8) : ¬ okK k ∨ (okK k ∧ 4096 < s.length) ∨ okR k s := by
  by_cases h : okK k
  · by_cases h2 : 4096 < s.length
    · exact .inr (.inl ⟨h, h2⟩)
    · exact .inr (.inr ⟨h, by omega⟩)
  · exact .inl h
set_option maxRecDepth 100000 in
set_option maxHeartbeats 1000000 in
theorem kind_c {W : World} {F : Snap} {cs : List Res} (w : World) (k : Int) (h : St W F cs w) : Calls Try.prog 27 #[Vi k] w fun r w' => r = .returned (.bool (decide (okK k))) ∧ St W F cs w'  := by
  refine enter (P := Try.prog) (args := [Vi k]) Try.func27 rfl rfl rfl ?_
  refine WC.seq ?_
  refine WC.reg ?_
  refine WL.v (Runs.assign rfl) rfl ?_
  refine WL.nil ?_
  refine WN.thn ?_
  refine WC.seq ?_
  by_cases h0 : k = 0
  · skip
    refine WC.reg ?_
    refine WL.v (Runs.move rfl) rfl ?_
    refine WL.v (Runs.boolT (c := true) (Runs.eql rfl rfl) (decide_eq_true h0)) rfl ?_
    refine WL.v (Runs.move rfl) rfl ?_
    refine WL.goff rfl rfl rfl rfl ?_
    refine WL.goff rfl rfl rfl rfl ?_
    refine WL.v (Runs.pick rfl rfl rfl) rfl ?_
    refine WL.v (Runs.assign rfl) rfl ?_
    refine WL.nil ?_
    refine WN.thn ?_
    refine WC.ret ?_
    exact ret1 rfl rfl ⟨by rw [decide_eq_true (show okK k from .inl h0)]; rfl, h⟩
  · skip
    refine WC.reg ?_
    refine WL.v (Runs.move rfl) rfl ?_
    refine WL.v (Runs.boolT (c := false) (Runs.eql rfl rfl) (decide_eq_false h0)) rfl ?_
    refine WL.v (Runs.move rfl) rfl ?_
    refine WL.gon rfl rfl rfl ?_
    refine WL.v (Runs.move rfl) rfl ?_
    refine WL.gon rfl rfl rfl ?_
    refine WL.v (Runs.eql rfl rfl) rfl ?_
    refine WL.v (Runs.pick rfl rfl rfl) rfl ?_
    refine WL.v (Runs.assign rfl) rfl ?_
    refine WL.nil ?_
    refine WN.thn ?_
    refine WC.ret ?_
    exact ret1 rfl rfl ⟨by rw [show decide (okK k) = decide (k = 1) from decide_eq_decide.2 ⟨fun hh => hh.resolve_left h0, .inr⟩]; rfl, h⟩
set_option maxRecDepth 100000 in
set_option maxHeartbeats 4000000 in
theorem record_c {W : World} {F : Snap} {cs : List Res} (w : World) (k : Int) (s : List UInt8) (h : St W F cs w) : Calls Try.prog 11 #[Vi k, .string (bs s)] w fun r w' => r = .returned (.string (bs (recB k s))) ∧ St W F cs w'  := by
  refine enter (P := Try.prog) (args := [Vi k, .string (bs s)]) Try.func11 rfl rfl rfl ?_
  refine WC.seq ?_
  refine WC.reg ?_
  refine WL.v (Runs.assign rfl) rfl ?_
  refine WL.nil ?_
  refine WN.thn ?_
  refine WC.seq ?_
  refine WC.seq ?_
  rcases recCase k s with hn | ⟨hk1, hn⟩ | hk
  · skip
    refine WC.reg ?_
    refine WL.v (Runs.move rfl) rfl ?_
    refine WL.call can27 rfl rfl (kind_c _ k h) ?_
    rintro _ w1 ⟨rfl, h1⟩
    refine ⟨_, rfl, ?_⟩
    refine WL.v (Runs.boolT (c := true) (Runs.not rfl) (by rw [decide_eq_false hn]; rfl)) rfl ?_
    refine WL.v (Runs.move rfl) rfl ?_
    refine WL.goff rfl rfl rfl rfl ?_
    refine WL.goff rfl rfl rfl rfl ?_
    refine WL.goff rfl rfl rfl rfl ?_
    refine WL.v (Runs.pick rfl rfl rfl) rfl ?_
    refine WL.nil ?_
    refine WN.thn ?_
    refine WC.condT rfl (rfl) ?_
    refine WC.seq ?_
    refine WC.reg ?_
    refine WL.v (Runs.assign rfl) rfl ?_
    refine WL.nil ?_
    refine WN.thn ?_
    refine WC.ret ?_
    refine ret1 rfl rfl ⟨?_, h1⟩
    rw [recB_n (fun hh => hn hh.1)]; rfl
  · skip
    refine WC.reg ?_
    refine WL.v (Runs.move rfl) rfl ?_
    refine WL.call can27 rfl rfl (kind_c _ k h) ?_
    rintro _ w2 ⟨rfl, h2⟩
    refine ⟨_, rfl, ?_⟩
    refine WL.v (Runs.boolT (c := false) (Runs.not rfl) (by rw [decide_eq_true hk1]; rfl)) rfl ?_
    refine WL.v (Runs.move rfl) rfl ?_
    refine WL.gon rfl rfl rfl ?_
    refine WL.v (Runs.move rfl) rfl ?_
    refine WL.gon rfl rfl rfl ?_
    refine WL.v (Runs.intT (n := (s.length : Int)) (Runs.slen Try.underlying9 rfl rfl) rfl) rfl ?_
    refine WL.gon rfl rfl rfl ?_
    refine WL.v (Runs.boolT (c := true) (Runs.gtr rfl rfl) (by rw [decide_eq_true_eq]; omega)) rfl ?_
    refine WL.v (Runs.pick rfl rfl rfl) rfl ?_
    refine WL.nil ?_
    refine WN.thn ?_
    refine WC.condT rfl (rfl) ?_
    refine WC.seq ?_
    refine WC.reg ?_
    refine WL.v (Runs.assign rfl) rfl ?_
    refine WL.nil ?_
    refine WN.thn ?_
    refine WC.ret ?_
    refine ret1 rfl rfl ⟨?_, h2⟩
    rw [recB_n (fun hh => by have := hh.2; omega)]; rfl
  · have hk1 := hk.1
    have hk2 := hk.2
    refine WC.reg ?_
    refine WL.v (Runs.move rfl) rfl ?_
    refine WL.call can27 rfl rfl (kind_c _ k h) ?_
    rintro _ w3 ⟨rfl, h3⟩
    refine ⟨_, rfl, ?_⟩
    refine WL.v (Runs.boolT (c := false) (Runs.not rfl) (by rw [decide_eq_true hk1]; rfl)) rfl ?_
    refine WL.v (Runs.move rfl) rfl ?_
    refine WL.gon rfl rfl rfl ?_
    refine WL.v (Runs.move rfl) rfl ?_
    refine WL.gon rfl rfl rfl ?_
    refine WL.v (Runs.intT (n := (s.length : Int)) (Runs.slen Try.underlying9 rfl rfl) rfl) rfl ?_
    refine WL.gon rfl rfl rfl ?_
    refine WL.v (Runs.boolT (c := false) (Runs.gtr rfl rfl) (by rw [decide_eq_false_iff_not]; omega)) rfl ?_
    refine WL.v (Runs.pick rfl rfl rfl) rfl ?_
    refine WL.nil ?_
    refine WN.thn ?_
    refine WC.condF rfl (rfl) ?_
    refine WC.skip ?_
    refine WN.thn ?_
    refine WC.seq ?_
    refine WC.ereg h3 (fun _ => True) (fun s_ => ([] : List Nat).any (Nat.beq s_)) mixed (by kernel_rfl) (fun hx => ?_)
    intro w4 h4
    refine WE.pure (g := none) hx 0 (by rfl) trivial (by kernel_rfl) (by kernel_rfl) (by kernel_rfl) (by kernel_rfl) (fun w_ => Runs.move rfl) rfl ?_
    refine WE.pure (g := none) hx 1 (by rfl) trivial (by kernel_rfl) (by kernel_rfl) (by kernel_rfl) (by kernel_rfl) (fun w_ => Runs.valT (u := V8 (UInt8.ofNat k.toNat)) (Runs.toInt Try.underlying3 Try.underlying5 rfl) (by rcases hk.1 with rfl | rfl <;> rfl)) rfl ?_
    refine WE.pure (g := none) hx 4 (by rfl) trivial (by kernel_rfl) (by kernel_rfl) (by kernel_rfl) (by kernel_rfl) (fun w_ => Runs.move rfl) rfl ?_
    refine WE.op2 (.inr trivial) (i := 2) (j := 5) (by rfl) (by rfl) (by kernel_rfl) ?_ ?_
    · skip
      refine WL.lit (vs := (([74, UInt8.ofNat k.toNat] : List UInt8)).map V8) h4 rfl Try.underlying53 inf5 rfl rfl rfl rfl rfl ?_
      intro lit16 w5 h5
      refine WL.nil ?_
      refine WE.next ?_
      refine WE.op2 (.inr trivial) (i := 3) (j := 5) (by rfl) (by rfl) (by kernel_rfl) ?_ ?_
      · skip
        refine WL.v (Runs.valT (u := .string (bs [74, UInt8.ofNat k.toNat])) (Runs.b2s Try.underlying53 Try.underlying5 Try.underlying9 rfl rfl (bs := [74, UInt8.ofNat k.toNat]) (.inr ⟨_, rfl, fun j b hb => by rw [add_mk, Nat.zero_add]; exact h5.ocell (i := 0) rfl (two_el hb)⟩)) rfl) rfl ?_
        refine WL.nil ?_
        refine WE.next ?_
        refine WE.op (.inr trivial) (i := 5) (by rfl) (by kernel_rfl) ?_
        refine WL.call can28 rfl rfl (wtext_c _ s h5 (by have := hk.2; omega)) ?_
        rintro _ w6 ⟨rfl, h6⟩
        refine ⟨_, rfl, ?_⟩
        refine WL.nil ?_
        refine WE.next ?_
        refine WE.pure (g := none) hx 6 (by rfl) trivial (by kernel_rfl) (by kernel_rfl) (by kernel_rfl) (by kernel_rfl) (fun w_ => Runs.valT (u := .string (bs (hdB k s))) (Runs.lsadd (a := [74, UInt8.ofNat k.toNat]) (b := textB s) rfl rfl (by have := hdB_len (k := k) hk.2; unfold hdB at this; simp only [List.length_cons] at this ⊢; simp only [List.length_nil]; omega)) rfl) rfl ?_
        refine WE.pure (g := none) hx 7 (by rfl) trivial (by kernel_rfl) (by kernel_rfl) (by kernel_rfl) (by kernel_rfl) (fun w_ => Runs.assign rfl) rfl ?_
        refine WE.fin (.inr trivial) (by kernel_rfl) ?_
        refine WN.thn ?_
        refine WC.seq ?_
        refine WC.reg ?_
        refine WL.v (Runs.move rfl) rfl ?_
        refine WL.v (Runs.move rfl) rfl ?_
        refine WL.call can29 rfl rfl (ofb_c _ (hdB k s) h6 (by have := hdB_len (k := k) hk.2; omega)) ?_
        rintro _ w7 ⟨rfl, h7⟩
        refine ⟨_, rfl, ?_⟩
        refine WL.v (Runs.lssl_hi Try.underlying9 rfl rfl (m := 4) rfl (by rw [of_l]; decide)) rfl ?_
        refine WL.v (Runs.lsadd rfl rfl (by have := hdB_len (k := k) hk.2; rw [List.length_take, of_l]; omega)) rfl ?_
        refine WL.v (Runs.assign rfl) rfl ?_
        refine WL.nil ?_
        refine WN.thn ?_
        refine WC.ret ?_
        refine ret1 rfl rfl ⟨?_, h7.drop 0⟩
        rw [recB_y hk]; rfl
      · skip
        refine WL.call can28 rfl rfl (wtext_c _ s h5 (by have := hk.2; omega)) ?_
        rintro _ w8 ⟨rfl, h8⟩
        refine ⟨_, rfl, ?_⟩
        refine WL.nil ?_
        refine WE.next ?_
        refine WE.op (.inr trivial) (i := 3) (by rfl) (by kernel_rfl) ?_
        refine WL.v (Runs.valT (u := .string (bs [74, UInt8.ofNat k.toNat])) (Runs.b2s Try.underlying53 Try.underlying5 Try.underlying9 rfl rfl (bs := [74, UInt8.ofNat k.toNat]) (.inr ⟨_, rfl, fun j b hb => by rw [add_mk, Nat.zero_add]; exact h8.ocell (i := 0) rfl (two_el hb)⟩)) rfl) rfl ?_
        refine WL.nil ?_
        refine WE.next ?_
        refine WE.pure (g := none) hx 6 (by rfl) trivial (by kernel_rfl) (by kernel_rfl) (by kernel_rfl) (by kernel_rfl) (fun w_ => Runs.valT (u := .string (bs (hdB k s))) (Runs.lsadd (a := [74, UInt8.ofNat k.toNat]) (b := textB s) rfl rfl (by have := hdB_len (k := k) hk.2; unfold hdB at this; simp only [List.length_cons] at this ⊢; simp only [List.length_nil]; omega)) rfl) rfl ?_
        refine WE.pure (g := none) hx 7 (by rfl) trivial (by kernel_rfl) (by kernel_rfl) (by kernel_rfl) (by kernel_rfl) (fun w_ => Runs.assign rfl) rfl ?_
        refine WE.fin (.inr trivial) (by kernel_rfl) ?_
        refine WN.thn ?_
        refine WC.seq ?_
        refine WC.reg ?_
        refine WL.v (Runs.move rfl) rfl ?_
        refine WL.v (Runs.move rfl) rfl ?_
        refine WL.call can29 rfl rfl (ofb_c _ (hdB k s) h8 (by have := hdB_len (k := k) hk.2; omega)) ?_
        rintro _ w9 ⟨rfl, h9⟩
        refine ⟨_, rfl, ?_⟩
        refine WL.v (Runs.lssl_hi Try.underlying9 rfl rfl (m := 4) rfl (by rw [of_l]; decide)) rfl ?_
        refine WL.v (Runs.lsadd rfl rfl (by have := hdB_len (k := k) hk.2; rw [List.length_take, of_l]; omega)) rfl ?_
        refine WL.v (Runs.assign rfl) rfl ?_
        refine WL.nil ?_
        refine WN.thn ?_
        refine WC.ret ?_
        refine ret1 rfl rfl ⟨?_, h9.drop 0⟩
        rw [recB_y hk]; rfl
    · skip
      refine WL.call can28 rfl rfl (wtext_c _ s h4 (by have := hk.2; omega)) ?_
      rintro _ w10 ⟨rfl, h10⟩
      refine ⟨_, rfl, ?_⟩
      refine WL.nil ?_
      refine WE.next ?_
      refine WE.op (.inr trivial) (i := 2) (by rfl) (by kernel_rfl) ?_
      refine WL.lit (vs := (([74, UInt8.ofNat k.toNat] : List UInt8)).map V8) h10 rfl Try.underlying53 inf5 rfl rfl rfl rfl rfl ?_
      intro lit16 w11 h11
      refine WL.nil ?_
      refine WE.next ?_
      refine WE.op (.inr trivial) (i := 3) (by rfl) (by kernel_rfl) ?_
      refine WL.v (Runs.valT (u := .string (bs [74, UInt8.ofNat k.toNat])) (Runs.b2s Try.underlying53 Try.underlying5 Try.underlying9 rfl rfl (bs := [74, UInt8.ofNat k.toNat]) (.inr ⟨_, rfl, fun j b hb => by rw [add_mk, Nat.zero_add]; exact h11.ocell (i := 0) rfl (two_el hb)⟩)) rfl) rfl ?_
      refine WL.nil ?_
      refine WE.next ?_
      refine WE.pure (g := none) hx 6 (by rfl) trivial (by kernel_rfl) (by kernel_rfl) (by kernel_rfl) (by kernel_rfl) (fun w_ => Runs.valT (u := .string (bs (hdB k s))) (Runs.lsadd (a := [74, UInt8.ofNat k.toNat]) (b := textB s) rfl rfl (by have := hdB_len (k := k) hk.2; unfold hdB at this; simp only [List.length_cons] at this ⊢; simp only [List.length_nil]; omega)) rfl) rfl ?_
      refine WE.pure (g := none) hx 7 (by rfl) trivial (by kernel_rfl) (by kernel_rfl) (by kernel_rfl) (by kernel_rfl) (fun w_ => Runs.assign rfl) rfl ?_
      refine WE.fin (.inr trivial) (by kernel_rfl) ?_
      refine WN.thn ?_
      refine WC.seq ?_
      refine WC.reg ?_
      refine WL.v (Runs.move rfl) rfl ?_
      refine WL.v (Runs.move rfl) rfl ?_
      refine WL.call can29 rfl rfl (ofb_c _ (hdB k s) h11 (by have := hdB_len (k := k) hk.2; omega)) ?_
      rintro _ w12 ⟨rfl, h12⟩
      refine ⟨_, rfl, ?_⟩
      refine WL.v (Runs.lssl_hi Try.underlying9 rfl rfl (m := 4) rfl (by rw [of_l]; decide)) rfl ?_
      refine WL.v (Runs.lsadd rfl rfl (by have := hdB_len (k := k) hk.2; rw [List.length_take, of_l]; omega)) rfl ?_
      refine WL.v (Runs.assign rfl) rfl ?_
      refine WL.nil ?_
      refine WN.thn ?_
      refine WC.ret ?_
      refine ret1 rfl rfl ⟨?_, h12.drop 0⟩
      rw [recB_y hk]; rfl
end Jo
end Go.Proofs.Ythjcfhfbaeokeaa
