/- Entries that may be appended, and a log of them. -/
import Derived.Test.YthjcfhfbaeokeaaMJ13
namespace Go.Proofs.Ythjcfhfbaeokeaa
open Go Go.RowKit B
set_option linter.unusedVariables false
set_option linter.unusedSimpArgs false
namespace Jo
open Wir (Vi textB numB rdT rdEnd wtext_c)


def mayX (x : Ent) : Prop := 0 ≤ x.1 ∧ x.1 ≤ 1 ∧ x.2.length ≤ 100
instance (x : Ent) : Decidable (mayX x) := inferInstanceAs (Decidable (_ ∧ _ ∧ _))
def mayL (xs : List Ent) : Prop := (∀ i, i < xs.length → mayX (xs.getD i (0, []))) ∧ xs.length ≤ 12
instance (xs : List Ent) : Decidable (mayL xs) := inferInstanceAs (Decidable (_ ∧ _))
theorem mayX_ok {x : Ent} (h : mayX x) : okX x := ⟨by unfold okK; have := h.1; have := h.2.1; omega, by have := h.2.2; omega⟩
theorem mayL_all {xs : List Ent} (h : mayL xs) : ∀ x ∈ xs, okX x := fun x hx => by
  obtain ⟨i, hi, rfl⟩ := List.getElem_of_mem hx
  have := h.1 i hi
  rw [List.getD_eq_getElem?_getD, List.getElem?_eq_getElem hi] at this
  exact mayX_ok this
theorem writeL_len : ∀ (xs : List Ent), (writeL xs).length ≤ 6000 * xs.length
  | [] => Nat.le_refl _
  | x :: xs => by
    rw [writeL_cons, List.length_append, List.length_cons]
    have h1 := writeL_len xs
    have h2 := recB_len (k := x.1) (s := x.2)
    omega
theorem xCase (x : Ent) : x.1 < 0 ∨ (0 ≤ x.1 ∧ 1 < x.1) ∨ (0 ≤ x.1 ∧ x.1 ≤ 1 ∧ 100 < x.2.length) ∨ mayX x := by
  unfold mayX
  omega
theorem app_w {l : List UInt8} {ys : List Ent} {x : Ent} (he : l = writeL ys) (h : okX x) : appM l x.1 x.2 = (writeL (ys ++ [x]), 0) := by
  rw [appM_y h, writeL_app, he]
  show (_ ++ _, _) = (_ ++ (_ ++ []), _)
  rw [List.append_nil]
set_option maxRecDepth 100000 in
set_option maxHeartbeats 4000000 in
theorem may_c {W : World} {F : Snap} {cs : List Res} (w : World) {A : Option Addr} {cap : Nat} {xs : List Ent} (h : St W F cs w) (hR : RdS KEn F A xs) (hl : xs.length ≤ 9223372036854775807) : Calls Try.prog 25 #[.slice A xs.length cap] w fun r w' => r = .returned (.bool (decide (mayL xs))) ∧ St W F cs w'  := by
  refine enter (P := Try.prog) (args := [.slice A xs.length cap]) Try.func25 rfl rfl rfl ?_
  refine WC.seq ?_
  refine WC.reg ?_
  refine WL.v (Runs.assign rfl) rfl ?_
  refine WL.nil ?_
  refine WN.thn ?_
  refine WC.seq ?_
  refine WC.seq ?_
  refine WC.reg ?_
  refine WL.v (Runs.assign rfl) rfl ?_
  refine WL.nil ?_
  refine WN.thn ?_
  refine WC.block ?_
  refine WC.loop (σ := Nat) (fun q_ => [(0, .slice A xs.length cap), (3, .int .i64 (q_ : Int))]) (fun q_ w => q_ ≤ xs.length ∧ (∀ j, j < q_ → mayX (xs.getD j (0, []))) ∧ St W F cs w) (fun q_ => xs.length - q_) (0) (by repeat (first | exact trivial | refine ⟨rfl, ?_⟩)) (⟨Nat.zero_le _, fun j hj => absurd hj (Nat.not_lt_zero _), h⟩) ?_
  rintro i w1 ⟨hi, hall, hL⟩
  try dsimp only at hi hall hL
  refine WC.sub (s := [(0, .slice A xs.length cap), (3, .int .i64 (i : Int))]) (by repeat (first | exact trivial | refine ⟨rfl, ?_⟩)) ?_
  refine WC.seq ?_
  refine WC.seq ?_
  refine WC.reg ?_
  refine WL.v (Runs.move rfl) rfl ?_
  refine WL.v (Runs.move rfl) rfl ?_
  refine WL.v (Runs.intT (n := (xs.length : Int)) (Runs.llen Try.underlying35 rfl rfl) rfl) rfl ?_
  refine WL.v (Runs.lss rfl rfl) rfl ?_
  refine WL.nil ?_
  refine WN.thn ?_
  refine WC.cond rfl (fun c2 => ?_) (fun c2 => ?_)
  · try simp only [decide_eq_true_eq, decide_eq_false_iff_not, Bool.not_eq_true', Bool.not_eq_false', Bool.and_eq_true, Int.not_lt, Int.not_le] at c2
    first
    | (exfalso; omega)
    | skip
      refine WC.skip ?_
      refine WN.thn ?_
      refine WC.seq ?_
      refine WC.block ?_
      refine WC.seq ?_
      have hi2 : i < xs.length := by omega
      obtain ⟨a1, rfl, hen⟩ := ent_at hR hi2
      rcases xCase (xs.getD i (0, [])) with hx | ⟨hx, hy⟩ | ⟨hx, hy, hz⟩ | hx
      · skip
        refine WC.reg ?_
        refine WL.v (Runs.move rfl) rfl ?_
        refine WL.v (Runs.move rfl) rfl ?_
        refine WL.v (Runs.lidxK Try.underlying35 inf45 rfl rfl (n := i) rfl (by omega)) rfl ?_
        refine WL.v (Runs.fld fld45_0 rfl) rfl ?_
        refine WL.v (Runs.load1 Try.underlying3 rfl rfl (by rw [add_add]; exact hL.cell (hen 0 _ rfl))) rfl ?_
        refine WL.v (Runs.boolT (c := true) (Runs.lss rfl rfl) (by rw [decide_eq_true_eq]; omega)) rfl ?_
        refine WL.v (Runs.move rfl) rfl ?_
        refine WL.goff rfl rfl rfl rfl ?_
        refine WL.goff rfl rfl rfl rfl ?_
        refine WL.goff rfl rfl rfl rfl ?_
        refine WL.goff rfl rfl rfl rfl ?_
        refine WL.goff rfl rfl rfl rfl ?_
        refine WL.goff rfl rfl rfl rfl ?_
        refine WL.v (Runs.pick rfl rfl rfl) rfl ?_
        refine WL.v (Runs.move rfl) rfl ?_
        refine WL.goff rfl rfl rfl rfl ?_
        refine WL.goff rfl rfl rfl rfl ?_
        refine WL.goff rfl rfl rfl rfl ?_
        refine WL.goff rfl rfl rfl rfl ?_
        refine WL.goff rfl rfl rfl rfl ?_
        refine WL.goff rfl rfl rfl rfl ?_
        refine WL.goff rfl rfl rfl rfl ?_
        refine WL.v (Runs.pick rfl rfl rfl) rfl ?_
        refine WL.nil ?_
        refine WN.thn ?_
        refine WC.condT rfl (rfl) ?_
        refine WC.seq ?_
        refine WC.reg ?_
        refine WL.v (Runs.assign rfl) rfl ?_
        refine WL.nil ?_
        refine WN.thn ?_
        refine WC.ret ?_
        have hz : ¬ mayL xs := fun hh => by
          have h9 := hh.1 i hi2
          unfold mayX at h9
          omega
        refine ret1 rfl rfl ⟨?_, hL⟩
        rw [decide_eq_false hz]
      · skip
        refine WC.reg ?_
        refine WL.v (Runs.move rfl) rfl ?_
        refine WL.v (Runs.move rfl) rfl ?_
        refine WL.v (Runs.lidxK Try.underlying35 inf45 rfl rfl (n := i) rfl (by omega)) rfl ?_
        refine WL.v (Runs.fld fld45_0 rfl) rfl ?_
        refine WL.v (Runs.load1 Try.underlying3 rfl rfl (by rw [add_add]; exact hL.cell (hen 0 _ rfl))) rfl ?_
        refine WL.v (Runs.boolT (c := false) (Runs.lss rfl rfl) (by rw [decide_eq_false_iff_not]; omega)) rfl ?_
        refine WL.v (Runs.move rfl) rfl ?_
        refine WL.gon rfl rfl rfl ?_
        refine WL.v (Runs.move rfl) rfl ?_
        refine WL.gon rfl rfl rfl ?_
        refine WL.v (Runs.move rfl) rfl ?_
        refine WL.gon rfl rfl rfl ?_
        refine WL.v (Runs.lidxK Try.underlying35 inf45 rfl rfl (n := i) rfl (by omega)) rfl ?_
        refine WL.gon rfl rfl rfl ?_
        refine WL.v (Runs.fld fld45_0 rfl) rfl ?_
        refine WL.gon rfl rfl rfl ?_
        refine WL.v (Runs.load1 Try.underlying3 rfl rfl (by rw [add_add]; exact hL.cell (hen 0 _ rfl))) rfl ?_
        refine WL.gon rfl rfl rfl ?_
        refine WL.v (Runs.boolT (c := true) (Runs.gtr rfl rfl) (by rw [decide_eq_true_eq]; omega)) rfl ?_
        refine WL.v (Runs.pick rfl rfl rfl) rfl ?_
        refine WL.v (Runs.move rfl) rfl ?_
        refine WL.goff rfl rfl rfl rfl ?_
        refine WL.goff rfl rfl rfl rfl ?_
        refine WL.goff rfl rfl rfl rfl ?_
        refine WL.goff rfl rfl rfl rfl ?_
        refine WL.goff rfl rfl rfl rfl ?_
        refine WL.goff rfl rfl rfl rfl ?_
        refine WL.goff rfl rfl rfl rfl ?_
        refine WL.v (Runs.pick rfl rfl rfl) rfl ?_
        refine WL.nil ?_
        refine WN.thn ?_
        refine WC.condT rfl (rfl) ?_
        refine WC.seq ?_
        refine WC.reg ?_
        refine WL.v (Runs.assign rfl) rfl ?_
        refine WL.nil ?_
        refine WN.thn ?_
        refine WC.ret ?_
        have hz : ¬ mayL xs := fun hh => by
          have h9 := hh.1 i hi2
          unfold mayX at h9
          omega
        refine ret1 rfl rfl ⟨?_, hL⟩
        rw [decide_eq_false hz]
      · skip
        refine WC.reg ?_
        refine WL.v (Runs.move rfl) rfl ?_
        refine WL.v (Runs.move rfl) rfl ?_
        refine WL.v (Runs.lidxK Try.underlying35 inf45 rfl rfl (n := i) rfl (by omega)) rfl ?_
        refine WL.v (Runs.fld fld45_0 rfl) rfl ?_
        refine WL.v (Runs.load1 Try.underlying3 rfl rfl (by rw [add_add]; exact hL.cell (hen 0 _ rfl))) rfl ?_
        refine WL.v (Runs.boolT (c := false) (Runs.lss rfl rfl) (by rw [decide_eq_false_iff_not]; omega)) rfl ?_
        refine WL.v (Runs.move rfl) rfl ?_
        refine WL.gon rfl rfl rfl ?_
        refine WL.v (Runs.move rfl) rfl ?_
        refine WL.gon rfl rfl rfl ?_
        refine WL.v (Runs.move rfl) rfl ?_
        refine WL.gon rfl rfl rfl ?_
        refine WL.v (Runs.lidxK Try.underlying35 inf45 rfl rfl (n := i) rfl (by omega)) rfl ?_
        refine WL.gon rfl rfl rfl ?_
        refine WL.v (Runs.fld fld45_0 rfl) rfl ?_
        refine WL.gon rfl rfl rfl ?_
        refine WL.v (Runs.load1 Try.underlying3 rfl rfl (by rw [add_add]; exact hL.cell (hen 0 _ rfl))) rfl ?_
        refine WL.gon rfl rfl rfl ?_
        refine WL.v (Runs.boolT (c := false) (Runs.gtr rfl rfl) (by rw [decide_eq_false_iff_not]; omega)) rfl ?_
        refine WL.v (Runs.pick rfl rfl rfl) rfl ?_
        refine WL.v (Runs.move rfl) rfl ?_
        refine WL.gon rfl rfl rfl ?_
        refine WL.v (Runs.move rfl) rfl ?_
        refine WL.gon rfl rfl rfl ?_
        refine WL.v (Runs.move rfl) rfl ?_
        refine WL.gon rfl rfl rfl ?_
        refine WL.v (Runs.lidxK Try.underlying35 inf45 rfl rfl (n := i) rfl (by omega)) rfl ?_
        refine WL.gon rfl rfl rfl ?_
        refine WL.v (Runs.fld fld45_1 rfl) rfl ?_
        refine WL.gon rfl rfl rfl ?_
        refine WL.v (Runs.load1 Try.underlying9 rfl rfl (by rw [add_add]; exact hL.cell (hen 1 _ rfl))) rfl ?_
        refine WL.gon rfl rfl rfl ?_
        refine WL.v (Runs.intT (n := (((xs.getD i (0, [])).2).length : Int)) (Runs.slen Try.underlying9 rfl rfl) rfl) rfl ?_
        refine WL.gon rfl rfl rfl ?_
        refine WL.v (Runs.boolT (c := true) (Runs.gtr rfl rfl) (by rw [decide_eq_true_eq]; omega)) rfl ?_
        refine WL.v (Runs.pick rfl rfl rfl) rfl ?_
        refine WL.nil ?_
        refine WN.thn ?_
        refine WC.condT rfl (rfl) ?_
        refine WC.seq ?_
        refine WC.reg ?_
        refine WL.v (Runs.assign rfl) rfl ?_
        refine WL.nil ?_
        refine WN.thn ?_
        refine WC.ret ?_
        have hz : ¬ mayL xs := fun hh => by
          have h9 := hh.1 i hi2
          unfold mayX at h9
          omega
        refine ret1 rfl rfl ⟨?_, hL⟩
        rw [decide_eq_false hz]
      · have hx0 := hx.1
        have hx1 := hx.2.1
        have hx2 := hx.2.2
        refine WC.reg ?_
        refine WL.v (Runs.move rfl) rfl ?_
        refine WL.v (Runs.move rfl) rfl ?_
        refine WL.v (Runs.lidxK Try.underlying35 inf45 rfl rfl (n := i) rfl (by omega)) rfl ?_
        refine WL.v (Runs.fld fld45_0 rfl) rfl ?_
        refine WL.v (Runs.load1 Try.underlying3 rfl rfl (by rw [add_add]; exact hL.cell (hen 0 _ rfl))) rfl ?_
        refine WL.v (Runs.boolT (c := false) (Runs.lss rfl rfl) (by rw [decide_eq_false_iff_not]; omega)) rfl ?_
        refine WL.v (Runs.move rfl) rfl ?_
        refine WL.gon rfl rfl rfl ?_
        refine WL.v (Runs.move rfl) rfl ?_
        refine WL.gon rfl rfl rfl ?_
        refine WL.v (Runs.move rfl) rfl ?_
        refine WL.gon rfl rfl rfl ?_
        refine WL.v (Runs.lidxK Try.underlying35 inf45 rfl rfl (n := i) rfl (by omega)) rfl ?_
        refine WL.gon rfl rfl rfl ?_
        refine WL.v (Runs.fld fld45_0 rfl) rfl ?_
        refine WL.gon rfl rfl rfl ?_
        refine WL.v (Runs.load1 Try.underlying3 rfl rfl (by rw [add_add]; exact hL.cell (hen 0 _ rfl))) rfl ?_
        refine WL.gon rfl rfl rfl ?_
        refine WL.v (Runs.boolT (c := false) (Runs.gtr rfl rfl) (by rw [decide_eq_false_iff_not]; omega)) rfl ?_
        refine WL.v (Runs.pick rfl rfl rfl) rfl ?_
        refine WL.v (Runs.move rfl) rfl ?_
        refine WL.gon rfl rfl rfl ?_
        refine WL.v (Runs.move rfl) rfl ?_
        refine WL.gon rfl rfl rfl ?_
        refine WL.v (Runs.move rfl) rfl ?_
        refine WL.gon rfl rfl rfl ?_
        refine WL.v (Runs.lidxK Try.underlying35 inf45 rfl rfl (n := i) rfl (by omega)) rfl ?_
        refine WL.gon rfl rfl rfl ?_
        refine WL.v (Runs.fld fld45_1 rfl) rfl ?_
        refine WL.gon rfl rfl rfl ?_
        refine WL.v (Runs.load1 Try.underlying9 rfl rfl (by rw [add_add]; exact hL.cell (hen 1 _ rfl))) rfl ?_
        refine WL.gon rfl rfl rfl ?_
        refine WL.v (Runs.intT (n := (((xs.getD i (0, [])).2).length : Int)) (Runs.slen Try.underlying9 rfl rfl) rfl) rfl ?_
        refine WL.gon rfl rfl rfl ?_
        refine WL.v (Runs.boolT (c := false) (Runs.gtr rfl rfl) (by rw [decide_eq_false_iff_not]; omega)) rfl ?_
        refine WL.v (Runs.pick rfl rfl rfl) rfl ?_
        refine WL.nil ?_
        refine WN.thn ?_
        refine WC.condF rfl (rfl) ?_
        refine WC.skip ?_
        refine WN.blk ?_
        refine WN.thn ?_
        refine WC.reg ?_
        refine WL.v (Runs.move rfl) rfl ?_
        refine WL.v (Runs.addn rfl rfl (by omega)) rfl ?_
        refine WL.v (Runs.assign rfl) rfl ?_
        refine WL.nil ?_
        exact WN.again (i + 1) (by omega) ⟨rfl, rfl, trivial⟩ ⟨by omega, fun j hj => (by
          by_cases e : j = i
          · subst e; exact hx
          · exact hall j (by omega)), hL⟩
  · try simp only [decide_eq_true_eq, decide_eq_false_iff_not, Bool.not_eq_true', Bool.not_eq_false', Bool.and_eq_true, Int.not_lt, Int.not_le] at c2
    first
    | (exfalso; omega)
    | skip
      refine WC.exit ?_
      refine WX.thn ?_
      refine WX.cut ?_
      refine WX.hit ?_
      refine WN.thn ?_
      refine WC.seq ?_
      refine WC.reg ?_
      refine WL.v (Runs.move rfl) rfl ?_
      refine WL.v (Runs.intT (n := (xs.length : Int)) (Runs.llen Try.underlying35 rfl rfl) rfl) rfl ?_
      refine WL.v (Runs.leq rfl rfl) rfl ?_
      refine WL.v (Runs.assign rfl) rfl ?_
      refine WL.nil ?_
      refine WN.thn ?_
      refine WC.ret ?_
      have he : decide (mayL xs) = decide ((xs.length : Int) ≤ 12) := decide_eq_decide.2 ⟨fun hh => by have := hh.2; omega, fun hh => ⟨fun j hj => hall j (by omega), by omega⟩⟩
      refine ret1 rfl rfl ⟨?_, hL⟩
      rw [he]
set_option maxRecDepth 100000 in
set_option maxHeartbeats 4000000 in
theorem write_c {W : World} {F : Snap} {cs : List Res} (w : World) {A : Option Addr} {cap : Nat} {xs : List Ent} (h : St W F cs w) (hR : RdS KEn F A xs) (hm : mayL xs) : Calls Try.prog 26 #[.slice A xs.length cap] w fun r w' => r = .returned (.string (bs (writeL xs))) ∧ St W F cs w'  := by
  refine enter (P := Try.prog) (args := [.slice A xs.length cap]) Try.func26 rfl rfl rfl ?_
  have hm2 := hm.2
  refine WC.seq ?_
  refine WC.reg ?_
  refine WL.v (Runs.assign rfl) rfl ?_
  refine WL.nil ?_
  refine WN.thn ?_
  refine WC.seq ?_
  refine WC.reg ?_
  refine WL.v (Runs.assign rfl) rfl ?_
  refine WL.nil ?_
  refine WN.thn ?_
  refine WC.seq ?_
  refine WC.seq ?_
  refine WC.reg ?_
  refine WL.v (Runs.assign rfl) rfl ?_
  refine WL.nil ?_
  refine WN.thn ?_
  refine WC.block ?_
  refine WC.loop (σ := Nat × List UInt8) (fun q_ => [(0, .slice A xs.length cap), (3, .string (bs q_.2)), (4, .int .i64 (q_.1 : Int))]) (fun q_ w => q_.1 ≤ xs.length ∧ q_.2 = writeL (xs.take q_.1) ∧ St W F cs w) (fun q_ => xs.length - q_.1) (⟨0, []⟩) (by repeat (first | exact trivial | refine ⟨rfl, ?_⟩)) (⟨Nat.zero_le _, rfl, h⟩) ?_
  rintro ⟨i, acc⟩ w1 ⟨hi, hacc, hL⟩
  try dsimp only at hi hacc hL
  refine WC.sub (s := [(0, .slice A xs.length cap), (3, .string (bs acc)), (4, .int .i64 (i : Int))]) (by repeat (first | exact trivial | refine ⟨rfl, ?_⟩)) ?_
  refine WC.seq ?_
  refine WC.seq ?_
  refine WC.reg ?_
  refine WL.v (Runs.move rfl) rfl ?_
  refine WL.v (Runs.move rfl) rfl ?_
  refine WL.v (Runs.intT (n := (xs.length : Int)) (Runs.llen Try.underlying35 rfl rfl) rfl) rfl ?_
  refine WL.v (Runs.lss rfl rfl) rfl ?_
  refine WL.nil ?_
  refine WN.thn ?_
  refine WC.cond rfl (fun c2 => ?_) (fun c2 => ?_)
  · try simp only [decide_eq_true_eq, decide_eq_false_iff_not, Bool.not_eq_true', Bool.not_eq_false', Bool.and_eq_true, Int.not_lt, Int.not_le] at c2
    first
    | (exfalso; omega)
    | skip
      refine WC.skip ?_
      refine WN.thn ?_
      refine WC.seq ?_
      refine WC.block ?_
      refine WC.seq ?_
      have hi2 : i < xs.length := by omega
      obtain ⟨a1, rfl, hen⟩ := ent_at hR hi2
      refine WC.eregO hL (fun s_ => ([11] : List Nat).any (Nat.beq s_)) mixed (by kernel_rfl) (fun hx => ?_)
      intro w3 h3
      refine WE.pure (g := none) hx 0 (by rfl) trivial (by kernel_rfl) (by kernel_rfl) (by kernel_rfl) (by kernel_rfl) (fun w_ => Runs.move rfl) rfl ?_
      refine WE.pure (g := none) hx 1 (by rfl) trivial (by kernel_rfl) (by kernel_rfl) (by kernel_rfl) (by kernel_rfl) (fun w_ => Runs.move rfl) rfl ?_
      refine WE.pure (g := none) hx 2 (by rfl) trivial (by kernel_rfl) (by kernel_rfl) (by kernel_rfl) (by kernel_rfl) (fun w_ => Runs.move rfl) rfl ?_
      refine WE.pure (g := none) hx 3 (by rfl) trivial (by kernel_rfl) (by kernel_rfl) (by kernel_rfl) (by kernel_rfl) (fun w_ => Runs.lidxK Try.underlying35 inf45 rfl rfl (n := i) rfl (by omega)) rfl ?_
      refine WE.pure (g := none) hx 4 (by rfl) trivial (by kernel_rfl) (by kernel_rfl) (by kernel_rfl) (by kernel_rfl) (fun w_ => Runs.fld fld45_0 rfl) rfl ?_
      refine WE.pure (g := none) hx 6 (by rfl) trivial (by kernel_rfl) (by kernel_rfl) (by kernel_rfl) (by kernel_rfl) (fun w_ => Runs.move rfl) rfl ?_
      refine WE.pure (g := none) hx 7 (by rfl) trivial (by kernel_rfl) (by kernel_rfl) (by kernel_rfl) (by kernel_rfl) (fun w_ => Runs.move rfl) rfl ?_
      refine WE.pure (g := none) hx 8 (by rfl) trivial (by kernel_rfl) (by kernel_rfl) (by kernel_rfl) (by kernel_rfl) (fun w_ => Runs.lidxK Try.underlying35 inf45 rfl rfl (n := i) rfl (by omega)) rfl ?_
      refine WE.pure (g := none) hx 9 (by rfl) trivial (by kernel_rfl) (by kernel_rfl) (by kernel_rfl) (by kernel_rfl) (fun w_ => Runs.fld fld45_1 rfl) rfl ?_
      refine WE.val (g := none) 12 hx 5 (by rfl) trivial (by kernel_rfl) (by kernel_rfl) (by kernel_rfl) (by kernel_rfl) (fun w_ hE_ => Runs.load1 Try.underlying3 rfl rfl (by rw [add_add]; exact hE_.cell (hen 0 _ rfl))) rfl ?_
      refine WE.val (g := none) 12 hx 10 (by rfl) trivial (by kernel_rfl) (by kernel_rfl) (by kernel_rfl) (by kernel_rfl) (fun w_ hE_ => Runs.load1 Try.underlying9 rfl rfl (by rw [add_add]; exact hE_.cell (hen 1 _ rfl))) rfl ?_
      refine WE.op (.inr h3) (i := 11) (by rfl) (by kernel_rfl) ?_
      refine WL.call can9 rfl rfl ((C1.to (g := apV) (app_w hacc (mayX_ok (hm.1 i hi2))) (append_c _ acc (xs.getD i (0, [])).1 (xs.getD i (0, [])).2 h3 (by have := writeL_len (xs.take i); rw [List.length_take] at this; rw [hacc]; omega)))) ?_
      rintro _ w4 ⟨rfl, h4⟩
      refine ⟨_, rfl, ?_⟩
      refine WL.nil ?_
      refine WE.next ?_
      refine WE.pure (g := none) hx 12 (by rfl) trivial (by kernel_rfl) (by kernel_rfl) (by kernel_rfl) (by kernel_rfl) (fun w_ => Runs.move rfl) rfl ?_
      refine WE.pure (g := none) hx 13 (by rfl) trivial (by kernel_rfl) (by kernel_rfl) (by kernel_rfl) (by kernel_rfl) (fun w_ => Runs.extract rfl rfl) rfl ?_
      refine WE.pure (g := none) hx 14 (by rfl) trivial (by kernel_rfl) (by kernel_rfl) (by kernel_rfl) (by kernel_rfl) (fun w_ => Runs.extract rfl rfl) rfl ?_
      refine WE.pure (g := none) hx 15 (by rfl) trivial (by kernel_rfl) (by kernel_rfl) (by kernel_rfl) (by kernel_rfl) (fun w_ => Runs.assign rfl) rfl ?_
      refine WE.pure (g := none) hx 16 (by rfl) trivial (by kernel_rfl) (by kernel_rfl) (by kernel_rfl) (by kernel_rfl) (fun w_ => Runs.assign rfl) rfl ?_
      refine WE.fin (.inl ⟨11, rfl, by kernel_rfl⟩) (by kernel_rfl) ?_
      refine WN.thn ?_
      refine WC.seq ?_
      refine WC.reg ?_
      refine WL.v (Runs.move rfl) rfl ?_
      refine WL.v (Runs.boolT (c := true) (Runs.eql rfl rfl) rfl) rfl ?_
      refine WL.nil ?_
      refine WN.thn ?_
      refine WC.condT rfl (rfl) ?_
      refine WC.reg ?_
      refine WL.v (Runs.move rfl) rfl ?_
      refine WL.v (Runs.assign rfl) rfl ?_
      refine WL.nil ?_
      refine WN.blk ?_
      refine WN.thn ?_
      refine WC.reg ?_
      refine WL.v (Runs.move rfl) rfl ?_
      refine WL.v (Runs.addn rfl rfl (by omega)) rfl ?_
      refine WL.v (Runs.assign rfl) rfl ?_
      refine WL.nil ?_
      exact WN.again (⟨i + 1, writeL (xs.take i ++ [(xs.getD i (0, []))])⟩ : Nat × List UInt8) (by show xs.length - (i + 1) < xs.length - i; omega) ⟨rfl, rfl, rfl, trivial⟩ ⟨by show i + 1 ≤ _; omega, (by show _ = writeL (xs.take (i + 1)); rw [take_ent hi2]), h4⟩
  · try simp only [decide_eq_true_eq, decide_eq_false_iff_not, Bool.not_eq_true', Bool.not_eq_false', Bool.and_eq_true, Int.not_lt, Int.not_le] at c2
    first
    | (exfalso; omega)
    | skip
      refine WC.exit ?_
      refine WX.thn ?_
      refine WX.cut ?_
      refine WX.hit ?_
      refine WN.thn ?_
      refine WC.seq ?_
      refine WC.reg ?_
      refine WL.v (Runs.move rfl) rfl ?_
      refine WL.v (Runs.assign rfl) rfl ?_
      refine WL.nil ?_
      refine WN.thn ?_
      refine WC.ret ?_
      have hii : i = xs.length := by omega
      subst hii
      rw [List.take_of_length_le (Nat.le_refl _)] at hacc
      exact ret1 rfl rfl ⟨by rw [hacc], hL⟩
end Jo
end Go.Proofs.Ythjcfhfbaeokeaa
