/- The law WireWrites: the bytes of any number, text, list and message. -/
import Derived.Test.YtfiknofmniiehaaW14
namespace Go.Proofs.Ytfiknofmniiehaa
open Go Go.RowKit B
set_option linter.unusedVariables false
set_option linter.unusedSimpArgs false
namespace Wir

theorem can9 : B.Can Try.prog 9 := ⟨_, Try.func9, by kernel_rfl, rfl⟩   -- roundhouse/roundhouselaw02.live
theorem can15 : B.Can Try.prog 15 := ⟨_, Try.func15, by kernel_rfl, rfl⟩   -- roundhouse/roundhouseref02.List
theorem can17 : B.Can Try.prog 17 := ⟨_, Try.func17, by kernel_rfl, rfl⟩   -- roundhouse/roundhouseref02.Encode
set_option maxRecDepth 100000 in
set_option maxHeartbeats 8000000 in
theorem writes_law {W : World} {F : Snap} {cs : List Res} (w : World) (n : Int) {A : Option Addr} {cap : Nat} {xs : List Int} (m : M) (h : St W F cs w) (hR : RdS (Kd.one Vi) F A xs) : Calls Try.prog 3 #[Vi n, .slice A xs.length cap, m.val] w fun r w' => r = .returned (.bool true) ∧ St W F cs w'  := by
  refine enter (P := Try.prog) (args := [Vi n, .slice A xs.length cap, .agg #[Vi m.k, Vi m.f, Vi m.t, Vi m.j, Vi m.ep, Vi m.st, Vi m.ar, .string (bs m.tx)]]) Try.func3 rfl rfl rfl ?_
  refine WC.seq ?_
  refine WC.reg ?_
  refine WL.box rfl h rfl ?_
  intro b5 w1 h1
  refine WL.v (Runs.assign rfl) rfl ?_
  refine WL.nil ?_
  refine WN.thn ?_
  refine WC.seq ?_
  refine WC.seq ?_
  have hcase : 5000 < xs.length ∨ (xs.length ≤ 5000 ∧ 5000 < m.tx.length) ∨ (xs.length ≤ 5000 ∧ m.tx.length ≤ 5000) := by omega
  rcases hcase with hA | hB | hC
  · skip
    refine WC.reg ?_
    refine WL.v (Runs.move rfl) rfl ?_
    refine WL.v (Runs.llen Try.underlying22 rfl rfl) rfl ?_
    refine WL.v (Runs.boolT (c := true) (Runs.gtr rfl rfl) (by rw [decide_eq_true_eq]; omega)) rfl ?_
    refine WL.v (Runs.move rfl) rfl ?_
    refine WL.goff rfl rfl rfl rfl ?_
    refine WL.goff rfl rfl rfl rfl ?_
    refine WL.goff rfl rfl rfl rfl ?_
    refine WL.goff rfl rfl rfl rfl ?_
    refine WL.v (Runs.pick rfl rfl rfl) rfl ?_
    refine WL.nil ?_
    refine WN.thn ?_
    refine WC.condT rfl (rfl) ?_
    refine WC.seq ?_
    refine WC.reg ?_
    refine WL.call can9 rfl rfl (live_c _ h1) ?_
    rintro _ w2 ⟨rfl, h2⟩
    refine ⟨_, rfl, ?_⟩
    refine WL.v (Runs.assign rfl) rfl ?_
    refine WL.nil ?_
    refine WN.thn ?_
    refine WC.ret ?_
    exact ret1 rfl rfl ⟨rfl, h2.drop 0⟩
  · skip
    refine WC.reg ?_
    refine WL.v (Runs.move rfl) rfl ?_
    refine WL.v (Runs.llen Try.underlying22 rfl rfl) rfl ?_
    refine WL.v (Runs.boolT (c := false) (Runs.gtr rfl rfl) (by rw [decide_eq_false_iff_not]; omega)) rfl ?_
    refine WL.v (Runs.move rfl) rfl ?_
    refine WL.gon rfl rfl rfl ?_
    refine WL.v (Runs.fld fld24_7 rfl) rfl ?_
    refine WL.gon rfl rfl rfl ?_
    refine WL.v (Runs.load1 Try.underlying9 rfl rfl (h1.ocell (i := 0) rfl rfl)) rfl ?_
    refine WL.gon rfl rfl rfl ?_
    refine WL.v (Runs.intT (n := (m.tx.length : Int)) (Runs.slen Try.underlying9 rfl rfl) rfl) rfl ?_
    refine WL.gon rfl rfl rfl ?_
    refine WL.v (Runs.boolT (c := true) (Runs.gtr rfl rfl) (by rw [decide_eq_true_eq]; omega)) rfl ?_
    refine WL.v (Runs.pick rfl rfl rfl) rfl ?_
    refine WL.nil ?_
    refine WN.thn ?_
    refine WC.condT rfl (rfl) ?_
    refine WC.seq ?_
    refine WC.reg ?_
    refine WL.call can9 rfl rfl (live_c _ h1) ?_
    rintro _ w3 ⟨rfl, h3⟩
    refine ⟨_, rfl, ?_⟩
    refine WL.v (Runs.assign rfl) rfl ?_
    refine WL.nil ?_
    refine WN.thn ?_
    refine WC.ret ?_
    exact ret1 rfl rfl ⟨rfl, h3.drop 0⟩
  · skip
    refine WC.reg ?_
    refine WL.v (Runs.move rfl) rfl ?_
    refine WL.v (Runs.llen Try.underlying22 rfl rfl) rfl ?_
    refine WL.v (Runs.boolT (c := false) (Runs.gtr rfl rfl) (by rw [decide_eq_false_iff_not]; omega)) rfl ?_
    refine WL.v (Runs.move rfl) rfl ?_
    refine WL.gon rfl rfl rfl ?_
    refine WL.v (Runs.fld fld24_7 rfl) rfl ?_
    refine WL.gon rfl rfl rfl ?_
    refine WL.v (Runs.load1 Try.underlying9 rfl rfl (h1.ocell (i := 0) rfl rfl)) rfl ?_
    refine WL.gon rfl rfl rfl ?_
    refine WL.v (Runs.intT (n := (m.tx.length : Int)) (Runs.slen Try.underlying9 rfl rfl) rfl) rfl ?_
    refine WL.gon rfl rfl rfl ?_
    refine WL.v (Runs.boolT (c := false) (Runs.gtr rfl rfl) (by rw [decide_eq_false_iff_not]; omega)) rfl ?_
    refine WL.v (Runs.pick rfl rfl rfl) rfl ?_
    refine WL.nil ?_
    refine WN.thn ?_
    refine WC.condF rfl (rfl) ?_
    refine WC.skip ?_
    refine WN.thn ?_
    refine WC.seq ?_
    refine WC.eregO h1 (fun s_ => ([] : List Nat).any (Nat.beq s_)) mixed (by kernel_rfl) (fun hx => ?_)
    intro w4 h4
    refine WE.pure (g := none) hx 0 (by rfl) trivial (by kernel_rfl) (by kernel_rfl) (by kernel_rfl) (by kernel_rfl) (fun w_ => Runs.move rfl) rfl ?_
    refine WE.pure (g := none) hx 2 (by rfl) trivial (by kernel_rfl) (by kernel_rfl) (by kernel_rfl) (by kernel_rfl) (fun w_ => Runs.move rfl) rfl ?_
    refine WE.op (.inr h4) (i := 1) (by rfl) (by kernel_rfl) ?_
    refine WL.call can10 rfl rfl (wnum_c _ n h4) ?_
    rintro _ w5 ⟨rfl, h5⟩
    refine ⟨_, rfl, ?_⟩
    refine WL.nil ?_
    refine WE.next ?_
    refine WE.op (.inr h5) (i := 3) (by rfl) (by kernel_rfl) ?_
    refine WL.call can11 rfl rfl (rnum_c _ n h5) ?_
    rintro _ w6 ⟨rfl, h6⟩
    refine ⟨_, rfl, ?_⟩
    refine WL.nil ?_
    refine WE.next ?_
    refine WE.pure (g := none) hx 4 (by rfl) trivial (by kernel_rfl) (by kernel_rfl) (by kernel_rfl) (by kernel_rfl) (fun w_ => Runs.boolT (c := true) (Runs.lseql (a := numB n) (b := numB n) rfl rfl) (decide_eq_true rfl)) rfl ?_
    refine WE.pure (g := none) hx 5 (by rfl) trivial (by kernel_rfl) (by kernel_rfl) (by kernel_rfl) (by kernel_rfl) (fun w_ => Runs.move rfl) rfl ?_
    refine WE.pure (g := some (5, true)) hx 6 (by rfl) ⟨_, _, rfl, rfl, rfl⟩ (by kernel_rfl) (by kernel_rfl) (by kernel_rfl) (by kernel_rfl) (fun w_ => Runs.fld fld24_7 rfl) rfl ?_
    refine WE.pure (g := some (5, true)) hx 9 (by rfl) ⟨_, _, rfl, rfl, rfl⟩ (by kernel_rfl) (by kernel_rfl) (by kernel_rfl) (by kernel_rfl) (fun w_ => Runs.fld fld24_7 rfl) rfl ?_
    refine WE.val (g := some (5, true)) 12 hx 7 (by rfl) ⟨_, _, rfl, rfl, rfl⟩ (by kernel_rfl) (by kernel_rfl) (by kernel_rfl) (by kernel_rfl) (fun w_ hE_ => Runs.load1 Try.underlying9 rfl rfl (hE_.ocell (i := 0) rfl rfl)) rfl ?_
    refine WE.val (g := some (5, true)) 12 hx 10 (by rfl) ⟨_, _, rfl, rfl, rfl⟩ (by kernel_rfl) (by kernel_rfl) (by kernel_rfl) (by kernel_rfl) (fun w_ hE_ => Runs.load1 Try.underlying9 rfl rfl (hE_.ocell (i := 0) rfl rfl)) rfl ?_
    refine WE.op (.inr h6) (i := 8) (by rfl) (by kernel_rfl) ?_
    refine WL.gon rfl rfl rfl ?_
    refine WL.call can12 rfl rfl (wtext_c _ m.tx h6 (by omega)) ?_
    rintro _ w7 ⟨rfl, h7⟩
    refine ⟨_, rfl, ?_⟩
    refine WL.nil ?_
    refine WE.next ?_
    refine WE.op (.inr h7) (i := 11) (by rfl) (by kernel_rfl) ?_
    refine WL.gon rfl rfl rfl ?_
    refine WL.call can13 rfl rfl (rtext_c _ m.tx h7 (by omega)) ?_
    rintro _ w8 ⟨rfl, h8⟩
    refine ⟨_, rfl, ?_⟩
    refine WL.nil ?_
    refine WE.next ?_
    refine WE.pure (g := some (5, true)) hx 12 (by rfl) ⟨_, _, rfl, rfl, rfl⟩ (by kernel_rfl) (by kernel_rfl) (by kernel_rfl) (by kernel_rfl) (fun w_ => Runs.boolT (c := true) (Runs.lseql (a := textB m.tx) (b := textB m.tx) rfl rfl) (decide_eq_true rfl)) rfl ?_
    refine WE.pure (g := none) hx 13 (by rfl) trivial (by kernel_rfl) (by kernel_rfl) (by kernel_rfl) (by kernel_rfl) (fun w_ => Runs.pick rfl rfl rfl) rfl ?_
    refine WE.pure (g := none) hx 14 (by rfl) trivial (by kernel_rfl) (by kernel_rfl) (by kernel_rfl) (by kernel_rfl) (fun w_ => Runs.move rfl) rfl ?_
    refine WE.pure (g := some (14, true)) hx 15 (by rfl) ⟨_, _, rfl, rfl, rfl⟩ (by kernel_rfl) (by kernel_rfl) (by kernel_rfl) (by kernel_rfl) (fun w_ => Runs.move rfl) rfl ?_
    refine WE.pure (g := some (14, true)) hx 17 (by rfl) ⟨_, _, rfl, rfl, rfl⟩ (by kernel_rfl) (by kernel_rfl) (by kernel_rfl) (by kernel_rfl) (fun w_ => Runs.move rfl) rfl ?_
    refine WE.op (.inr h8) (i := 16) (by rfl) (by kernel_rfl) ?_
    refine WL.gon rfl rfl rfl ?_
    refine WL.call can14 rfl rfl (wlist_c _ h8 hR (by omega)) ?_
    rintro _ w9 ⟨rfl, h9⟩
    refine ⟨_, rfl, ?_⟩
    refine WL.nil ?_
    refine WE.next ?_
    refine WE.op (.inr h9) (i := 18) (by rfl) (by kernel_rfl) ?_
    refine WL.gon rfl rfl rfl ?_
    refine WL.call can15 rfl rfl (rlist_c _ h9 hR (by omega)) ?_
    rintro _ w10 ⟨rfl, h10⟩
    refine ⟨_, rfl, ?_⟩
    refine WL.nil ?_
    refine WE.next ?_
    refine WE.pure (g := some (14, true)) hx 19 (by rfl) ⟨_, _, rfl, rfl, rfl⟩ (by kernel_rfl) (by kernel_rfl) (by kernel_rfl) (by kernel_rfl) (fun w_ => Runs.boolT (c := true) (Runs.lseql (a := listB xs) (b := listB xs) rfl rfl) (decide_eq_true rfl)) rfl ?_
    refine WE.pure (g := none) hx 20 (by rfl) trivial (by kernel_rfl) (by kernel_rfl) (by kernel_rfl) (by kernel_rfl) (fun w_ => Runs.pick rfl rfl rfl) rfl ?_
    refine WE.pure (g := none) hx 21 (by rfl) trivial (by kernel_rfl) (by kernel_rfl) (by kernel_rfl) (by kernel_rfl) (fun w_ => Runs.move rfl) rfl ?_
    refine WE.val (g := some (21, true)) 12 hx 22 (by rfl) ⟨_, _, rfl, rfl, rfl⟩ (by kernel_rfl) (by kernel_rfl) (by kernel_rfl) (by kernel_rfl) (fun w_ hE_ => Runs.loadAll hE_ 0 rfl Try.underlying24 rfl inf24 rfl rfl) rfl ?_
    refine WE.val (g := some (21, true)) 12 hx 24 (by rfl) ⟨_, _, rfl, rfl, rfl⟩ (by kernel_rfl) (by kernel_rfl) (by kernel_rfl) (by kernel_rfl) (fun w_ hE_ => Runs.loadAll hE_ 0 rfl Try.underlying24 rfl inf24 rfl rfl) rfl ?_
    refine WE.op (.inr h10) (i := 23) (by rfl) (by kernel_rfl) ?_
    refine WL.gon rfl rfl rfl ?_
    refine WL.call can16 rfl rfl (enc_c _ m h10 (by omega)) ?_
    rintro _ w11 ⟨rfl, h11⟩
    refine ⟨_, rfl, ?_⟩
    refine WL.nil ?_
    refine WE.next ?_
    refine WE.op (.inr h11) (i := 25) (by rfl) (by kernel_rfl) ?_
    refine WL.gon rfl rfl rfl ?_
    refine WL.call can17 rfl rfl (renc_c _ m h11 (by omega)) ?_
    rintro _ w12 ⟨rfl, h12⟩
    refine ⟨_, rfl, ?_⟩
    refine WL.nil ?_
    refine WE.next ?_
    refine WE.pure (g := some (21, true)) hx 26 (by rfl) ⟨_, _, rfl, rfl, rfl⟩ (by kernel_rfl) (by kernel_rfl) (by kernel_rfl) (by kernel_rfl) (fun w_ => Runs.boolT (c := true) (Runs.lseql (a := encB m) (b := encB m) rfl rfl) (decide_eq_true rfl)) rfl ?_
    refine WE.pure (g := none) hx 27 (by rfl) trivial (by kernel_rfl) (by kernel_rfl) (by kernel_rfl) (by kernel_rfl) (fun w_ => Runs.pick rfl rfl rfl) rfl ?_
    refine WE.pure (g := none) hx 28 (by rfl) trivial (by kernel_rfl) (by kernel_rfl) (by kernel_rfl) (by kernel_rfl) (fun w_ => Runs.move rfl) rfl ?_
    refine WE.op (.inr h12) (i := 29) (by rfl) (by kernel_rfl) ?_
    refine WL.gon rfl rfl rfl ?_
    refine WL.call can9 rfl rfl (live_c _ h12) ?_
    rintro _ w13 ⟨rfl, h13⟩
    refine ⟨_, rfl, ?_⟩
    refine WL.nil ?_
    refine WE.next ?_
    refine WE.pure (g := none) hx 30 (by rfl) trivial (by kernel_rfl) (by kernel_rfl) (by kernel_rfl) (by kernel_rfl) (fun w_ => Runs.pick rfl rfl rfl) rfl ?_
    refine WE.pure (g := none) hx 31 (by rfl) trivial (by kernel_rfl) (by kernel_rfl) (by kernel_rfl) (by kernel_rfl) (fun w_ => Runs.assign rfl) rfl ?_
    refine WE.fin (.inr h13) (by kernel_rfl) ?_
    refine WN.thn ?_
    refine WC.ret ?_
    exact ret1 rfl rfl ⟨rfl, h13.drop 0⟩
end Wir
end Go.Proofs.Ytfiknofmniiehaa
