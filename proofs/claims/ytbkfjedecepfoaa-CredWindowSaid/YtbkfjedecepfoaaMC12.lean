/- The laws CredKeys, CredWindow. -/
import Derived.Test.YtbkfjedecepfoaaMC11
namespace Go.Proofs.Ytbkfjedecepfoaa
open Go Go.RowKit B
set_option linter.unusedVariables false
set_option linter.unusedSimpArgs false
namespace Cr
open Wir (numN okL rdn cerr rerr rval rnx Vi mayN numB listB rdN rdL rdEnd)


theorem twoCase (P0 P1 : Prop) : (¬ P0) ∨ (P0 ∧ ¬ P1) ∨ (P0 ∧ P1) := by
  by_cases h0 : P0
  · by_cases h1 : P1
    · exact .inr (.inr (⟨h0, h1⟩))
    · exact .inr (.inl ⟨h0, h1⟩)
  · exact .inl h0

theorem big12 (a b : Nat) : 100 < a ∨ (a ≤ 100 ∧ 100 < b) ∨ (a ≤ 100 ∧ b ≤ 100) := by omega
theorem cutCase (j : Int) : j < 0 ∨ (0 ≤ j ∧ j < 32) ∨ (0 ≤ j ∧ 32 ≤ j) := by omega
theorem winCase (a : Nat) (x y z : Int) : 100 < a ∨ (a ≤ 100 ∧ x < z) ∨ (a ≤ 100 ∧ z ≤ x ∧ y < x) ∨ (a ≤ 100 ∧ z ≤ x ∧ x ≤ y) := by omega
theorem al_inv {c : C} {a : Q} (h : allowsM c a = 0) : okC c ∧ (c.jb = a.jb ∧ c.ep = a.ep ∧ c.st = a.st) ∧ (a.nd ∈ c.nd ∧ 1 ≤ a.co ∧ a.co ≤ c.co) ∧ (c.fr ≤ a.tm ∧ a.tm < c.un) := by
  by_cases h0 : okC c
  · by_cases h1 : c.jb = a.jb ∧ c.ep = a.ep ∧ c.st = a.st
    · by_cases h2 : a.nd ∈ c.nd ∧ 1 ≤ a.co ∧ a.co ≤ c.co
      · by_cases h3 : c.fr ≤ a.tm ∧ a.tm < c.un
        · exact ⟨h0, h1, h2, h3⟩
        · rw [al3 h0 h1 h2 h3] at h; simp at h
      · rw [al2 h0 h1 h2] at h; simp at h
    · rw [al1 h0 h1] at h; simp at h
  · rw [al0 h0] at h; simp at h
theorem al_win {c : C} {a : Q} {x0 x1 : Int} (h : allowsM c a = 0) (h1 : allowsM c ⟨a.jb, a.ep, a.st, a.nd, a.co, x1⟩ = 0) (e1 : a.tm ≤ x0) (e2 : x0 ≤ x1) : allowsM c ⟨a.jb, a.ep, a.st, a.nd, 1, x0⟩ = 0 := by
  obtain ⟨q0, q1, q2, q3⟩ := al_inv h
  obtain ⟨_, _, _, r3⟩ := al_inv h1
  have r3' : c.fr ≤ x1 ∧ x1 < c.un := r3
  exact al4 q0 q1 ⟨q2.1, Int.le_refl _, q0.2.2.2.2.2.1.1⟩ ⟨by show c.fr ≤ x0; omega, by show x0 < c.un; omega⟩
set_option maxRecDepth 100000 in
set_option maxHeartbeats 8000000 in
theorem keys_law {W : World} {F : Snap} {cs : List Res} (w : World) {A : Option Addr} {cap : Nat} {c : C} (k : List UInt8) (j : Int) (h : St W F cs w) (hR : RdS (Kd.one Vi) F A c.nd) (hnl : c.nd.length ≤ 9223372036854775807) (hkl : k.length ≤ 9223372036854775807) : Calls Try.prog 7 #[.string (bs k), .agg #[Vi c.jb, Vi c.ep, Vi c.st, Vi c.fr, Vi c.un, .slice A c.nd.length cap, Vi c.co], Vi j] w fun r w' => r = .returned (.bool true) ∧ St W F cs w'  := by
  refine enter (P := Try.prog) (args := [.string (bs k), .agg #[Vi c.jb, Vi c.ep, Vi c.st, Vi c.fr, Vi c.un, .slice A c.nd.length cap, Vi c.co], Vi j]) Try.func7 rfl rfl rfl ?_
  refine WC.seq ?_
  refine WC.reg ?_
  refine WL.box rfl h rfl ?_
  intro b4 w1 h1
  refine WL.v (Runs.assign rfl) rfl ?_
  refine WL.nil ?_
  refine WN.thn ?_
  refine WC.seq ?_
  refine WC.seq ?_
  rcases big12 c.nd.length k.length with g1 | ⟨g1, g2⟩ | ⟨g1, g2⟩
  · skip
    refine WC.reg ?_
    refine WL.v (Runs.fld fld24_5 rfl) rfl ?_
    refine WL.v (Runs.load1 Try.underlying22 rfl rfl (h1.ocell (i := 0) rfl rfl)) rfl ?_
    refine WL.v (Runs.intT (n := (c.nd.length : Int)) (Runs.llen Try.underlying22 rfl rfl) rfl) rfl ?_
    refine WL.v (Runs.boolT (c := true) (Runs.gtr rfl rfl) (by rw [decide_eq_true_eq]; omega)) rfl ?_
    refine WL.v (Runs.move rfl) rfl ?_
    refine WL.goff rfl rfl rfl rfl ?_
    refine WL.goff rfl rfl rfl rfl ?_
    refine WL.goff rfl rfl rfl rfl ?_
    refine WL.v (Runs.pick rfl rfl rfl) rfl ?_
    refine WL.nil ?_
    refine WN.thn ?_
    refine WC.condT rfl (rfl) ?_
    refine WC.seq ?_
    refine WC.reg ?_
    refine WL.call can9 rfl rfl (live_c _ h1) ?_
    rintro _ w2 ⟨rfl, h2⟩
    refine ⟨_, rfl, ?_⟩
    refine WL.v (Runs.assign rfl) rfl ?_
    refine WL.nil ?_
    refine WN.thn ?_
    refine WC.ret ?_
    exact ret1 rfl rfl ⟨rfl, (h2.drop 0)⟩
  · skip
    refine WC.reg ?_
    refine WL.v (Runs.fld fld24_5 rfl) rfl ?_
    refine WL.v (Runs.load1 Try.underlying22 rfl rfl (h1.ocell (i := 0) rfl rfl)) rfl ?_
    refine WL.v (Runs.intT (n := (c.nd.length : Int)) (Runs.llen Try.underlying22 rfl rfl) rfl) rfl ?_
    refine WL.v (Runs.boolT (c := false) (Runs.gtr rfl rfl) (by rw [decide_eq_false_iff_not]; omega)) rfl ?_
    refine WL.v (Runs.move rfl) rfl ?_
    refine WL.gon rfl rfl rfl ?_
    refine WL.v (Runs.move rfl) rfl ?_
    refine WL.gon rfl rfl rfl ?_
    refine WL.v (Runs.intT (n := (k.length : Int)) (Runs.slen Try.underlying9 rfl rfl) rfl) rfl ?_
    refine WL.gon rfl rfl rfl ?_
    refine WL.v (Runs.boolT (c := true) (Runs.gtr rfl rfl) (by rw [decide_eq_true_eq]; omega)) rfl ?_
    refine WL.v (Runs.pick rfl rfl rfl) rfl ?_
    refine WL.nil ?_
    refine WN.thn ?_
    refine WC.condT rfl (rfl) ?_
    refine WC.seq ?_
    refine WC.reg ?_
    refine WL.call can9 rfl rfl (live_c _ h1) ?_
    rintro _ w3 ⟨rfl, h3⟩
    refine ⟨_, rfl, ?_⟩
    refine WL.v (Runs.assign rfl) rfl ?_
    refine WL.nil ?_
    refine WN.thn ?_
    refine WC.ret ?_
    exact ret1 rfl rfl ⟨rfl, (h3.drop 0)⟩
  · skip
    refine WC.reg ?_
    refine WL.v (Runs.fld fld24_5 rfl) rfl ?_
    refine WL.v (Runs.load1 Try.underlying22 rfl rfl (h1.ocell (i := 0) rfl rfl)) rfl ?_
    refine WL.v (Runs.intT (n := (c.nd.length : Int)) (Runs.llen Try.underlying22 rfl rfl) rfl) rfl ?_
    refine WL.v (Runs.boolT (c := false) (Runs.gtr rfl rfl) (by rw [decide_eq_false_iff_not]; omega)) rfl ?_
    refine WL.v (Runs.move rfl) rfl ?_
    refine WL.gon rfl rfl rfl ?_
    refine WL.v (Runs.move rfl) rfl ?_
    refine WL.gon rfl rfl rfl ?_
    refine WL.v (Runs.intT (n := (k.length : Int)) (Runs.slen Try.underlying9 rfl rfl) rfl) rfl ?_
    refine WL.gon rfl rfl rfl ?_
    refine WL.v (Runs.boolT (c := false) (Runs.gtr rfl rfl) (by rw [decide_eq_false_iff_not]; omega)) rfl ?_
    refine WL.v (Runs.pick rfl rfl rfl) rfl ?_
    refine WL.nil ?_
    refine WN.thn ?_
    refine WC.condF rfl (rfl) ?_
    refine WC.skip ?_
    refine WN.thn ?_
    refine WC.seq ?_
    have hle : Le F F := Le.refl F
    refine WC.reg ?_
    refine WL.v (Runs.move rfl) rfl ?_
    refine WL.v (Runs.loadAll h1 0 rfl Try.underlying24 rfl inf24 rfl rfl) rfl ?_
    refine WL.call can19 rfl rfl (sign_c _ k (by omega) h1 hR (by omega)) ?_
    rintro _ w4 ⟨rfl, h4⟩
    refine ⟨_, rfl, ?_⟩
    refine WL.v (Runs.assign rfl) rfl ?_
    refine WL.nil ?_
    refine WN.thn ?_
    refine WC.seq ?_
    refine WC.seq ?_
    by_cases hok : okC c
    · skip
      refine WC.reg ?_
      refine WL.v (Runs.move rfl) rfl ?_
      refine WL.v (Runs.boolT (c := false) (Runs.lseql rfl rfl) (decide_eq_false (fun hh => signM_e.1 hh hok))) rfl ?_
      refine WL.nil ?_
      refine WN.thn ?_
      refine WC.condF rfl (rfl) ?_
      refine WC.skip ?_
      refine WN.thn ?_
      refine WC.seq ?_
      refine WC.seq ?_
      rcases cutCase j with g3 | ⟨g3, g4⟩ | ⟨g3, g4⟩
      · skip
        refine WC.reg ?_
        refine WL.v (Runs.move rfl) rfl ?_
        refine WL.v (Runs.boolT (c := false) (Runs.geq rfl rfl) (by rw [decide_eq_false_iff_not]; omega)) rfl ?_
        refine WL.v (Runs.move rfl) rfl ?_
        refine WL.goff rfl rfl rfl rfl ?_
        refine WL.goff rfl rfl rfl rfl ?_
        refine WL.v (Runs.pick rfl rfl rfl) rfl ?_
        refine WL.nil ?_
        refine WN.thn ?_
        refine WC.condF rfl (rfl) ?_
        refine WC.skip ?_
        refine WN.thn ?_
        refine WC.seq ?_
        refine WC.reg ?_
        refine WL.v (Runs.move rfl) rfl ?_
        refine WL.v (Runs.move rfl) rfl ?_
        refine WL.call can17 rfl rfl ((Op.to (openM_sign hok) (open_c _ k (signM k c) h4 (by omega) (by rw [signM_len hok]; have := encC_len (c := c); omega)))) ?_
        rintro _ w5 ⟨Gb, Ab, capb, hGb, rfl, rdb, h5⟩
        refine ⟨_, rfl, ?_⟩
        replace hR := hR.mono hGb
        replace hle := Le.trans hle hGb
        refine WL.v (Runs.move rfl) rfl ?_
        refine WL.v (Runs.extract rfl rfl) rfl ?_
        refine WL.v (Runs.extract rfl rfl) rfl ?_
        refine WL.alloc' rfl h5 inf24 ?_
        intro b10 w6 h6
        refine WL.storeAll h6 0 rfl rfl rfl inf24 rfl rfl rfl (Free.zero _) ?_
        intro  w7 h7
        try simp only [List.set_cons_zero, List.set_cons_succ, List.eraseIdx_cons_zero, List.eraseIdx_cons_succ] at h7
        refine WL.v (Runs.assign rfl) rfl ?_
        refine WL.nil ?_
        refine WN.thn ?_
        refine WC.seq ?_
        refine WC.reg ?_
        refine WL.v (Runs.move rfl) rfl ?_
        refine WL.v (Runs.boolT (c := true) (Runs.eql rfl rfl) rfl) rfl ?_
        refine WL.v (Runs.move rfl) rfl ?_
        refine WL.gon rfl rfl rfl ?_
        refine WL.v (Runs.move rfl) rfl ?_
        refine WL.gon rfl rfl rfl ?_
        refine WL.v (Runs.loadAll h7 0 rfl Try.underlying24 rfl inf24 rfl rfl) rfl ?_
        refine WL.gon rfl rfl rfl ?_
        refine WL.call can19 rfl rfl (sign_c (c := c) _ k (by omega) h7 rdb (by omega)) ?_
        rintro _ w8 ⟨rfl, h8⟩
        refine ⟨_, rfl, ?_⟩
        refine WL.gon rfl rfl rfl ?_
        refine WL.v (Runs.move rfl) rfl ?_
        refine WL.gon rfl rfl rfl ?_
        refine WL.v (Runs.boolT (c := true) (Runs.lseql rfl rfl) (decide_eq_true rfl)) rfl ?_
        refine WL.v (Runs.pick rfl rfl rfl) rfl ?_
        refine WL.v (Runs.move rfl) rfl ?_
        refine WL.gon rfl rfl rfl ?_
        refine WL.call can9 rfl rfl (live_c _ h8) ?_
        rintro _ w9 ⟨rfl, h9⟩
        refine ⟨_, rfl, ?_⟩
        refine WL.v (Runs.pick rfl rfl rfl) rfl ?_
        refine WL.v (Runs.assign rfl) rfl ?_
        refine WL.nil ?_
        refine WN.thn ?_
        refine WC.ret ?_
        exact ret1 rfl rfl ⟨rfl, (((h9.drop 0).drop 0)).weak hle⟩
      · skip
        refine WC.reg ?_
        refine WL.v (Runs.move rfl) rfl ?_
        refine WL.v (Runs.boolT (c := true) (Runs.geq rfl rfl) (by rw [decide_eq_true_eq]; omega)) rfl ?_
        refine WL.v (Runs.move rfl) rfl ?_
        refine WL.gon rfl rfl rfl ?_
        refine WL.v (Runs.move rfl) rfl ?_
        refine WL.gon rfl rfl rfl ?_
        refine WL.v (Runs.boolT (c := true) (Runs.lss rfl rfl) (by rw [decide_eq_true_eq]; omega)) rfl ?_
        refine WL.v (Runs.pick rfl rfl rfl) rfl ?_
        refine WL.nil ?_
        refine WN.thn ?_
        refine WC.condT rfl (rfl) ?_
        refine WC.seq ?_
        refine WC.reg ?_
        refine WL.v (Runs.move rfl) rfl ?_
        refine WL.v (Runs.move rfl) rfl ?_
        refine WL.v (Runs.move rfl) rfl ?_
        refine WL.v (Runs.lssl_hi (m := j.toNat) rfl rfl rfl (by omega) (by rw [signM_len hok]; omega)) rfl ?_
        refine WL.call can17 rfl rfl ((Op.to (openM_cut (by rw [List.length_take]; omega)) (open_c _ k ((signM k c).take j.toNat) h4 (by omega) (by rw [List.length_take]; omega)))) ?_
        rintro _ w10 ⟨Ga, Aa, capa, hGa, rfl, rda, h10⟩
        refine ⟨_, rfl, ?_⟩
        replace hR := hR.mono hGa
        replace hle := Le.trans hle hGa
        refine WL.v (Runs.move rfl) rfl ?_
        refine WL.v (Runs.extract rfl rfl) rfl ?_
        refine WL.v (Runs.extract rfl rfl) rfl ?_
        refine WL.alloc' rfl h10 inf24 ?_
        intro b8 w11 h11
        refine WL.storeAll h11 0 rfl rfl rfl inf24 rfl rfl rfl (Free.zero _) ?_
        intro  w12 h12
        try simp only [List.set_cons_zero, List.set_cons_succ, List.eraseIdx_cons_zero, List.eraseIdx_cons_succ] at h12
        refine WL.v (Runs.assign rfl) rfl ?_
        refine WL.nil ?_
        refine WN.thn ?_
        refine WC.seq ?_
        refine WC.reg ?_
        refine WL.v (Runs.move rfl) rfl ?_
        refine WL.v (Runs.boolT (c := false) (Runs.neq rfl rfl) rfl) rfl ?_
        refine WL.nil ?_
        refine WN.thn ?_
        refine WC.condF rfl (rfl) ?_
        refine WC.skip ?_
        refine WN.thn ?_
        refine WC.seq ?_
        refine WC.reg ?_
        refine WL.v (Runs.move rfl) rfl ?_
        refine WL.v (Runs.move rfl) rfl ?_
        refine WL.call can17 rfl rfl ((Op.to (openM_sign hok) (open_c _ k (signM k c) h12 (by omega) (by rw [signM_len hok]; have := encC_len (c := c); omega)))) ?_
        rintro _ w13 ⟨Gb, Ab, capb, hGb, rfl, rdb, h13⟩
        refine ⟨_, rfl, ?_⟩
        replace hR := hR.mono hGb
        replace rda := rda.mono hGb
        replace hle := Le.trans hle hGb
        refine WL.v (Runs.move rfl) rfl ?_
        refine WL.v (Runs.extract rfl rfl) rfl ?_
        refine WL.v (Runs.extract rfl rfl) rfl ?_
        refine WL.alloc' rfl h13 inf24 ?_
        intro b10 w14 h14
        refine WL.storeAll h14 0 rfl rfl rfl inf24 rfl rfl rfl (Free.zero _) ?_
        intro  w15 h15
        try simp only [List.set_cons_zero, List.set_cons_succ, List.eraseIdx_cons_zero, List.eraseIdx_cons_succ] at h15
        refine WL.v (Runs.assign rfl) rfl ?_
        refine WL.nil ?_
        refine WN.thn ?_
        refine WC.seq ?_
        refine WC.reg ?_
        refine WL.v (Runs.move rfl) rfl ?_
        refine WL.v (Runs.boolT (c := true) (Runs.eql rfl rfl) rfl) rfl ?_
        refine WL.v (Runs.move rfl) rfl ?_
        refine WL.gon rfl rfl rfl ?_
        refine WL.v (Runs.move rfl) rfl ?_
        refine WL.gon rfl rfl rfl ?_
        refine WL.v (Runs.loadAll h15 0 rfl Try.underlying24 rfl inf24 rfl rfl) rfl ?_
        refine WL.gon rfl rfl rfl ?_
        refine WL.call can19 rfl rfl (sign_c (c := c) _ k (by omega) h15 rdb (by omega)) ?_
        rintro _ w16 ⟨rfl, h16⟩
        refine ⟨_, rfl, ?_⟩
        refine WL.gon rfl rfl rfl ?_
        refine WL.v (Runs.move rfl) rfl ?_
        refine WL.gon rfl rfl rfl ?_
        refine WL.v (Runs.boolT (c := true) (Runs.lseql rfl rfl) (decide_eq_true rfl)) rfl ?_
        refine WL.v (Runs.pick rfl rfl rfl) rfl ?_
        refine WL.v (Runs.move rfl) rfl ?_
        refine WL.gon rfl rfl rfl ?_
        refine WL.call can9 rfl rfl (live_c _ h16) ?_
        rintro _ w17 ⟨rfl, h17⟩
        refine ⟨_, rfl, ?_⟩
        refine WL.v (Runs.pick rfl rfl rfl) rfl ?_
        refine WL.v (Runs.assign rfl) rfl ?_
        refine WL.nil ?_
        refine WN.thn ?_
        refine WC.ret ?_
        exact ret1 rfl rfl ⟨rfl, ((((h17.drop 0).drop 0).drop 0)).weak hle⟩
      · skip
        refine WC.reg ?_
        refine WL.v (Runs.move rfl) rfl ?_
        refine WL.v (Runs.boolT (c := true) (Runs.geq rfl rfl) (by rw [decide_eq_true_eq]; omega)) rfl ?_
        refine WL.v (Runs.move rfl) rfl ?_
        refine WL.gon rfl rfl rfl ?_
        refine WL.v (Runs.move rfl) rfl ?_
        refine WL.gon rfl rfl rfl ?_
        refine WL.v (Runs.boolT (c := false) (Runs.lss rfl rfl) (by rw [decide_eq_false_iff_not]; omega)) rfl ?_
        refine WL.v (Runs.pick rfl rfl rfl) rfl ?_
        refine WL.nil ?_
        refine WN.thn ?_
        refine WC.condF rfl (rfl) ?_
        refine WC.skip ?_
        refine WN.thn ?_
        refine WC.seq ?_
        refine WC.reg ?_
        refine WL.v (Runs.move rfl) rfl ?_
        refine WL.v (Runs.move rfl) rfl ?_
        refine WL.call can17 rfl rfl ((Op.to (openM_sign hok) (open_c _ k (signM k c) h4 (by omega) (by rw [signM_len hok]; have := encC_len (c := c); omega)))) ?_
        rintro _ w18 ⟨Gb, Ab, capb, hGb, rfl, rdb, h18⟩
        refine ⟨_, rfl, ?_⟩
        replace hR := hR.mono hGb
        replace hle := Le.trans hle hGb
        refine WL.v (Runs.move rfl) rfl ?_
        refine WL.v (Runs.extract rfl rfl) rfl ?_
        refine WL.v (Runs.extract rfl rfl) rfl ?_
        refine WL.alloc' rfl h18 inf24 ?_
        intro b10 w19 h19
        refine WL.storeAll h19 0 rfl rfl rfl inf24 rfl rfl rfl (Free.zero _) ?_
        intro  w20 h20
        try simp only [List.set_cons_zero, List.set_cons_succ, List.eraseIdx_cons_zero, List.eraseIdx_cons_succ] at h20
        refine WL.v (Runs.assign rfl) rfl ?_
        refine WL.nil ?_
        refine WN.thn ?_
        refine WC.seq ?_
        refine WC.reg ?_
        refine WL.v (Runs.move rfl) rfl ?_
        refine WL.v (Runs.boolT (c := true) (Runs.eql rfl rfl) rfl) rfl ?_
        refine WL.v (Runs.move rfl) rfl ?_
        refine WL.gon rfl rfl rfl ?_
        refine WL.v (Runs.move rfl) rfl ?_
        refine WL.gon rfl rfl rfl ?_
        refine WL.v (Runs.loadAll h20 0 rfl Try.underlying24 rfl inf24 rfl rfl) rfl ?_
        refine WL.gon rfl rfl rfl ?_
        refine WL.call can19 rfl rfl (sign_c (c := c) _ k (by omega) h20 rdb (by omega)) ?_
        rintro _ w21 ⟨rfl, h21⟩
        refine ⟨_, rfl, ?_⟩
        refine WL.gon rfl rfl rfl ?_
        refine WL.v (Runs.move rfl) rfl ?_
        refine WL.gon rfl rfl rfl ?_
        refine WL.v (Runs.boolT (c := true) (Runs.lseql rfl rfl) (decide_eq_true rfl)) rfl ?_
        refine WL.v (Runs.pick rfl rfl rfl) rfl ?_
        refine WL.v (Runs.move rfl) rfl ?_
        refine WL.gon rfl rfl rfl ?_
        refine WL.call can9 rfl rfl (live_c _ h21) ?_
        rintro _ w22 ⟨rfl, h22⟩
        refine ⟨_, rfl, ?_⟩
        refine WL.v (Runs.pick rfl rfl rfl) rfl ?_
        refine WL.v (Runs.assign rfl) rfl ?_
        refine WL.nil ?_
        refine WN.thn ?_
        refine WC.ret ?_
        exact ret1 rfl rfl ⟨rfl, (((h22.drop 0).drop 0)).weak hle⟩
    · skip
      refine WC.reg ?_
      refine WL.v (Runs.move rfl) rfl ?_
      refine WL.v (Runs.boolT (c := true) (Runs.lseql rfl rfl) (decide_eq_true (signM_e.2 hok))) rfl ?_
      refine WL.nil ?_
      refine WN.thn ?_
      refine WC.condT rfl (rfl) ?_
      refine WC.seq ?_
      refine WC.reg ?_
      refine WL.v (Runs.loadAll h4 0 rfl Try.underlying24 rfl inf24 rfl rfl) rfl ?_
      refine WL.call can12 rfl rfl (check_c _ h4 hR (by omega)) ?_
      rintro _ w23 ⟨rfl, h23⟩
      refine ⟨_, rfl, ?_⟩
      refine WL.v (Runs.boolT (c := true) (Runs.neq rfl rfl) (by rw [show checkM c = 1 from if_neg hok]; rfl)) rfl ?_
      refine WL.v (Runs.move rfl) rfl ?_
      refine WL.gon rfl rfl rfl ?_
      refine WL.call can9 rfl rfl (live_c _ h23) ?_
      rintro _ w24 ⟨rfl, h24⟩
      refine ⟨_, rfl, ?_⟩
      refine WL.v (Runs.pick rfl rfl rfl) rfl ?_
      refine WL.v (Runs.assign rfl) rfl ?_
      refine WL.nil ?_
      refine WN.thn ?_
      refine WC.ret ?_
      exact ret1 rfl rfl ⟨rfl, ((h24.drop 0)).weak hle⟩
set_option maxRecDepth 100000 in
set_option maxHeartbeats 8000000 in
theorem window_law {W : World} {F : Snap} {cs : List Res} (w : World) {A : Option Addr} {cap : Nat} {c : C} (a : Q) (x0 x1 : Int) (h : St W F cs w) (hR : RdS (Kd.one Vi) F A c.nd) (hnl : c.nd.length ≤ 9223372036854775807) : Calls Try.prog 6 #[.agg #[Vi c.jb, Vi c.ep, Vi c.st, Vi c.fr, Vi c.un, .slice A c.nd.length cap, Vi c.co], .agg #[Vi a.jb, Vi a.ep, Vi a.st, Vi a.nd, Vi a.co, Vi a.tm], .agg #[Vi x0, Vi x1]] w fun r w' => r = .returned (.bool true) ∧ St W F cs w'  := by
  refine enter (P := Try.prog) (args := [.agg #[Vi c.jb, Vi c.ep, Vi c.st, Vi c.fr, Vi c.un, .slice A c.nd.length cap, Vi c.co], .agg #[Vi a.jb, Vi a.ep, Vi a.st, Vi a.nd, Vi a.co, Vi a.tm], .agg #[Vi x0, Vi x1]]) Try.func6 rfl rfl rfl ?_
  refine WC.seq ?_
  refine WC.reg ?_
  refine WL.box rfl h rfl ?_
  intro b3 w1 h1
  refine WL.box rfl h1 rfl ?_
  intro b4 w2 h2
  refine WL.box rfl h2 rfl ?_
  intro b5 w3 h3
  refine WL.v (Runs.assign rfl) rfl ?_
  refine WL.nil ?_
  refine WN.thn ?_
  refine WC.seq ?_
  refine WC.seq ?_
  rcases winCase c.nd.length x0 x1 a.tm with g1 | ⟨g1, g2⟩ | ⟨g1, g2, g3⟩ | ⟨g1, g2, g3⟩
  · skip
    refine WC.reg ?_
    refine WL.v (Runs.fld fld24_5 rfl) rfl ?_
    refine WL.v (Runs.load1 Try.underlying22 rfl rfl (h3.ocell (i := 2) rfl rfl)) rfl ?_
    refine WL.v (Runs.intT (n := (c.nd.length : Int)) (Runs.llen Try.underlying22 rfl rfl) rfl) rfl ?_
    refine WL.v (Runs.boolT (c := true) (Runs.gtr rfl rfl) (by rw [decide_eq_true_eq]; omega)) rfl ?_
    refine WL.v (Runs.move rfl) rfl ?_
    refine WL.goff rfl rfl rfl rfl ?_
    refine WL.goff rfl rfl rfl rfl ?_
    refine WL.goff rfl rfl rfl rfl ?_
    refine WL.goff rfl rfl rfl rfl ?_
    refine WL.goff rfl rfl rfl rfl ?_
    refine WL.v (Runs.pick rfl rfl rfl) rfl ?_
    refine WL.v (Runs.move rfl) rfl ?_
    refine WL.goff rfl rfl rfl rfl ?_
    refine WL.goff rfl rfl rfl rfl ?_
    refine WL.goff rfl rfl rfl rfl ?_
    refine WL.goff rfl rfl rfl rfl ?_
    refine WL.goff rfl rfl rfl rfl ?_
    refine WL.v (Runs.pick rfl rfl rfl) rfl ?_
    refine WL.nil ?_
    refine WN.thn ?_
    refine WC.condT rfl (rfl) ?_
    refine WC.seq ?_
    refine WC.reg ?_
    refine WL.call can9 rfl rfl (live_c _ h3) ?_
    rintro _ w4 ⟨rfl, h4⟩
    refine ⟨_, rfl, ?_⟩
    refine WL.v (Runs.assign rfl) rfl ?_
    refine WL.nil ?_
    refine WN.thn ?_
    refine WC.ret ?_
    exact ret1 rfl rfl ⟨rfl, (((h4.drop 0).drop 0).drop 0)⟩
  · skip
    refine WC.reg ?_
    refine WL.v (Runs.fld fld24_5 rfl) rfl ?_
    refine WL.v (Runs.load1 Try.underlying22 rfl rfl (h3.ocell (i := 2) rfl rfl)) rfl ?_
    refine WL.v (Runs.intT (n := (c.nd.length : Int)) (Runs.llen Try.underlying22 rfl rfl) rfl) rfl ?_
    refine WL.v (Runs.boolT (c := false) (Runs.gtr rfl rfl) (by rw [decide_eq_false_iff_not]; omega)) rfl ?_
    refine WL.v (Runs.move rfl) rfl ?_
    refine WL.gon rfl rfl rfl ?_
    refine WL.v (Runs.valT (u := .pointer (some ⟨b5, 0, none⟩)) (Runs.aidx Try.underlying43 inf3 rfl rfl (by decide)) rfl) rfl ?_
    refine WL.gon rfl rfl rfl ?_
    refine WL.v (Runs.load1 Try.underlying3 rfl rfl (h3.ocell (i := 0) rfl rfl)) rfl ?_
    refine WL.gon rfl rfl rfl ?_
    refine WL.v (Runs.fld fld37_5 rfl) rfl ?_
    refine WL.gon rfl rfl rfl ?_
    refine WL.v (Runs.load1 Try.underlying3 rfl rfl (h3.ocell (i := 1) rfl rfl)) rfl ?_
    refine WL.gon rfl rfl rfl ?_
    refine WL.v (Runs.boolT (c := true) (Runs.lss rfl rfl) (by rw [decide_eq_true_eq]; omega)) rfl ?_
    refine WL.v (Runs.pick rfl rfl rfl) rfl ?_
    refine WL.v (Runs.move rfl) rfl ?_
    refine WL.goff rfl rfl rfl rfl ?_
    refine WL.goff rfl rfl rfl rfl ?_
    refine WL.goff rfl rfl rfl rfl ?_
    refine WL.goff rfl rfl rfl rfl ?_
    refine WL.goff rfl rfl rfl rfl ?_
    refine WL.v (Runs.pick rfl rfl rfl) rfl ?_
    refine WL.nil ?_
    refine WN.thn ?_
    refine WC.condT rfl (rfl) ?_
    refine WC.seq ?_
    refine WC.reg ?_
    refine WL.call can9 rfl rfl (live_c _ h3) ?_
    rintro _ w5 ⟨rfl, h5⟩
    refine ⟨_, rfl, ?_⟩
    refine WL.v (Runs.assign rfl) rfl ?_
    refine WL.nil ?_
    refine WN.thn ?_
    refine WC.ret ?_
    exact ret1 rfl rfl ⟨rfl, (((h5.drop 0).drop 0).drop 0)⟩
  · skip
    refine WC.reg ?_
    refine WL.v (Runs.fld fld24_5 rfl) rfl ?_
    refine WL.v (Runs.load1 Try.underlying22 rfl rfl (h3.ocell (i := 2) rfl rfl)) rfl ?_
    refine WL.v (Runs.intT (n := (c.nd.length : Int)) (Runs.llen Try.underlying22 rfl rfl) rfl) rfl ?_
    refine WL.v (Runs.boolT (c := false) (Runs.gtr rfl rfl) (by rw [decide_eq_false_iff_not]; omega)) rfl ?_
    refine WL.v (Runs.move rfl) rfl ?_
    refine WL.gon rfl rfl rfl ?_
    refine WL.v (Runs.valT (u := .pointer (some ⟨b5, 0, none⟩)) (Runs.aidx Try.underlying43 inf3 rfl rfl (by decide)) rfl) rfl ?_
    refine WL.gon rfl rfl rfl ?_
    refine WL.v (Runs.load1 Try.underlying3 rfl rfl (h3.ocell (i := 0) rfl rfl)) rfl ?_
    refine WL.gon rfl rfl rfl ?_
    refine WL.v (Runs.fld fld37_5 rfl) rfl ?_
    refine WL.gon rfl rfl rfl ?_
    refine WL.v (Runs.load1 Try.underlying3 rfl rfl (h3.ocell (i := 1) rfl rfl)) rfl ?_
    refine WL.gon rfl rfl rfl ?_
    refine WL.v (Runs.boolT (c := false) (Runs.lss rfl rfl) (by rw [decide_eq_false_iff_not]; omega)) rfl ?_
    refine WL.v (Runs.pick rfl rfl rfl) rfl ?_
    refine WL.v (Runs.move rfl) rfl ?_
    refine WL.gon rfl rfl rfl ?_
    refine WL.v (Runs.valT (u := .pointer (some ⟨b5, 1, none⟩)) (Runs.aidx Try.underlying43 inf3 rfl rfl (by decide)) rfl) rfl ?_
    refine WL.gon rfl rfl rfl ?_
    refine WL.v (Runs.load1 Try.underlying3 rfl rfl (h3.ocell (i := 0) rfl rfl)) rfl ?_
    refine WL.gon rfl rfl rfl ?_
    refine WL.v (Runs.valT (u := .pointer (some ⟨b5, 0, none⟩)) (Runs.aidx Try.underlying43 inf3 rfl rfl (by decide)) rfl) rfl ?_
    refine WL.gon rfl rfl rfl ?_
    refine WL.v (Runs.load1 Try.underlying3 rfl rfl (h3.ocell (i := 0) rfl rfl)) rfl ?_
    refine WL.gon rfl rfl rfl ?_
    refine WL.v (Runs.boolT (c := true) (Runs.lss rfl rfl) (by rw [decide_eq_true_eq]; omega)) rfl ?_
    refine WL.v (Runs.pick rfl rfl rfl) rfl ?_
    refine WL.nil ?_
    refine WN.thn ?_
    refine WC.condT rfl (rfl) ?_
    refine WC.seq ?_
    refine WC.reg ?_
    refine WL.call can9 rfl rfl (live_c _ h3) ?_
    rintro _ w6 ⟨rfl, h6⟩
    refine ⟨_, rfl, ?_⟩
    refine WL.v (Runs.assign rfl) rfl ?_
    refine WL.nil ?_
    refine WN.thn ?_
    refine WC.ret ?_
    exact ret1 rfl rfl ⟨rfl, (((h6.drop 0).drop 0).drop 0)⟩
  · skip
    refine WC.reg ?_
    refine WL.v (Runs.fld fld24_5 rfl) rfl ?_
    refine WL.v (Runs.load1 Try.underlying22 rfl rfl (h3.ocell (i := 2) rfl rfl)) rfl ?_
    refine WL.v (Runs.intT (n := (c.nd.length : Int)) (Runs.llen Try.underlying22 rfl rfl) rfl) rfl ?_
    refine WL.v (Runs.boolT (c := false) (Runs.gtr rfl rfl) (by rw [decide_eq_false_iff_not]; omega)) rfl ?_
    refine WL.v (Runs.move rfl) rfl ?_
    refine WL.gon rfl rfl rfl ?_
    refine WL.v (Runs.valT (u := .pointer (some ⟨b5, 0, none⟩)) (Runs.aidx Try.underlying43 inf3 rfl rfl (by decide)) rfl) rfl ?_
    refine WL.gon rfl rfl rfl ?_
    refine WL.v (Runs.load1 Try.underlying3 rfl rfl (h3.ocell (i := 0) rfl rfl)) rfl ?_
    refine WL.gon rfl rfl rfl ?_
    refine WL.v (Runs.fld fld37_5 rfl) rfl ?_
    refine WL.gon rfl rfl rfl ?_
    refine WL.v (Runs.load1 Try.underlying3 rfl rfl (h3.ocell (i := 1) rfl rfl)) rfl ?_
    refine WL.gon rfl rfl rfl ?_
    refine WL.v (Runs.boolT (c := false) (Runs.lss rfl rfl) (by rw [decide_eq_false_iff_not]; omega)) rfl ?_
    refine WL.v (Runs.pick rfl rfl rfl) rfl ?_
    refine WL.v (Runs.move rfl) rfl ?_
    refine WL.gon rfl rfl rfl ?_
    refine WL.v (Runs.valT (u := .pointer (some ⟨b5, 1, none⟩)) (Runs.aidx Try.underlying43 inf3 rfl rfl (by decide)) rfl) rfl ?_
    refine WL.gon rfl rfl rfl ?_
    refine WL.v (Runs.load1 Try.underlying3 rfl rfl (h3.ocell (i := 0) rfl rfl)) rfl ?_
    refine WL.gon rfl rfl rfl ?_
    refine WL.v (Runs.valT (u := .pointer (some ⟨b5, 0, none⟩)) (Runs.aidx Try.underlying43 inf3 rfl rfl (by decide)) rfl) rfl ?_
    refine WL.gon rfl rfl rfl ?_
    refine WL.v (Runs.load1 Try.underlying3 rfl rfl (h3.ocell (i := 0) rfl rfl)) rfl ?_
    refine WL.gon rfl rfl rfl ?_
    refine WL.v (Runs.boolT (c := false) (Runs.lss rfl rfl) (by rw [decide_eq_false_iff_not]; omega)) rfl ?_
    refine WL.v (Runs.pick rfl rfl rfl) rfl ?_
    refine WL.nil ?_
    refine WN.thn ?_
    refine WC.condF rfl (rfl) ?_
    refine WC.skip ?_
    refine WN.thn ?_
    refine WC.seq ?_
    refine WC.reg ?_
    refine WL.v (Runs.loadAll h3 1 rfl Try.underlying37 rfl inf37 rfl rfl) rfl ?_
    refine WL.call can22 rfl rfl (own_c _ a h3) ?_
    rintro _ w7 ⟨rfl, h7⟩
    refine ⟨_, rfl, ?_⟩
    refine WL.alloc' rfl h7 inf39 ?_
    intro b7 w8 h8
    refine WL.storeAll h8 0 rfl rfl rfl inf39 rfl rfl rfl (Free.zero _) ?_
    intro  w9 h9
    try simp only [List.set_cons_zero, List.set_cons_succ, List.eraseIdx_cons_zero, List.eraseIdx_cons_succ] at h9
    refine WL.nil ?_
    refine WN.thn ?_
    refine WC.seq ?_
    refine WC.reg ?_
    refine WL.v (Runs.loadAll h9 0 rfl Try.underlying39 rfl inf39 rfl rfl) rfl ?_
    refine WL.alloc' rfl h9 inf39 ?_
    intro b8 w10 h10
    refine WL.storeAll h10 0 rfl rfl rfl inf39 rfl rfl rfl (Free.zero _) ?_
    intro  w11 h11
    try simp only [List.set_cons_zero, List.set_cons_succ, List.eraseIdx_cons_zero, List.eraseIdx_cons_succ] at h11
    refine WL.nil ?_
    refine WN.thn ?_
    refine WC.seq ?_
    refine WC.reg ?_
    refine WL.v (Runs.valT (u := .pointer (some ⟨b5, 1, none⟩)) (Runs.aidx Try.underlying43 inf3 rfl rfl (by decide)) rfl) rfl ?_
    refine WL.v (Runs.load1 Try.underlying3 rfl rfl (h11.ocell (i := 2) rfl rfl)) rfl ?_
    refine WL.v (Runs.fld fld39_5 rfl) rfl ?_
    refine WL.store' h11 0 rfl rfl rfl inf3 rfl rfl (Free.zero _) (Nat.le_of_ble_eq_true rfl) ?_
    intro  w12 h12
    try simp only [List.set_cons_zero, List.set_cons_succ, List.eraseIdx_cons_zero, List.eraseIdx_cons_succ] at h12
    replace h12 : St W F ([(b8, .cells #[Vi a.jb, Vi a.ep, Vi a.st, Vi a.nd, Vi (a.co), Vi (x1)] 39 (0, 0))] :: [(b7, .cells #[Vi a.jb, Vi a.ep, Vi a.st, Vi a.nd, Vi (a.co), Vi (a.tm)] 39 (0, 0))] :: [(b5, .cells #[Vi x0, Vi x1] 43 (0, 0))] :: [(b4, .cells #[Vi a.jb, Vi a.ep, Vi a.st, Vi a.nd, Vi a.co, Vi a.tm] 37 (0, 0))] :: [(b3, .cells #[Vi c.jb, Vi c.ep, Vi c.st, Vi c.fr, Vi c.un, .slice A c.nd.length cap, Vi c.co] 24 (0, 0))] :: cs) w12 := h12
    refine WL.nil ?_
    refine WN.thn ?_
    refine WC.seq ?_
    refine WC.seq ?_
    rcases twoCase (allowsM c a = 0) (allowsM c ⟨a.jb, a.ep, a.st, a.nd, a.co, x1⟩ = 0) with y0 | ⟨y0, y1⟩ | ⟨y0, y1⟩
    · skip
      refine WC.reg ?_
      refine WL.v (Runs.loadAll h12 4 rfl Try.underlying24 rfl inf24 rfl rfl) rfl ?_
      refine WL.v (Runs.loadAll h12 1 rfl Try.underlying39 rfl inf39 rfl rfl) rfl ?_
      refine WL.call can21 rfl rfl (allows_c _ a h12 hR (by omega)) ?_
      rintro _ w13 ⟨rfl, h13⟩
      refine ⟨_, rfl, ?_⟩
      refine WL.v (Runs.boolT (c := true) (Runs.neq rfl rfl) (by rw [decide_eq_false y0]; rfl)) rfl ?_
      refine WL.v (Runs.move rfl) rfl ?_
      refine WL.goff rfl rfl rfl rfl ?_
      refine WL.goff rfl rfl rfl rfl ?_
      refine WL.goff rfl rfl rfl rfl ?_
      refine WL.goff rfl rfl rfl rfl ?_
      refine WL.v (Runs.pick rfl rfl rfl) rfl ?_
      refine WL.nil ?_
      refine WN.thn ?_
      refine WC.condT rfl (rfl) ?_
      refine WC.seq ?_
      refine WC.reg ?_
      refine WL.call can9 rfl rfl (live_c _ h13) ?_
      rintro _ w14 ⟨rfl, h14⟩
      refine ⟨_, rfl, ?_⟩
      refine WL.v (Runs.assign rfl) rfl ?_
      refine WL.nil ?_
      refine WN.thn ?_
      refine WC.ret ?_
      exact ret1 rfl rfl ⟨rfl, (((((h14.drop 0).drop 0).drop 0).drop 0).drop 0)⟩
    · skip
      refine WC.reg ?_
      refine WL.v (Runs.loadAll h12 4 rfl Try.underlying24 rfl inf24 rfl rfl) rfl ?_
      refine WL.v (Runs.loadAll h12 1 rfl Try.underlying39 rfl inf39 rfl rfl) rfl ?_
      refine WL.call can21 rfl rfl (allows_c _ a h12 hR (by omega)) ?_
      rintro _ w15 ⟨rfl, h15⟩
      refine ⟨_, rfl, ?_⟩
      refine WL.v (Runs.boolT (c := false) (Runs.neq rfl rfl) (by rw [decide_eq_true y0]; rfl)) rfl ?_
      refine WL.v (Runs.move rfl) rfl ?_
      refine WL.gon rfl rfl rfl ?_
      refine WL.v (Runs.loadAll h15 4 rfl Try.underlying24 rfl inf24 rfl rfl) rfl ?_
      refine WL.gon rfl rfl rfl ?_
      refine WL.v (Runs.loadAll h15 0 rfl Try.underlying39 rfl inf39 rfl rfl) rfl ?_
      refine WL.gon rfl rfl rfl ?_
      refine WL.call can21 rfl rfl (allows_c _ ⟨a.jb, a.ep, a.st, a.nd, a.co, x1⟩ h15 hR (by omega)) ?_
      rintro _ w16 ⟨rfl, h16⟩
      refine ⟨_, rfl, ?_⟩
      refine WL.gon rfl rfl rfl ?_
      refine WL.v (Runs.boolT (c := true) (Runs.neq rfl rfl) (by rw [decide_eq_false y1]; rfl)) rfl ?_
      refine WL.v (Runs.pick rfl rfl rfl) rfl ?_
      refine WL.nil ?_
      refine WN.thn ?_
      refine WC.condT rfl (rfl) ?_
      refine WC.seq ?_
      refine WC.reg ?_
      refine WL.call can9 rfl rfl (live_c _ h16) ?_
      rintro _ w17 ⟨rfl, h17⟩
      refine ⟨_, rfl, ?_⟩
      refine WL.v (Runs.assign rfl) rfl ?_
      refine WL.nil ?_
      refine WN.thn ?_
      refine WC.ret ?_
      exact ret1 rfl rfl ⟨rfl, (((((h17.drop 0).drop 0).drop 0).drop 0).drop 0)⟩
    · skip
      refine WC.reg ?_
      refine WL.v (Runs.loadAll h12 4 rfl Try.underlying24 rfl inf24 rfl rfl) rfl ?_
      refine WL.v (Runs.loadAll h12 1 rfl Try.underlying39 rfl inf39 rfl rfl) rfl ?_
      refine WL.call can21 rfl rfl (allows_c _ a h12 hR (by omega)) ?_
      rintro _ w18 ⟨rfl, h18⟩
      refine ⟨_, rfl, ?_⟩
      refine WL.v (Runs.boolT (c := false) (Runs.neq rfl rfl) (by rw [decide_eq_true y0]; rfl)) rfl ?_
      refine WL.v (Runs.move rfl) rfl ?_
      refine WL.gon rfl rfl rfl ?_
      refine WL.v (Runs.loadAll h18 4 rfl Try.underlying24 rfl inf24 rfl rfl) rfl ?_
      refine WL.gon rfl rfl rfl ?_
      refine WL.v (Runs.loadAll h18 0 rfl Try.underlying39 rfl inf39 rfl rfl) rfl ?_
      refine WL.gon rfl rfl rfl ?_
      refine WL.call can21 rfl rfl (allows_c _ ⟨a.jb, a.ep, a.st, a.nd, a.co, x1⟩ h18 hR (by omega)) ?_
      rintro _ w19 ⟨rfl, h19⟩
      refine ⟨_, rfl, ?_⟩
      refine WL.gon rfl rfl rfl ?_
      refine WL.v (Runs.boolT (c := false) (Runs.neq rfl rfl) (by rw [decide_eq_true y1]; rfl)) rfl ?_
      refine WL.v (Runs.pick rfl rfl rfl) rfl ?_
      refine WL.nil ?_
      refine WN.thn ?_
      refine WC.condF rfl (rfl) ?_
      refine WC.skip ?_
      refine WN.thn ?_
      refine WC.seq ?_
      refine WC.reg ?_
      refine WL.v (Runs.loadAll h19 1 rfl Try.underlying39 rfl inf39 rfl rfl) rfl ?_
      refine WL.alloc' rfl h19 inf39 ?_
      intro b9 w20 h20
      refine WL.storeAll h20 0 rfl rfl rfl inf39 rfl rfl rfl (Free.zero _) ?_
      intro  w21 h21
      try simp only [List.set_cons_zero, List.set_cons_succ, List.eraseIdx_cons_zero, List.eraseIdx_cons_succ] at h21
      refine WL.nil ?_
      refine WN.thn ?_
      refine WC.seq ?_
      refine WC.reg ?_
      refine WL.v (Runs.valT (u := .pointer (some ⟨b5, 0, none⟩)) (Runs.aidx Try.underlying43 inf3 rfl rfl (by decide)) rfl) rfl ?_
      refine WL.v (Runs.load1 Try.underlying3 rfl rfl (h21.ocell (i := 3) rfl rfl)) rfl ?_
      refine WL.v (Runs.fld fld39_5 rfl) rfl ?_
      refine WL.store' h21 0 rfl rfl rfl inf3 rfl rfl (Free.zero _) (Nat.le_of_ble_eq_true rfl) ?_
      intro  w22 h22
      try simp only [List.set_cons_zero, List.set_cons_succ, List.eraseIdx_cons_zero, List.eraseIdx_cons_succ] at h22
      replace h22 : St W F ([(b9, .cells #[Vi a.jb, Vi a.ep, Vi a.st, Vi a.nd, Vi (a.co), Vi (x0)] 39 (0, 0))] :: [(b8, .cells #[Vi a.jb, Vi a.ep, Vi a.st, Vi a.nd, Vi (a.co), Vi (x1)] 39 (0, 0))] :: [(b7, .cells #[Vi a.jb, Vi a.ep, Vi a.st, Vi a.nd, Vi (a.co), Vi (a.tm)] 39 (0, 0))] :: [(b5, .cells #[Vi x0, Vi x1] 43 (0, 0))] :: [(b4, .cells #[Vi a.jb, Vi a.ep, Vi a.st, Vi a.nd, Vi a.co, Vi a.tm] 37 (0, 0))] :: [(b3, .cells #[Vi c.jb, Vi c.ep, Vi c.st, Vi c.fr, Vi c.un, .slice A c.nd.length cap, Vi c.co] 24 (0, 0))] :: cs) w22 := h22
      refine WL.nil ?_
      refine WN.thn ?_
      refine WC.seq ?_
      refine WC.reg ?_
      refine WL.v (Runs.fld fld39_4 rfl) rfl ?_
      refine WL.store' h22 0 rfl rfl rfl inf3 rfl rfl (Free.zero _) (Nat.le_of_ble_eq_true rfl) ?_
      intro  w23 h23
      try simp only [List.set_cons_zero, List.set_cons_succ, List.eraseIdx_cons_zero, List.eraseIdx_cons_succ] at h23
      replace h23 : St W F ([(b9, .cells #[Vi a.jb, Vi a.ep, Vi a.st, Vi a.nd, Vi (1), Vi (x0)] 39 (0, 0))] :: [(b8, .cells #[Vi a.jb, Vi a.ep, Vi a.st, Vi a.nd, Vi (a.co), Vi (x1)] 39 (0, 0))] :: [(b7, .cells #[Vi a.jb, Vi a.ep, Vi a.st, Vi a.nd, Vi (a.co), Vi (a.tm)] 39 (0, 0))] :: [(b5, .cells #[Vi x0, Vi x1] 43 (0, 0))] :: [(b4, .cells #[Vi a.jb, Vi a.ep, Vi a.st, Vi a.nd, Vi a.co, Vi a.tm] 37 (0, 0))] :: [(b3, .cells #[Vi c.jb, Vi c.ep, Vi c.st, Vi c.fr, Vi c.un, .slice A c.nd.length cap, Vi c.co] 24 (0, 0))] :: cs) w23 := h23
      refine WL.nil ?_
      refine WN.thn ?_
      refine WC.seq ?_
      refine WC.reg ?_
      refine WL.v (Runs.loadAll h23 5 rfl Try.underlying24 rfl inf24 rfl rfl) rfl ?_
      refine WL.v (Runs.loadAll h23 0 rfl Try.underlying39 rfl inf39 rfl rfl) rfl ?_
      refine WL.call can21 rfl rfl (allows_c _ ⟨a.jb, a.ep, a.st, a.nd, 1, x0⟩ h23 hR (by omega)) ?_
      rintro _ w24 ⟨rfl, h24⟩
      refine ⟨_, rfl, ?_⟩
      refine WL.v (Runs.boolT (c := true) (Runs.eql rfl rfl) (decide_eq_true (al_win y0 y1 (by omega) (by omega)))) rfl ?_
      refine WL.v (Runs.move rfl) rfl ?_
      refine WL.gon rfl rfl rfl ?_
      refine WL.call can9 rfl rfl (live_c _ h24) ?_
      rintro _ w25 ⟨rfl, h25⟩
      refine ⟨_, rfl, ?_⟩
      refine WL.v (Runs.pick rfl rfl rfl) rfl ?_
      refine WL.v (Runs.assign rfl) rfl ?_
      refine WL.nil ?_
      refine WN.thn ?_
      refine WC.ret ?_
      exact ret1 rfl rfl ⟨rfl, ((((((h25.drop 0).drop 0).drop 0).drop 0).drop 0).drop 0)⟩
end Cr
end Go.Proofs.Ytbkfjedecepfoaa
