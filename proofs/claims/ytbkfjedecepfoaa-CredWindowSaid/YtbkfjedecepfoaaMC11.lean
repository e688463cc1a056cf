/- The laws CredTells, CredSigned, CredAllows. -/
import Derived.Test.YtbkfjedecepfoaaMC10
namespace Go.Proofs.Ytbkfjedecepfoaa
open Go Go.RowKit B
set_option linter.unusedVariables false
set_option linter.unusedSimpArgs false
namespace Cr
open Wir (numN okL rdn cerr rerr rval rnx Vi mayN numB listB rdN rdL rdEnd)

theorem inf37 : Inf Try.prog 37 (.agg #[.int .i64 0, .int .i64 0, .int .i64 0, .int .i64 0, .int .i64 0, .int .i64 0]) 6 48 := by unfold Inf; kernel_rfl
theorem can9 : B.Can Try.prog 9 := ⟨_, Try.func9, by kernel_rfl, rfl⟩   -- roundhouse/roundhouselaw06.live
theorem can18 : B.Can Try.prog 18 := ⟨_, Try.func18, by kernel_rfl, rfl⟩   -- roundhouse/roundhouseref06.Open
theorem can20 : B.Can Try.prog 20 := ⟨_, Try.func20, by kernel_rfl, rfl⟩   -- roundhouse/roundhouseref06.Sign
theorem can22 : B.Can Try.prog 22 := ⟨_, Try.func22, by kernel_rfl, rfl⟩   -- roundhouse/roundhouselaw06.own
theorem can23 : B.Can Try.prog 23 := ⟨_, Try.func23, by kernel_rfl, rfl⟩   -- roundhouse/roundhouseref06.Allows
theorem six_ {α : Type} {l : List α} {a0 a1 a2 a3 a4 a5 : α} (hl : l.length = 6) (h0 : l[0]? = some a0) (h1 : l[1]? = some a1) (h2 : l[2]? = some a2) (h3 : l[3]? = some a3) (h4 : l[4]? = some a4) (h5 : l[5]? = some a5) : l = [a0, a1, a2, a3, a4, a5] := list_eq hl fun j hj => by
  have : j = 0 ∨ j = 1 ∨ j = 2 ∨ j = 3 ∨ j = 4 ∨ j = 5 := by simp at hj; omega
  rcases this with rfl | rfl | rfl | rfl | rfl | rfl <;> assumption
theorem seven_ {α : Type} {l : List α} {a0 a1 a2 a3 a4 a5 a6 : α} (hl : l.length = 7) (h0 : l[0]? = some a0) (h1 : l[1]? = some a1) (h2 : l[2]? = some a2) (h3 : l[3]? = some a3) (h4 : l[4]? = some a4) (h5 : l[5]? = some a5) (h6 : l[6]? = some a6) : l = [a0, a1, a2, a3, a4, a5, a6] := list_eq hl fun j hj => by
  have : j = 0 ∨ j = 1 ∨ j = 2 ∨ j = 3 ∨ j = 4 ∨ j = 5 ∨ j = 6 := by simp at hj; omega
  rcases this with rfl | rfl | rfl | rfl | rfl | rfl | rfl <;> assumption
def Q.val (a : Q) : Value := .agg #[Vi a.jb, Vi a.ep, Vi a.st, Vi a.nd, Vi a.co, Vi a.tm]
theorem decM_len {l : List UInt8} : (decM l).1.nd.length ≤ 16 := by
  unfold decM
  split
  · exact Nat.zero_le _
  · split
    · rename_i h; exact nodes_len h.2.2.2.2.2.2
    · exact Nat.zero_le _
theorem openM_len {k l : List UInt8} : (openM k l).1.nd.length ≤ 16 := by
  unfold openM
  split
  · exact Nat.zero_le _
  · split
    · exact decM_len
    · exact Nat.zero_le _
theorem big2 (a b : Nat) : 100 < a ∨ (a ≤ 100 ∧ 300 < b) ∨ (a ≤ 100 ∧ b ≤ 300) := by omega
theorem big3 (a b d : Nat) : 100 < a ∨ (a ≤ 100 ∧ 300 < b) ∨ (a ≤ 100 ∧ b ≤ 300 ∧ 100 < d) ∨ (a ≤ 100 ∧ b ≤ 300 ∧ d ≤ 100) := by omega
set_option maxRecDepth 100000 in
set_option maxHeartbeats 8000000 in
theorem tells_law {W : World} {F : Snap} {cs : List Res} (w : World) {A : Option Addr} {cap : Nat} {c : C} (l : List UInt8) (h : St W F cs w) (hR : RdS (Kd.one Vi) F A c.nd) (hnl : c.nd.length ≤ 9223372036854775807) (hll : l.length ≤ 9223372036854775807)  : Calls Try.prog 3 #[.agg #[Vi c.jb, Vi c.ep, Vi c.st, Vi c.fr, Vi c.un, .slice A c.nd.length cap, Vi c.co], .string (bs l)] w fun r w' => r = .returned (.bool true) ∧ St W F cs w'  := by
  refine enter (P := Try.prog) (args := [.agg #[Vi c.jb, Vi c.ep, Vi c.st, Vi c.fr, Vi c.un, .slice A c.nd.length cap, Vi c.co], .string (bs l)]) Try.func3 rfl rfl rfl ?_
  refine WC.seq ?_
  refine WC.reg ?_
  refine WL.box rfl h rfl ?_
  intro b2 w1 h1
  refine WL.v (Runs.assign rfl) rfl ?_
  refine WL.nil ?_
  refine WN.thn ?_
  refine WC.seq ?_
  refine WC.seq ?_
  rcases big2 c.nd.length l.length with g1 | ⟨g1, g2⟩ | ⟨g1, g2⟩
  · skip
    refine WC.reg ?_
    refine WL.v (Runs.fld fld24_5 rfl) rfl ?_
    refine WL.v (Runs.load1 Try.underlying22 rfl rfl (h1.ocell (i := 0) rfl rfl)) rfl ?_
    refine WL.v (Runs.intT (n := (c.nd.length : Int)) (Runs.llen Try.underlying22 rfl rfl) rfl) rfl ?_
    refine WL.v (Runs.boolT (c := true) (Runs.gtr rfl rfl) (by rw [decide_eq_true_eq]; omega)) rfl ?_
    refine WL.v (Runs.move rfl) rfl ?_
    refine WL.goff rfl rfl rfl rfl ?_
    refine WL.goff rfl rfl rfl rfl ?_
    refine WL.goff rfl rfl rfl rfl ?_
    refine WL.v (Runs.pick rfl rfl rfl) rfl ?_
    refine WL.nil ?_
    refine WN.thn ?_
    refine WC.condT rfl (rfl) ?_
    refine WC.seq ?_
    refine WC.reg ?_
    refine WL.call can9 rfl rfl (live_c _ h1) ?_
    rintro _ w2 ⟨rfl, h2⟩
    refine ⟨_, rfl, ?_⟩
    refine WL.v (Runs.assign rfl) rfl ?_
    refine WL.nil ?_
    refine WN.thn ?_
    refine WC.ret ?_
    exact ret1 rfl rfl ⟨rfl, (h2.drop 0)⟩
  · skip
    refine WC.reg ?_
    refine WL.v (Runs.fld fld24_5 rfl) rfl ?_
    refine WL.v (Runs.load1 Try.underlying22 rfl rfl (h1.ocell (i := 0) rfl rfl)) rfl ?_
    refine WL.v (Runs.intT (n := (c.nd.length : Int)) (Runs.llen Try.underlying22 rfl rfl) rfl) rfl ?_
    refine WL.v (Runs.boolT (c := false) (Runs.gtr rfl rfl) (by rw [decide_eq_false_iff_not]; omega)) rfl ?_
    refine WL.v (Runs.move rfl) rfl ?_
    refine WL.gon rfl rfl rfl ?_
    refine WL.v (Runs.move rfl) rfl ?_
    refine WL.gon rfl rfl rfl ?_
    refine WL.v (Runs.intT (n := (l.length : Int)) (Runs.slen Try.underlying9 rfl rfl) rfl) rfl ?_
    refine WL.gon rfl rfl rfl ?_
    refine WL.v (Runs.boolT (c := true) (Runs.gtr rfl rfl) (by rw [decide_eq_true_eq]; omega)) rfl ?_
    refine WL.v (Runs.pick rfl rfl rfl) rfl ?_
    refine WL.nil ?_
    refine WN.thn ?_
    refine WC.condT rfl (rfl) ?_
    refine WC.seq ?_
    refine WC.reg ?_
    refine WL.call can9 rfl rfl (live_c _ h1) ?_
    rintro _ w3 ⟨rfl, h3⟩
    refine ⟨_, rfl, ?_⟩
    refine WL.v (Runs.assign rfl) rfl ?_
    refine WL.nil ?_
    refine WN.thn ?_
    refine WC.ret ?_
    exact ret1 rfl rfl ⟨rfl, (h3.drop 0)⟩
  · skip
    refine WC.reg ?_
    refine WL.v (Runs.fld fld24_5 rfl) rfl ?_
    refine WL.v (Runs.load1 Try.underlying22 rfl rfl (h1.ocell (i := 0) rfl rfl)) rfl ?_
    refine WL.v (Runs.intT (n := (c.nd.length : Int)) (Runs.llen Try.underlying22 rfl rfl) rfl) rfl ?_
    refine WL.v (Runs.boolT (c := false) (Runs.gtr rfl rfl) (by rw [decide_eq_false_iff_not]; omega)) rfl ?_
    refine WL.v (Runs.move rfl) rfl ?_
    refine WL.gon rfl rfl rfl ?_
    refine WL.v (Runs.move rfl) rfl ?_
    refine WL.gon rfl rfl rfl ?_
    refine WL.v (Runs.intT (n := (l.length : Int)) (Runs.slen Try.underlying9 rfl rfl) rfl) rfl ?_
    refine WL.gon rfl rfl rfl ?_
    refine WL.v (Runs.boolT (c := false) (Runs.gtr rfl rfl) (by rw [decide_eq_false_iff_not]; omega)) rfl ?_
    refine WL.v (Runs.pick rfl rfl rfl) rfl ?_
    refine WL.nil ?_
    refine WN.thn ?_
    refine WC.condF rfl (rfl) ?_
    refine WC.skip ?_
    refine WN.thn ?_
    refine WC.seq ?_
    have hle : Le F F := Le.refl F
    refine WC.reg ?_
    refine WL.v (Runs.move rfl) rfl ?_
    refine WL.call can10 rfl rfl (decode_c _ l h1 (by omega)) ?_
    rintro _ w4 ⟨Ga, Aa, capa, hGa, rfl, rda, h4⟩
    refine ⟨_, rfl, ?_⟩
    replace hR := hR.mono hGa
    replace hle := Le.trans hle hGa
    refine WL.v (Runs.move rfl) rfl ?_
    refine WL.v (Runs.extract rfl rfl) rfl ?_
    refine WL.v (Runs.extract rfl rfl) rfl ?_
    refine WL.alloc' rfl h4 inf24 ?_
    intro b5 w5 h5
    refine WL.storeAll h5 0 rfl rfl rfl inf24 rfl rfl rfl (Free.zero _) ?_
    intro  w6 h6
    try simp only [List.set_cons_zero, List.set_cons_succ, List.eraseIdx_cons_zero, List.eraseIdx_cons_succ] at h6
    refine WL.v (Runs.assign rfl) rfl ?_
    refine WL.nil ?_
    refine WN.thn ?_
    refine WC.seq ?_
    refine WC.reg ?_
    refine WL.v (Runs.move rfl) rfl ?_
    refine WL.call can11 rfl rfl (qdecode_c _ l h6 (by omega)) ?_
    rintro _ w7 ⟨Gb, Ab, capb, hGb, rfl, rdb, h7⟩
    refine ⟨_, rfl, ?_⟩
    replace hR := hR.mono hGb
    replace rda := rda.mono hGb
    replace hle := Le.trans hle hGb
    refine WL.v (Runs.move rfl) rfl ?_
    refine WL.v (Runs.extract rfl rfl) rfl ?_
    refine WL.v (Runs.extract rfl rfl) rfl ?_
    refine WL.alloc' rfl h7 inf24 ?_
    intro b7 w8 h8
    refine WL.storeAll h8 0 rfl rfl rfl inf24 rfl rfl rfl (Free.zero _) ?_
    intro  w9 h9
    try simp only [List.set_cons_zero, List.set_cons_succ, List.eraseIdx_cons_zero, List.eraseIdx_cons_succ] at h9
    refine WL.v (Runs.assign rfl) rfl ?_
    refine WL.nil ?_
    refine WN.thn ?_
    refine WC.seq ?_
    refine WC.qreg (C := fun w_ => St W _ _ w_) mixed (by kernel_rfl) (h9.drew) ?_
    refine WQ.val (fun w_ hC_ => Runs.loadAll hC_ 2 rfl Try.underlying24 rfl inf24 rfl rfl) rfl ?_
    refine WQ.call can12 rfl rfl (fun w_ hC_ => check_c _ hC_ hR (by omega)) ?_
    refine WQ.val (fun w_ hC_ => Runs.loadAll hC_ 2 rfl Try.underlying24 rfl inf24 rfl rfl) rfl ?_
    refine WQ.call can13 rfl rfl (fun w_ hC_ => qcheck_c _ hC_ hR (by omega)) ?_
    refine WQ.val (fun w_ hC_ => Runs.boolT (c := true) (Runs.eql rfl rfl) (decide_eq_true rfl)) rfl ?_
    refine WQ.val (fun w_ hC_ => Runs.move rfl) rfl ?_
    refine WQ.gon rfl rfl rfl ?_
    refine WQ.val (fun w_ hC_ => Runs.loadAll hC_ 2 rfl Try.underlying24 rfl inf24 rfl rfl) rfl ?_
    refine WQ.gon rfl rfl rfl ?_
    refine WQ.call can14 rfl rfl (fun w_ hC_ => encode_c _ hC_ hR (by omega)) ?_
    refine WQ.gon rfl rfl rfl ?_
    refine WQ.val (fun w_ hC_ => Runs.loadAll hC_ 2 rfl Try.underlying24 rfl inf24 rfl rfl) rfl ?_
    refine WQ.gon rfl rfl rfl ?_
    refine WQ.call can15 rfl rfl (fun w_ hC_ => qencode_c _ hC_ hR (by omega)) ?_
    refine WQ.gon rfl rfl rfl ?_
    refine WQ.val (fun w_ hC_ => Runs.boolT (c := true) (Runs.lseql rfl rfl) (decide_eq_true rfl)) rfl ?_
    refine WQ.val (fun w_ hC_ => Runs.pick rfl rfl rfl) rfl ?_
    refine WQ.val (fun w_ hC_ => Runs.move rfl) rfl ?_
    refine WQ.gon rfl rfl rfl ?_
    refine WQ.val (fun w_ hC_ => Runs.loadAll hC_ 1 rfl Try.underlying24 rfl inf24 rfl rfl) rfl ?_
    refine WQ.gon rfl rfl rfl ?_
    refine WQ.val (fun w_ hC_ => Runs.loadAll hC_ 0 rfl Try.underlying24 rfl inf24 rfl rfl) rfl ?_
    refine WQ.gon rfl rfl rfl ?_
    refine WQ.call can16 rfl rfl (fun w_ hC_ => qsame_c (c := (decM l).1) _ hC_ rda (by have := decM_len (l := l); omega) rdb) ?_
    refine WQ.val (fun w_ hC_ => Runs.pick rfl rfl rfl) rfl ?_
    refine WQ.val (fun w_ hC_ => Runs.move rfl) rfl ?_
    refine WQ.gon rfl rfl rfl ?_
    refine WQ.val (fun w_ hC_ => Runs.move rfl) rfl ?_
    refine WQ.gon rfl rfl rfl ?_
    refine WQ.val (fun w_ hC_ => Runs.move rfl) rfl ?_
    refine WQ.gon rfl rfl rfl ?_
    refine WQ.val (fun w_ hC_ => Runs.boolT (c := true) (Runs.eql rfl rfl) (decide_eq_true rfl)) rfl ?_
    refine WQ.val (fun w_ hC_ => Runs.pick rfl rfl rfl) rfl ?_
    refine WQ.val (fun w_ hC_ => Runs.move rfl) rfl ?_
    refine WQ.gon rfl rfl rfl ?_
    refine WQ.call can9 rfl rfl (fun w_ hC_ => live_c _ hC_) ?_
    refine WQ.val (fun w_ hC_ => Runs.pick rfl rfl rfl) rfl ?_
    refine WQ.val (fun w_ hC_ => Runs.assign rfl) rfl ?_
    refine WQ.fin ?_
    intro w10 h10
    refine WN.thn ?_
    refine WC.ret ?_
    exact ret1 rfl rfl ⟨rfl, ((((h10.drop 0).drop 0).drop 0)).weak hle⟩
set_option maxRecDepth 100000 in
set_option maxHeartbeats 8000000 in
theorem signed_law {W : World} {F : Snap} {cs : List Res} (w : World) {A : Option Addr} {cap : Nat} {c : C} (k l : List UInt8) (h : St W F cs w) (hR : RdS (Kd.one Vi) F A c.nd) (hnl : c.nd.length ≤ 9223372036854775807) (hll : l.length ≤ 9223372036854775807) (hkl : k.length ≤ 9223372036854775807) : Calls Try.prog 4 #[.string (bs k), .agg #[Vi c.jb, Vi c.ep, Vi c.st, Vi c.fr, Vi c.un, .slice A c.nd.length cap, Vi c.co], .string (bs l)] w fun r w' => r = .returned (.bool true) ∧ St W F cs w'  := by
  refine enter (P := Try.prog) (args := [.string (bs k), .agg #[Vi c.jb, Vi c.ep, Vi c.st, Vi c.fr, Vi c.un, .slice A c.nd.length cap, Vi c.co], .string (bs l)]) Try.func4 rfl rfl rfl ?_
  refine WC.seq ?_
  refine WC.reg ?_
  refine WL.box rfl h rfl ?_
  intro b4 w1 h1
  refine WL.v (Runs.assign rfl) rfl ?_
  refine WL.nil ?_
  refine WN.thn ?_
  refine WC.seq ?_
  refine WC.seq ?_
  rcases big3 c.nd.length l.length k.length with g1 | ⟨g1, g2⟩ | ⟨g1, g2, g3⟩ | ⟨g1, g2, g3⟩
  · skip
    refine WC.reg ?_
    refine WL.v (Runs.fld fld24_5 rfl) rfl ?_
    refine WL.v (Runs.load1 Try.underlying22 rfl rfl (h1.ocell (i := 0) rfl rfl)) rfl ?_
    refine WL.v (Runs.intT (n := (c.nd.length : Int)) (Runs.llen Try.underlying22 rfl rfl) rfl) rfl ?_
    refine WL.v (Runs.boolT (c := true) (Runs.gtr rfl rfl) (by rw [decide_eq_true_eq]; omega)) rfl ?_
    refine WL.v (Runs.move rfl) rfl ?_
    refine WL.goff rfl rfl rfl rfl ?_
    refine WL.goff rfl rfl rfl rfl ?_
    refine WL.goff rfl rfl rfl rfl ?_
    refine WL.v (Runs.pick rfl rfl rfl) rfl ?_
    refine WL.v (Runs.move rfl) rfl ?_
    refine WL.goff rfl rfl rfl rfl ?_
    refine WL.goff rfl rfl rfl rfl ?_
    refine WL.goff rfl rfl rfl rfl ?_
    refine WL.v (Runs.pick rfl rfl rfl) rfl ?_
    refine WL.nil ?_
    refine WN.thn ?_
    refine WC.condT rfl (rfl) ?_
    refine WC.seq ?_
    refine WC.reg ?_
    refine WL.call can9 rfl rfl (live_c _ h1) ?_
    rintro _ w2 ⟨rfl, h2⟩
    refine ⟨_, rfl, ?_⟩
    refine WL.v (Runs.assign rfl) rfl ?_
    refine WL.nil ?_
    refine WN.thn ?_
    refine WC.ret ?_
    exact ret1 rfl rfl ⟨rfl, (h2.drop 0)⟩
  · skip
    refine WC.reg ?_
    refine WL.v (Runs.fld fld24_5 rfl) rfl ?_
    refine WL.v (Runs.load1 Try.underlying22 rfl rfl (h1.ocell (i := 0) rfl rfl)) rfl ?_
    refine WL.v (Runs.intT (n := (c.nd.length : Int)) (Runs.llen Try.underlying22 rfl rfl) rfl) rfl ?_
    refine WL.v (Runs.boolT (c := false) (Runs.gtr rfl rfl) (by rw [decide_eq_false_iff_not]; omega)) rfl ?_
    refine WL.v (Runs.move rfl) rfl ?_
    refine WL.gon rfl rfl rfl ?_
    refine WL.v (Runs.move rfl) rfl ?_
    refine WL.gon rfl rfl rfl ?_
    refine WL.v (Runs.intT (n := (l.length : Int)) (Runs.slen Try.underlying9 rfl rfl) rfl) rfl ?_
    refine WL.gon rfl rfl rfl ?_
    refine WL.v (Runs.boolT (c := true) (Runs.gtr rfl rfl) (by rw [decide_eq_true_eq]; omega)) rfl ?_
    refine WL.v (Runs.pick rfl rfl rfl) rfl ?_
    refine WL.v (Runs.move rfl) rfl ?_
    refine WL.goff rfl rfl rfl rfl ?_
    refine WL.goff rfl rfl rfl rfl ?_
    refine WL.goff rfl rfl rfl rfl ?_
    refine WL.v (Runs.pick rfl rfl rfl) rfl ?_
    refine WL.nil ?_
    refine WN.thn ?_
    refine WC.condT rfl (rfl) ?_
    refine WC.seq ?_
    refine WC.reg ?_
    refine WL.call can9 rfl rfl (live_c _ h1) ?_
    rintro _ w3 ⟨rfl, h3⟩
    refine ⟨_, rfl, ?_⟩
    refine WL.v (Runs.assign rfl) rfl ?_
    refine WL.nil ?_
    refine WN.thn ?_
    refine WC.ret ?_
    exact ret1 rfl rfl ⟨rfl, (h3.drop 0)⟩
  · skip
    refine WC.reg ?_
    refine WL.v (Runs.fld fld24_5 rfl) rfl ?_
    refine WL.v (Runs.load1 Try.underlying22 rfl rfl (h1.ocell (i := 0) rfl rfl)) rfl ?_
    refine WL.v (Runs.intT (n := (c.nd.length : Int)) (Runs.llen Try.underlying22 rfl rfl) rfl) rfl ?_
    refine WL.v (Runs.boolT (c := false) (Runs.gtr rfl rfl) (by rw [decide_eq_false_iff_not]; omega)) rfl ?_
    refine WL.v (Runs.move rfl) rfl ?_
    refine WL.gon rfl rfl rfl ?_
    refine WL.v (Runs.move rfl) rfl ?_
    refine WL.gon rfl rfl rfl ?_
    refine WL.v (Runs.intT (n := (l.length : Int)) (Runs.slen Try.underlying9 rfl rfl) rfl) rfl ?_
    refine WL.gon rfl rfl rfl ?_
    refine WL.v (Runs.boolT (c := false) (Runs.gtr rfl rfl) (by rw [decide_eq_false_iff_not]; omega)) rfl ?_
    refine WL.v (Runs.pick rfl rfl rfl) rfl ?_
    refine WL.v (Runs.move rfl) rfl ?_
    refine WL.gon rfl rfl rfl ?_
    refine WL.v (Runs.move rfl) rfl ?_
    refine WL.gon rfl rfl rfl ?_
    refine WL.v (Runs.intT (n := (k.length : Int)) (Runs.slen Try.underlying9 rfl rfl) rfl) rfl ?_
    refine WL.gon rfl rfl rfl ?_
    refine WL.v (Runs.boolT (c := true) (Runs.gtr rfl rfl) (by rw [decide_eq_true_eq]; omega)) rfl ?_
    refine WL.v (Runs.pick rfl rfl rfl) rfl ?_
    refine WL.nil ?_
    refine WN.thn ?_
    refine WC.condT rfl (rfl) ?_
    refine WC.seq ?_
    refine WC.reg ?_
    refine WL.call can9 rfl rfl (live_c _ h1) ?_
    rintro _ w4 ⟨rfl, h4⟩
    refine ⟨_, rfl, ?_⟩
    refine WL.v (Runs.assign rfl) rfl ?_
    refine WL.nil ?_
    refine WN.thn ?_
    refine WC.ret ?_
    exact ret1 rfl rfl ⟨rfl, (h4.drop 0)⟩
  · skip
    refine WC.reg ?_
    refine WL.v (Runs.fld fld24_5 rfl) rfl ?_
    refine WL.v (Runs.load1 Try.underlying22 rfl rfl (h1.ocell (i := 0) rfl rfl)) rfl ?_
    refine WL.v (Runs.intT (n := (c.nd.length : Int)) (Runs.llen Try.underlying22 rfl rfl) rfl) rfl ?_
    refine WL.v (Runs.boolT (c := false) (Runs.gtr rfl rfl) (by rw [decide_eq_false_iff_not]; omega)) rfl ?_
    refine WL.v (Runs.move rfl) rfl ?_
    refine WL.gon rfl rfl rfl ?_
    refine WL.v (Runs.move rfl) rfl ?_
    refine WL.gon rfl rfl rfl ?_
    refine WL.v (Runs.intT (n := (l.length : Int)) (Runs.slen Try.underlying9 rfl rfl) rfl) rfl ?_
    refine WL.gon rfl rfl rfl ?_
    refine WL.v (Runs.boolT (c := false) (Runs.gtr rfl rfl) (by rw [decide_eq_false_iff_not]; omega)) rfl ?_
    refine WL.v (Runs.pick rfl rfl rfl) rfl ?_
    refine WL.v (Runs.move rfl) rfl ?_
    refine WL.gon rfl rfl rfl ?_
    refine WL.v (Runs.move rfl) rfl ?_
    refine WL.gon rfl rfl rfl ?_
    refine WL.v (Runs.intT (n := (k.length : Int)) (Runs.slen Try.underlying9 rfl rfl) rfl) rfl ?_
    refine WL.gon rfl rfl rfl ?_
    refine WL.v (Runs.boolT (c := false) (Runs.gtr rfl rfl) (by rw [decide_eq_false_iff_not]; omega)) rfl ?_
    refine WL.v (Runs.pick rfl rfl rfl) rfl ?_
    refine WL.nil ?_
    refine WN.thn ?_
    refine WC.condF rfl (rfl) ?_
    refine WC.skip ?_
    refine WN.thn ?_
    refine WC.seq ?_
    have hle : Le F F := Le.refl F
    refine WC.reg ?_
    refine WL.v (Runs.move rfl) rfl ?_
    refine WL.v (Runs.move rfl) rfl ?_
    refine WL.call can17 rfl rfl (open_c _ k l h1 (by omega) (by omega)) ?_
    rintro _ w5 ⟨Ga, Aa, capa, hGa, rfl, rda, h5⟩
    refine ⟨_, rfl, ?_⟩
    replace hR := hR.mono hGa
    replace hle := Le.trans hle hGa
    refine WL.v (Runs.move rfl) rfl ?_
    refine WL.v (Runs.extract rfl rfl) rfl ?_
    refine WL.v (Runs.extract rfl rfl) rfl ?_
    refine WL.alloc' rfl h5 inf24 ?_
    intro b7 w6 h6
    refine WL.storeAll h6 0 rfl rfl rfl inf24 rfl rfl rfl (Free.zero _) ?_
    intro  w7 h7
    try simp only [List.set_cons_zero, List.set_cons_succ, List.eraseIdx_cons_zero, List.eraseIdx_cons_succ] at h7
    refine WL.v (Runs.assign rfl) rfl ?_
    refine WL.nil ?_
    refine WN.thn ?_
    refine WC.seq ?_
    refine WC.reg ?_
    refine WL.v (Runs.move rfl) rfl ?_
    refine WL.v (Runs.move rfl) rfl ?_
    refine WL.call can18 rfl rfl (qopen_c _ k l h7 (by omega) (by omega)) ?_
    rintro _ w8 ⟨Gb, Ab, capb, hGb, rfl, rdb, h8⟩
    refine ⟨_, rfl, ?_⟩
    replace hR := hR.mono hGb
    replace rda := rda.mono hGb
    replace hle := Le.trans hle hGb
    refine WL.v (Runs.move rfl) rfl ?_
    refine WL.v (Runs.extract rfl rfl) rfl ?_
    refine WL.v (Runs.extract rfl rfl) rfl ?_
    refine WL.alloc' rfl h8 inf24 ?_
    intro b9 w9 h9
    refine WL.storeAll h9 0 rfl rfl rfl inf24 rfl rfl rfl (Free.zero _) ?_
    intro  w10 h10
    try simp only [List.set_cons_zero, List.set_cons_succ, List.eraseIdx_cons_zero, List.eraseIdx_cons_succ] at h10
    refine WL.v (Runs.assign rfl) rfl ?_
    refine WL.nil ?_
    refine WN.thn ?_
    refine WC.seq ?_
    refine WC.qreg (C := fun w_ => St W _ _ w_) mixed (by kernel_rfl) (h10.drew) ?_
    refine WQ.val (fun w_ hC_ => Runs.move rfl) rfl ?_
    refine WQ.val (fun w_ hC_ => Runs.loadAll hC_ 2 rfl Try.underlying24 rfl inf24 rfl rfl) rfl ?_
    refine WQ.call can19 rfl rfl (fun w_ hC_ => sign_c _ k (by omega) hC_ hR (by omega)) ?_
    refine WQ.val (fun w_ hC_ => Runs.move rfl) rfl ?_
    refine WQ.val (fun w_ hC_ => Runs.loadAll hC_ 2 rfl Try.underlying24 rfl inf24 rfl rfl) rfl ?_
    refine WQ.call can20 rfl rfl (fun w_ hC_ => qsign_c _ k (by omega) hC_ hR (by omega)) ?_
    refine WQ.val (fun w_ hC_ => Runs.boolT (c := true) (Runs.lseql rfl rfl) (decide_eq_true rfl)) rfl ?_
    refine WQ.val (fun w_ hC_ => Runs.move rfl) rfl ?_
    refine WQ.gon rfl rfl rfl ?_
    refine WQ.val (fun w_ hC_ => Runs.loadAll hC_ 1 rfl Try.underlying24 rfl inf24 rfl rfl) rfl ?_
    refine WQ.gon rfl rfl rfl ?_
    refine WQ.val (fun w_ hC_ => Runs.loadAll hC_ 0 rfl Try.underlying24 rfl inf24 rfl rfl) rfl ?_
    refine WQ.gon rfl rfl rfl ?_
    refine WQ.call can16 rfl rfl (fun w_ hC_ => qsame_c (c := (openM k l).1) _ hC_ rda (by have := openM_len (k := k) (l := l); omega) rdb) ?_
    refine WQ.val (fun w_ hC_ => Runs.pick rfl rfl rfl) rfl ?_
    refine WQ.val (fun w_ hC_ => Runs.move rfl) rfl ?_
    refine WQ.gon rfl rfl rfl ?_
    refine WQ.val (fun w_ hC_ => Runs.move rfl) rfl ?_
    refine WQ.gon rfl rfl rfl ?_
    refine WQ.val (fun w_ hC_ => Runs.move rfl) rfl ?_
    refine WQ.gon rfl rfl rfl ?_
    refine WQ.val (fun w_ hC_ => Runs.boolT (c := true) (Runs.eql rfl rfl) (decide_eq_true rfl)) rfl ?_
    refine WQ.val (fun w_ hC_ => Runs.pick rfl rfl rfl) rfl ?_
    refine WQ.val (fun w_ hC_ => Runs.move rfl) rfl ?_
    refine WQ.gon rfl rfl rfl ?_
    refine WQ.call can9 rfl rfl (fun w_ hC_ => live_c _ hC_) ?_
    refine WQ.val (fun w_ hC_ => Runs.pick rfl rfl rfl) rfl ?_
    refine WQ.val (fun w_ hC_ => Runs.assign rfl) rfl ?_
    refine WQ.fin ?_
    intro w11 h11
    refine WN.thn ?_
    refine WC.ret ?_
    exact ret1 rfl rfl ⟨rfl, ((((h11.drop 0).drop 0).drop 0)).weak hle⟩
set_option maxRecDepth 100000 in
set_option maxHeartbeats 8000000 in
theorem allows_law {W : World} {F : Snap} {cs : List Res} (w : World) {A : Option Addr} {cap : Nat} {c : C} (a : Q) (h : St W F cs w) (hR : RdS (Kd.one Vi) F A c.nd) (hnl : c.nd.length ≤ 9223372036854775807) : Calls Try.prog 5 #[.agg #[Vi c.jb, Vi c.ep, Vi c.st, Vi c.fr, Vi c.un, .slice A c.nd.length cap, Vi c.co], .agg #[Vi a.jb, Vi a.ep, Vi a.st, Vi a.nd, Vi a.co, Vi a.tm]] w fun r w' => r = .returned (.bool true) ∧ St W F cs w'  := by
  refine enter (P := Try.prog) (args := [.agg #[Vi c.jb, Vi c.ep, Vi c.st, Vi c.fr, Vi c.un, .slice A c.nd.length cap, Vi c.co], .agg #[Vi a.jb, Vi a.ep, Vi a.st, Vi a.nd, Vi a.co, Vi a.tm]]) Try.func5 rfl rfl rfl ?_
  refine WC.seq ?_
  refine WC.reg ?_
  refine WL.box rfl h rfl ?_
  intro b2 w1 h1
  refine WL.box rfl h1 rfl ?_
  intro b3 w2 h2
  refine WL.v (Runs.assign rfl) rfl ?_
  refine WL.nil ?_
  refine WN.thn ?_
  refine WC.seq ?_
  refine WC.seq ?_
  refine WC.reg ?_
  refine WL.v (Runs.fld fld24_5 rfl) rfl ?_
  refine WL.v (Runs.load1 Try.underlying22 rfl rfl (h2.ocell (i := 1) rfl rfl)) rfl ?_
  refine WL.v (Runs.intT (n := (c.nd.length : Int)) (Runs.llen Try.underlying22 rfl rfl) rfl) rfl ?_
  refine WL.v (Runs.gtr rfl rfl) rfl ?_
  refine WL.nil ?_
  refine WN.thn ?_
  refine WC.cond rfl (fun c3 => ?_) (fun c3 => ?_)
  · try simp only [decide_eq_true_eq, decide_eq_false_iff_not, Bool.not_eq_true', Bool.not_eq_false', Bool.and_eq_true, Int.not_lt, Int.not_le] at c3
    first
    | (exfalso; omega)
    | skip
      refine WC.seq ?_
      refine WC.reg ?_
      refine WL.call can9 rfl rfl (live_c _ h2) ?_
      rintro _ w4 ⟨rfl, h4⟩
      refine ⟨_, rfl, ?_⟩
      refine WL.v (Runs.assign rfl) rfl ?_
      refine WL.nil ?_
      refine WN.thn ?_
      refine WC.ret ?_
      exact ret1 rfl rfl ⟨rfl, ((h4.drop 0).drop 0)⟩
  · try simp only [decide_eq_true_eq, decide_eq_false_iff_not, Bool.not_eq_true', Bool.not_eq_false', Bool.and_eq_true, Int.not_lt, Int.not_le] at c3
    first
    | (exfalso; omega)
    | skip
      refine WC.skip ?_
      refine WN.thn ?_
      refine WC.seq ?_
      refine WC.qreg (C := fun w_ => St W _ _ w_) mixed (by kernel_rfl) (h2.drew) ?_
      refine WQ.val (fun w_ hC_ => Runs.loadAll hC_ 1 rfl Try.underlying24 rfl inf24 rfl rfl) rfl ?_
      refine WQ.val (fun w_ hC_ => Runs.loadAll hC_ 0 rfl Try.underlying37 rfl inf37 rfl rfl) rfl ?_
      refine WQ.call can22 rfl rfl (fun w_ hC_ => own_c _ a hC_) ?_
      refine WQ.call can21 rfl rfl (fun w_ hC_ => allows_c _ a hC_ hR (by omega)) ?_
      refine WQ.val (fun w_ hC_ => Runs.loadAll hC_ 1 rfl Try.underlying24 rfl inf24 rfl rfl) rfl ?_
      refine WQ.val (fun w_ hC_ => Runs.loadAll hC_ 0 rfl Try.underlying37 rfl inf37 rfl rfl) rfl ?_
      refine WQ.call can23 rfl rfl (fun w_ hC_ => qallows_c _ a hC_ hR (by omega)) ?_
      refine WQ.val (fun w_ hC_ => Runs.boolT (c := true) (Runs.eql rfl rfl) (decide_eq_true rfl)) rfl ?_
      refine WQ.val (fun w_ hC_ => Runs.move rfl) rfl ?_
      refine WQ.gon rfl rfl rfl ?_
      refine WQ.call can9 rfl rfl (fun w_ hC_ => live_c _ hC_) ?_
      refine WQ.val (fun w_ hC_ => Runs.pick rfl rfl rfl) rfl ?_
      refine WQ.val (fun w_ hC_ => Runs.assign rfl) rfl ?_
      refine WQ.fin ?_
      intro w5 h5
      refine WN.thn ?_
      refine WC.ret ?_
      exact ret1 rfl rfl ⟨rfl, ((h5.drop 0).drop 0)⟩
end Cr
end Go.Proofs.Ytbkfjedecepfoaa
