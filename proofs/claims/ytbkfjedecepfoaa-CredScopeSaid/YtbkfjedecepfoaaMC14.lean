/- The law CredScope. -/
import Derived.Test.YtbkfjedecepfoaaMC13
namespace Go.Proofs.Ytbkfjedecepfoaa
open Go Go.RowKit B
set_option linter.unusedVariables false
set_option linter.unusedSimpArgs false
namespace Cr
open Wir (numN okL rdn cerr rerr rval rnx Vi mayN numB listB rdN rdL rdEnd)


theorem scpCase (a : Nat) (e : Int) : 15 < a ∨ (a ≤ 15 ∧ ¬ e = 0) ∨ (a ≤ 15 ∧ e = 0) := by omega
set_option maxRecDepth 100000 in
set_option maxHeartbeats 16000000 in
theorem scope_law {W : World} {F : Snap} {cs : List Res} (w : World) {A : Option Addr} {cap : Nat} {c : C} (a : Q) (n : Int) (h : St W F cs w) (hR : RdS (Kd.one Vi) F A c.nd) (hnl : c.nd.length ≤ 9223372036854775807) : Calls Try.prog 8 #[.agg #[Vi c.jb, Vi c.ep, Vi c.st, Vi c.fr, Vi c.un, .slice A c.nd.length cap, Vi c.co], .agg #[Vi a.jb, Vi a.ep, Vi a.st, Vi a.nd, Vi a.co, Vi a.tm], Vi n] w fun r w' => r = .returned (.bool true) ∧ St W F cs w'  := by
  refine enter (P := Try.prog) (args := [.agg #[Vi c.jb, Vi c.ep, Vi c.st, Vi c.fr, Vi c.un, .slice A c.nd.length cap, Vi c.co], .agg #[Vi a.jb, Vi a.ep, Vi a.st, Vi a.nd, Vi a.co, Vi a.tm], Vi n]) Try.func8 rfl rfl rfl ?_
  refine WC.seq ?_
  rcases scpCase c.nd.length (allowsM c a) with g1 | ⟨g1, g2⟩ | ⟨g1, g2⟩
  · skip
    refine WC.reg ?_
    refine WL.box rfl h rfl ?_
    intro b3 w1 h1
    refine WL.box rfl h1 rfl ?_
    intro b4 w2 h2
    refine WL.v (Runs.assign rfl) rfl ?_
    refine WL.nil ?_
    refine WN.thn ?_
    refine WC.seq ?_
    refine WC.seq ?_
    refine WC.qreg (C := fun w_ => St W _ _ w_) mixed (by kernel_rfl) (h2.drew) ?_
    refine WQ.val (fun w_ hC_ => Runs.fld fld24_5 rfl) rfl ?_
    refine WQ.val (fun w_ hC_ => Runs.load1 Try.underlying22 rfl rfl (hC_.ocell (i := 1) rfl rfl)) rfl ?_
    refine WQ.val (fun w_ hC_ => Runs.intT (n := (c.nd.length : Int)) (Runs.llen Try.underlying22 rfl rfl) rfl) rfl ?_
    refine WQ.val (fun w_ hC_ => Runs.boolT (c := true) (Runs.gtr rfl rfl) (by rw [decide_eq_true_eq]; omega)) rfl ?_
    refine WQ.val (fun w_ hC_ => Runs.move rfl) rfl ?_
    refine WQ.goff rfl rfl rfl rfl ?_
    refine WQ.goff rfl rfl rfl rfl ?_
    refine WQ.goff rfl rfl rfl rfl ?_
    refine WQ.goff rfl rfl rfl rfl ?_
    refine WQ.goff rfl rfl rfl rfl ?_
    refine WQ.val (fun w_ hC_ => Runs.pick rfl rfl rfl) rfl ?_
    refine WQ.fin ?_
    intro w3 h3
    refine WN.thn ?_
    refine WC.condT rfl (rfl) ?_
    refine WC.seq ?_
    refine WC.reg ?_
    refine WL.call can9 rfl rfl (live_c _ h3) ?_
    rintro _ w4 ⟨rfl, h4⟩
    refine ⟨_, rfl, ?_⟩
    refine WL.v (Runs.assign rfl) rfl ?_
    refine WL.nil ?_
    refine WN.thn ?_
    refine WC.ret ?_
    exact ret1 rfl rfl ⟨rfl, ((h4.drop 0).drop 0)⟩
  · skip
    refine WC.reg ?_
    refine WL.box rfl h rfl ?_
    intro b3 w5 h5
    refine WL.box rfl h5 rfl ?_
    intro b4 w6 h6
    refine WL.v (Runs.assign rfl) rfl ?_
    refine WL.nil ?_
    refine WN.thn ?_
    refine WC.seq ?_
    refine WC.seq ?_
    refine WC.qreg (C := fun w_ => St W _ _ w_) mixed (by kernel_rfl) (h6.drew) ?_
    refine WQ.val (fun w_ hC_ => Runs.fld fld24_5 rfl) rfl ?_
    refine WQ.val (fun w_ hC_ => Runs.load1 Try.underlying22 rfl rfl (hC_.ocell (i := 1) rfl rfl)) rfl ?_
    refine WQ.val (fun w_ hC_ => Runs.intT (n := (c.nd.length : Int)) (Runs.llen Try.underlying22 rfl rfl) rfl) rfl ?_
    refine WQ.val (fun w_ hC_ => Runs.boolT (c := false) (Runs.gtr rfl rfl) (by rw [decide_eq_false_iff_not]; omega)) rfl ?_
    refine WQ.val (fun w_ hC_ => Runs.move rfl) rfl ?_
    refine WQ.gon rfl rfl rfl ?_
    refine WQ.val (fun w_ hC_ => Runs.loadAll hC_ 1 rfl Try.underlying24 rfl inf24 rfl rfl) rfl ?_
    refine WQ.gon rfl rfl rfl ?_
    refine WQ.val (fun w_ hC_ => Runs.loadAll hC_ 0 rfl Try.underlying37 rfl inf37 rfl rfl) rfl ?_
    refine WQ.gon rfl rfl rfl ?_
    refine WQ.call can22 rfl rfl (fun w_ hC_ => own_c _ a hC_) ?_
    refine WQ.gon rfl rfl rfl ?_
    refine WQ.call can21 rfl rfl (fun w_ hC_ => allows_c _ a hC_ hR (by omega)) ?_
    refine WQ.gon rfl rfl rfl ?_
    refine WQ.val (fun w_ hC_ => Runs.boolT (c := true) (Runs.neq rfl rfl) (by rw [decide_eq_false g2]; rfl)) rfl ?_
    refine WQ.val (fun w_ hC_ => Runs.pick rfl rfl rfl) rfl ?_
    refine WQ.fin ?_
    intro w7 h7
    refine WN.thn ?_
    refine WC.condT rfl (rfl) ?_
    refine WC.seq ?_
    refine WC.reg ?_
    refine WL.call can9 rfl rfl (live_c _ h7) ?_
    rintro _ w8 ⟨rfl, h8⟩
    refine ⟨_, rfl, ?_⟩
    refine WL.v (Runs.assign rfl) rfl ?_
    refine WL.nil ?_
    refine WN.thn ?_
    refine WC.ret ?_
    exact ret1 rfl rfl ⟨rfl, ((h8.drop 0).drop 0)⟩
  · skip
    refine WC.reg ?_
    refine WL.box rfl h rfl ?_
    intro b3 w9 h9
    refine WL.box rfl h9 rfl ?_
    intro b4 w10 h10
    refine WL.v (Runs.assign rfl) rfl ?_
    refine WL.nil ?_
    refine WN.thn ?_
    refine WC.seq ?_
    refine WC.seq ?_
    refine WC.qreg (C := fun w_ => St W _ _ w_) mixed (by kernel_rfl) (h10.drew) ?_
    refine WQ.val (fun w_ hC_ => Runs.fld fld24_5 rfl) rfl ?_
    refine WQ.val (fun w_ hC_ => Runs.load1 Try.underlying22 rfl rfl (hC_.ocell (i := 1) rfl rfl)) rfl ?_
    refine WQ.val (fun w_ hC_ => Runs.intT (n := (c.nd.length : Int)) (Runs.llen Try.underlying22 rfl rfl) rfl) rfl ?_
    refine WQ.val (fun w_ hC_ => Runs.boolT (c := false) (Runs.gtr rfl rfl) (by rw [decide_eq_false_iff_not]; omega)) rfl ?_
    refine WQ.val (fun w_ hC_ => Runs.move rfl) rfl ?_
    refine WQ.gon rfl rfl rfl ?_
    refine WQ.val (fun w_ hC_ => Runs.loadAll hC_ 1 rfl Try.underlying24 rfl inf24 rfl rfl) rfl ?_
    refine WQ.gon rfl rfl rfl ?_
    refine WQ.val (fun w_ hC_ => Runs.loadAll hC_ 0 rfl Try.underlying37 rfl inf37 rfl rfl) rfl ?_
    refine WQ.gon rfl rfl rfl ?_
    refine WQ.call can22 rfl rfl (fun w_ hC_ => own_c _ a hC_) ?_
    refine WQ.gon rfl rfl rfl ?_
    refine WQ.call can21 rfl rfl (fun w_ hC_ => allows_c _ a hC_ hR (by omega)) ?_
    refine WQ.gon rfl rfl rfl ?_
    refine WQ.val (fun w_ hC_ => Runs.boolT (c := false) (Runs.neq rfl rfl) (by rw [decide_eq_true g2]; rfl)) rfl ?_
    refine WQ.val (fun w_ hC_ => Runs.pick rfl rfl rfl) rfl ?_
    refine WQ.fin ?_
    intro w11 h11
    refine WN.thn ?_
    refine WC.condF rfl (rfl) ?_
    refine WC.skip ?_
    refine WN.thn ?_
    refine WC.seq ?_
    refine WC.reg ?_
    refine WL.v (Runs.loadAll h11 1 rfl Try.underlying24 rfl inf24 rfl rfl) rfl ?_
    refine WL.alloc' rfl h11 inf24 ?_
    intro b7 w12 h12
    refine WL.storeAll h12 0 rfl rfl rfl inf24 rfl rfl rfl (Free.zero _) ?_
    intro  w13 h13
    try simp only [List.set_cons_zero, List.set_cons_succ, List.eraseIdx_cons_zero, List.eraseIdx_cons_succ] at h13
    refine WL.nil ?_
    refine WN.thn ?_
    refine WC.seq ?_
    refine WC.reg ?_
    refine WL.v (Runs.fld fld24_5 rfl) rfl ?_
    refine WL.store' h13 0 rfl rfl rfl inf22 rfl rfl (Free.zero _) (Nat.le_of_ble_eq_true rfl) ?_
    intro  w14 h14
    try simp only [List.set_cons_zero, List.set_cons_succ, List.eraseIdx_cons_zero, List.eraseIdx_cons_succ] at h14
    replace h14 : St W F ([(b7, .cells #[Vi c.jb, Vi c.ep, Vi c.st, Vi c.fr, Vi c.un, .slice none 0 0, Vi c.co] 24 (0, 0))] :: [(b4, .cells #[Vi a.jb, Vi a.ep, Vi a.st, Vi a.nd, Vi a.co, Vi a.tm] 37 (0, 0))] :: [(b3, .cells #[Vi c.jb, Vi c.ep, Vi c.st, Vi c.fr, Vi c.un, .slice A c.nd.length cap, Vi c.co] 24 (0, 0))] :: cs) w14 := h14
    refine WL.nil ?_
    refine WN.thn ?_
    refine WC.seq ?_
    refine WC.reg ?_
    refine WL.v (Runs.assign rfl) rfl ?_
    refine WL.nil ?_
    refine WN.thn ?_
    refine WC.seq ?_
    refine WC.seq ?_
    refine WC.reg ?_
    refine WL.v (Runs.assign rfl) rfl ?_
    refine WL.nil ?_
    refine WN.thn ?_
    refine WC.block ?_
    refine WC.loop (σ := Nat × Bool × List Int × Res × Value) (fun q_ => [(2, Vi n), (3, .pointer (some ⟨b3, 0, none⟩)), (4, .pointer (some ⟨b4, 0, none⟩)), (7, .pointer (some ⟨b7, 0, none⟩)), (8, .bool q_.2.1), (9, .int .i64 (q_.1 : Int))]) (fun q_ w => q_.1 ≤ c.nd.length ∧ (q_.2.1, q_.2.2.1) = scF n c.nd q_.1 ∧ Row 3 Vi q_.2.2.2.1 q_.2.2.2.2 q_.2.2.1 ∧ St W F (q_.2.2.2.1 :: [(b7, .cells #[Vi c.jb, Vi c.ep, Vi c.st, Vi c.fr, Vi c.un, q_.2.2.2.2, Vi c.co] 24 (0, 0))] :: [(b4, .cells #[Vi a.jb, Vi a.ep, Vi a.st, Vi a.nd, Vi a.co, Vi a.tm] 37 (0, 0))] :: [(b3, .cells #[Vi c.jb, Vi c.ep, Vi c.st, Vi c.fr, Vi c.un, .slice A c.nd.length cap, Vi c.co] 24 (0, 0))] :: cs) w) (fun q_ => c.nd.length - q_.1) (⟨0, false, [], [], .slice none 0 0⟩) (by repeat (first | exact trivial | refine ⟨rfl, ?_⟩)) (⟨Nat.zero_le _, rfl, Row.nil _ _, h14.nilRes⟩) ?_
    rintro ⟨i, u, ys, r, v⟩ w15 ⟨hi, hs, hro, hL⟩
    try dsimp only at hi hs hro hL
    refine WC.sub (s := [(2, Vi n), (3, .pointer (some ⟨b3, 0, none⟩)), (4, .pointer (some ⟨b4, 0, none⟩)), (7, .pointer (some ⟨b7, 0, none⟩)), (8, .bool u), (9, .int .i64 (i : Int))]) (by repeat (first | exact trivial | refine ⟨rfl, ?_⟩)) ?_
    obtain ⟨B, cp, rfl, hcp⟩ := hro.val
    have hyl0 : ys.length ≤ 2 * i := by have h9 := scF_len (n := n) (xs := c.nd) i hi; rw [← hs] at h9; exact h9
    refine WC.seq ?_
    refine WC.seq ?_
    refine WC.reg ?_
    refine WL.v (Runs.move rfl) rfl ?_
    refine WL.v (Runs.fld fld24_5 rfl) rfl ?_
    refine WL.v (Runs.load1 Try.underlying22 rfl rfl (hL.ocell (i := 3) rfl rfl)) rfl ?_
    refine WL.v (Runs.intT (n := (c.nd.length : Int)) (Runs.llen Try.underlying22 rfl rfl) rfl) rfl ?_
    refine WL.v (Runs.lss rfl rfl) rfl ?_
    refine WL.nil ?_
    refine WN.thn ?_
    refine WC.cond rfl (fun c16 => ?_) (fun c16 => ?_)
    · try simp only [decide_eq_true_eq, decide_eq_false_iff_not, Bool.not_eq_true', Bool.not_eq_false', Bool.and_eq_true, Int.not_lt, Int.not_le] at c16
      first
      | (exfalso; omega)
      | skip
        refine WC.skip ?_
        refine WN.thn ?_
        refine WC.seq ?_
        refine WC.block ?_
        refine WC.seq ?_
        refine WC.seq ?_
        have hi2 : i < c.nd.length := by omega
        obtain ⟨ad, rfl, hrd⟩ := rd1 hR (by omega)
        rcases scCase u n (c.nd.getD i 0) with rfl | ⟨rfl, g3⟩ | ⟨rfl, g3, g4⟩ | ⟨rfl, g3, g4⟩
        · skip
          refine WC.reg ?_
          refine WL.v (Runs.move rfl) rfl ?_
          refine WL.v (Runs.boolT (c := false) (Runs.not rfl) rfl) rfl ?_
          refine WL.v (Runs.move rfl) rfl ?_
          refine WL.goff rfl rfl rfl rfl ?_
          refine WL.goff rfl rfl rfl rfl ?_
          refine WL.v (Runs.pick rfl rfl rfl) rfl ?_
          refine WL.v (Runs.move rfl) rfl ?_
          refine WL.goff rfl rfl rfl rfl ?_
          refine WL.goff rfl rfl rfl rfl ?_
          refine WL.goff rfl rfl rfl rfl ?_
          refine WL.goff rfl rfl rfl rfl ?_
          refine WL.goff rfl rfl rfl rfl ?_
          refine WL.goff rfl rfl rfl rfl ?_
          refine WL.goff rfl rfl rfl rfl ?_
          refine WL.v (Runs.pick rfl rfl rfl) rfl ?_
          refine WL.nil ?_
          refine WN.thn ?_
          refine WC.condF rfl (rfl) ?_
          refine WC.skip ?_
          refine WN.thn ?_
          refine WC.seq ?_
          refine WC.reg ?_
          refine WL.v (Runs.move rfl) rfl ?_
          refine WL.v (Runs.move rfl) rfl ?_
          refine WL.goff rfl rfl rfl rfl ?_
          refine WL.goff rfl rfl rfl rfl ?_
          refine WL.goff rfl rfl rfl rfl ?_
          refine WL.goff rfl rfl rfl rfl ?_
          refine WL.goff rfl rfl rfl rfl ?_
          refine WL.goff rfl rfl rfl rfl ?_
          refine WL.goff rfl rfl rfl rfl ?_
          refine WL.v (Runs.pick rfl rfl rfl) rfl ?_
          refine WL.v (Runs.assign rfl) rfl ?_
          refine WL.nil ?_
          refine WN.thn ?_
          refine WC.eregO hL (fun s_ => ([8, 10] : List Nat).any (Nat.beq s_)) mixed (by kernel_rfl) (fun hx => ?_)
          intro w17 h17
          refine WE.pure (g := none) hx 0 (by rfl) trivial (by kernel_rfl) (by kernel_rfl) (by kernel_rfl) (by kernel_rfl) (fun w_ => Runs.fld fld24_5 rfl) rfl ?_
          refine WE.pure (g := none) hx 2 (by rfl) trivial (by kernel_rfl) (by kernel_rfl) (by kernel_rfl) (by kernel_rfl) (fun w_ => Runs.fld fld24_5 rfl) rfl ?_
          refine WE.pure (g := none) hx 4 (by rfl) trivial (by kernel_rfl) (by kernel_rfl) (by kernel_rfl) (by kernel_rfl) (fun w_ => Runs.move rfl) rfl ?_
          refine WE.val (g := none) 12 hx 1 (by rfl) trivial (by kernel_rfl) (by kernel_rfl) (by kernel_rfl) (by kernel_rfl) (fun w_ hE_ => Runs.load1 Try.underlying22 rfl rfl (hE_.ocell (i := 1) rfl rfl)) rfl ?_
          refine WE.val (g := none) 12 hx 3 (by rfl) trivial (by kernel_rfl) (by kernel_rfl) (by kernel_rfl) (by kernel_rfl) (fun w_ hE_ => Runs.load1 Try.underlying22 rfl rfl (hE_.ocell (i := 3) rfl rfl)) rfl ?_
          refine WE.pure (g := none) hx 5 (by rfl) trivial (by kernel_rfl) (by kernel_rfl) (by kernel_rfl) (by kernel_rfl) (fun w_ => Runs.lidxN Try.underlying22 inf3 rfl rfl (n := i) rfl (by omega)) rfl ?_
          refine WE.val (g := none) 12 hx 6 (by rfl) trivial (by kernel_rfl) (by kernel_rfl) (by kernel_rfl) (by kernel_rfl) (fun w_ hE_ => Runs.loadR (f := Vi) (0 : Int) hE_ hrd (n := i) (by omega) Try.underlying3 rfl rfl) rfl ?_
          refine WE.op (.inr h17) (i := 7) (by rfl) (by kernel_rfl) ?_
          refine WL.lit (vs := (([(c.nd.getD i 0)] : List Int)).map Vi) h17 rfl Try.underlying22 inf3 rfl rfl rfl rfl rfl ?_
          intro lit69 w18 h18
          refine WL.nil ?_
          refine WE.next ?_
          refine WE.op (.inr (h18.drop 0)) (i := 8) (by rfl) (by kernel_rfl) ?_
          refine WL.app (ys := ([(c.nd.getD i 0)] : List Int)) 1 h18 rfl rfl rfl rfl Try.underlying22 Try.underlying22 (.inr ⟨_, rfl⟩) inf3 rfl hro (Src.lit h18 0 rfl rfl rfl) rfl rfl (by first | omega | (simp []; done) | (simp []; omega)) (by first | omega | (simp []; done) | (simp []; omega)) ?_
          intro r19 v19 w20 hr19 h20
          simp only [List.set_cons_zero, List.set_cons_succ] at h20
          replace h20 := h20.drop 0
          simp only [List.eraseIdx_cons_zero, List.eraseIdx_cons_succ] at h20
          refine WL.nil ?_
          refine WE.next ?_
          refine WE.pure (g := none) hx 9 (by rfl) trivial (by kernel_rfl) (by kernel_rfl) (by kernel_rfl) (by kernel_rfl) (fun w_ => Runs.fld fld24_5 rfl) rfl ?_
          refine WE.op (.inl ⟨8, rfl, by kernel_rfl⟩) (i := 10) (by rfl) (by kernel_rfl) ?_
          refine WL.store' h20 1 rfl rfl rfl inf22 (by obtain ⟨_, _, e_, _⟩ := hr19.val; rw [e_]; exact rfl) (by obtain ⟨_, _, e_, _⟩ := hr19.val; rw [e_]; exact rfl) (Free.zero _) (by obtain ⟨_, _, e_, _⟩ := hr19.val; rw [e_]; exact Nat.le_of_ble_eq_true rfl) ?_
          intro  w22 h22
          try simp only [List.set_cons_zero, List.set_cons_succ, List.eraseIdx_cons_zero, List.eraseIdx_cons_succ] at h22
          obtain ⟨B21, c21, rfl, hc21⟩ := hr19.val
          replace h22 : St W F (_ :: [(b7, .cells #[Vi c.jb, Vi c.ep, Vi c.st, Vi c.fr, Vi c.un, .slice B21 (ys ++ [(c.nd.getD i 0)]).length c21, Vi c.co] 24 (0, 0))] :: [(b4, .cells #[Vi a.jb, Vi a.ep, Vi a.st, Vi a.nd, Vi a.co, Vi a.tm] 37 (0, 0))] :: [(b3, .cells #[Vi c.jb, Vi c.ep, Vi c.st, Vi c.fr, Vi c.un, .slice _ c.nd.length cap, Vi c.co] 24 (0, 0))] :: cs) w22 := h22
          refine WL.nil ?_
          refine WE.next ?_
          refine WE.fin (.inl ⟨8, rfl, by kernel_rfl⟩) (by kernel_rfl) ?_
          refine WN.blk ?_
          refine WN.thn ?_
          refine WC.reg ?_
          refine WL.v (Runs.move rfl) rfl ?_
          refine WL.v (Runs.addn rfl rfl (by omega)) rfl ?_
          refine WL.v (Runs.assign rfl) rfl ?_
          refine WL.nil ?_
          have hs2 : (true, ys ++ [(c.nd.getD i 0)]) = scF n c.nd (i + 1) := by rw [scF_s hi2, ← hs, sc_A]
          exact WN.again (⟨i + 1, _, _, _, _⟩ : Nat × Bool × List Int × Res × Value) (by show c.nd.length - (i + 1) < c.nd.length - i; omega) ⟨rfl, rfl, rfl, rfl, rfl, rfl, trivial⟩ ⟨by show i + 1 ≤ _; omega, hs2, hr19, h22⟩
        · skip
          refine WC.reg ?_
          refine WL.v (Runs.move rfl) rfl ?_
          refine WL.v (Runs.boolT (c := true) (Runs.not rfl) rfl) rfl ?_
          refine WL.v (Runs.move rfl) rfl ?_
          refine WL.gon rfl rfl rfl ?_
          refine WL.v (Runs.move rfl) rfl ?_
          refine WL.gon rfl rfl rfl ?_
          refine WL.v (Runs.boolT (c := false) (Runs.geq rfl rfl) (by rw [decide_eq_false_iff_not]; omega)) rfl ?_
          refine WL.v (Runs.pick rfl rfl rfl) rfl ?_
          refine WL.v (Runs.move rfl) rfl ?_
          refine WL.goff rfl rfl rfl rfl ?_
          refine WL.goff rfl rfl rfl rfl ?_
          refine WL.goff rfl rfl rfl rfl ?_
          refine WL.goff rfl rfl rfl rfl ?_
          refine WL.goff rfl rfl rfl rfl ?_
          refine WL.goff rfl rfl rfl rfl ?_
          refine WL.goff rfl rfl rfl rfl ?_
          refine WL.v (Runs.pick rfl rfl rfl) rfl ?_
          refine WL.nil ?_
          refine WN.thn ?_
          refine WC.condF rfl (rfl) ?_
          refine WC.skip ?_
          refine WN.thn ?_
          refine WC.seq ?_
          refine WC.reg ?_
          refine WL.v (Runs.move rfl) rfl ?_
          refine WL.v (Runs.move rfl) rfl ?_
          refine WL.gon rfl rfl rfl ?_
          refine WL.v (Runs.fld fld24_5 rfl) rfl ?_
          refine WL.gon rfl rfl rfl ?_
          refine WL.v (Runs.load1 Try.underlying22 rfl rfl (hL.ocell (i := 3) rfl rfl)) rfl ?_
          refine WL.gon rfl rfl rfl ?_
          refine WL.v (Runs.move rfl) rfl ?_
          refine WL.gon rfl rfl rfl ?_
          refine WL.v (Runs.lidxN Try.underlying22 inf3 rfl rfl (n := i) rfl (by omega)) rfl ?_
          refine WL.gon rfl rfl rfl ?_
          refine WL.v (Runs.loadR (f := Vi) (0 : Int) hL hrd (n := i) (by omega) Try.underlying3 rfl rfl) rfl ?_
          refine WL.gon rfl rfl rfl ?_
          refine WL.v (Runs.move rfl) rfl ?_
          refine WL.gon rfl rfl rfl ?_
          refine WL.v (Runs.eql rfl rfl) rfl ?_
          refine WL.v (Runs.pick rfl rfl rfl) rfl ?_
          refine WL.v (Runs.assign rfl) rfl ?_
          refine WL.nil ?_
          refine WN.thn ?_
          refine WC.eregO hL (fun s_ => ([8, 10] : List Nat).any (Nat.beq s_)) mixed (by kernel_rfl) (fun hx => ?_)
          intro w23 h23
          refine WE.pure (g := none) hx 0 (by rfl) trivial (by kernel_rfl) (by kernel_rfl) (by kernel_rfl) (by kernel_rfl) (fun w_ => Runs.fld fld24_5 rfl) rfl ?_
          refine WE.pure (g := none) hx 2 (by rfl) trivial (by kernel_rfl) (by kernel_rfl) (by kernel_rfl) (by kernel_rfl) (fun w_ => Runs.fld fld24_5 rfl) rfl ?_
          refine WE.pure (g := none) hx 4 (by rfl) trivial (by kernel_rfl) (by kernel_rfl) (by kernel_rfl) (by kernel_rfl) (fun w_ => Runs.move rfl) rfl ?_
          refine WE.val (g := none) 12 hx 1 (by rfl) trivial (by kernel_rfl) (by kernel_rfl) (by kernel_rfl) (by kernel_rfl) (fun w_ hE_ => Runs.load1 Try.underlying22 rfl rfl (hE_.ocell (i := 1) rfl rfl)) rfl ?_
          refine WE.val (g := none) 12 hx 3 (by rfl) trivial (by kernel_rfl) (by kernel_rfl) (by kernel_rfl) (by kernel_rfl) (fun w_ hE_ => Runs.load1 Try.underlying22 rfl rfl (hE_.ocell (i := 3) rfl rfl)) rfl ?_
          refine WE.pure (g := none) hx 5 (by rfl) trivial (by kernel_rfl) (by kernel_rfl) (by kernel_rfl) (by kernel_rfl) (fun w_ => Runs.lidxN Try.underlying22 inf3 rfl rfl (n := i) rfl (by omega)) rfl ?_
          refine WE.val (g := none) 12 hx 6 (by rfl) trivial (by kernel_rfl) (by kernel_rfl) (by kernel_rfl) (by kernel_rfl) (fun w_ hE_ => Runs.loadR (f := Vi) (0 : Int) hE_ hrd (n := i) (by omega) Try.underlying3 rfl rfl) rfl ?_
          refine WE.op (.inr h23) (i := 7) (by rfl) (by kernel_rfl) ?_
          refine WL.lit (vs := (([(c.nd.getD i 0)] : List Int)).map Vi) h23 rfl Try.underlying22 inf3 rfl rfl rfl rfl rfl ?_
          intro lit69 w24 h24
          refine WL.nil ?_
          refine WE.next ?_
          refine WE.op (.inr (h24.drop 0)) (i := 8) (by rfl) (by kernel_rfl) ?_
          refine WL.app (ys := ([(c.nd.getD i 0)] : List Int)) 1 h24 rfl rfl rfl rfl Try.underlying22 Try.underlying22 (.inr ⟨_, rfl⟩) inf3 rfl hro (Src.lit h24 0 rfl rfl rfl) rfl rfl (by first | omega | (simp []; done) | (simp []; omega)) (by first | omega | (simp []; done) | (simp []; omega)) ?_
          intro r25 v25 w26 hr25 h26
          simp only [List.set_cons_zero, List.set_cons_succ] at h26
          replace h26 := h26.drop 0
          simp only [List.eraseIdx_cons_zero, List.eraseIdx_cons_succ] at h26
          refine WL.nil ?_
          refine WE.next ?_
          refine WE.pure (g := none) hx 9 (by rfl) trivial (by kernel_rfl) (by kernel_rfl) (by kernel_rfl) (by kernel_rfl) (fun w_ => Runs.fld fld24_5 rfl) rfl ?_
          refine WE.op (.inl ⟨8, rfl, by kernel_rfl⟩) (i := 10) (by rfl) (by kernel_rfl) ?_
          refine WL.store' h26 1 rfl rfl rfl inf22 (by obtain ⟨_, _, e_, _⟩ := hr25.val; rw [e_]; exact rfl) (by obtain ⟨_, _, e_, _⟩ := hr25.val; rw [e_]; exact rfl) (Free.zero _) (by obtain ⟨_, _, e_, _⟩ := hr25.val; rw [e_]; exact Nat.le_of_ble_eq_true rfl) ?_
          intro  w28 h28
          try simp only [List.set_cons_zero, List.set_cons_succ, List.eraseIdx_cons_zero, List.eraseIdx_cons_succ] at h28
          obtain ⟨B27, c27, rfl, hc27⟩ := hr25.val
          replace h28 : St W F (_ :: [(b7, .cells #[Vi c.jb, Vi c.ep, Vi c.st, Vi c.fr, Vi c.un, .slice B27 (ys ++ [(c.nd.getD i 0)]).length c27, Vi c.co] 24 (0, 0))] :: [(b4, .cells #[Vi a.jb, Vi a.ep, Vi a.st, Vi a.nd, Vi a.co, Vi a.tm] 37 (0, 0))] :: [(b3, .cells #[Vi c.jb, Vi c.ep, Vi c.st, Vi c.fr, Vi c.un, .slice _ c.nd.length cap, Vi c.co] 24 (0, 0))] :: cs) w28 := h28
          refine WL.nil ?_
          refine WE.next ?_
          refine WE.fin (.inl ⟨8, rfl, by kernel_rfl⟩) (by kernel_rfl) ?_
          refine WN.blk ?_
          refine WN.thn ?_
          refine WC.reg ?_
          refine WL.v (Runs.move rfl) rfl ?_
          refine WL.v (Runs.addn rfl rfl (by omega)) rfl ?_
          refine WL.v (Runs.assign rfl) rfl ?_
          refine WL.nil ?_
          have hs2 : (decide ((c.nd.getD i 0) = n), ys ++ [(c.nd.getD i 0)]) = scF n c.nd (i + 1) := by rw [scF_s hi2, ← hs, sc_B (fun hh => by omega)]
          exact WN.again (⟨i + 1, _, _, _, _⟩ : Nat × Bool × List Int × Res × Value) (by show c.nd.length - (i + 1) < c.nd.length - i; omega) ⟨rfl, rfl, rfl, rfl, rfl, rfl, trivial⟩ ⟨by show i + 1 ≤ _; omega, hs2, hr25, h28⟩
        · skip
          refine WC.reg ?_
          refine WL.v (Runs.move rfl) rfl ?_
          refine WL.v (Runs.boolT (c := true) (Runs.not rfl) rfl) rfl ?_
          refine WL.v (Runs.move rfl) rfl ?_
          refine WL.gon rfl rfl rfl ?_
          refine WL.v (Runs.move rfl) rfl ?_
          refine WL.gon rfl rfl rfl ?_
          refine WL.v (Runs.boolT (c := true) (Runs.geq rfl rfl) (by rw [decide_eq_true_eq]; omega)) rfl ?_
          refine WL.v (Runs.pick rfl rfl rfl) rfl ?_
          refine WL.v (Runs.move rfl) rfl ?_
          refine WL.gon rfl rfl rfl ?_
          refine WL.v (Runs.move rfl) rfl ?_
          refine WL.gon rfl rfl rfl ?_
          refine WL.v (Runs.fld fld24_5 rfl) rfl ?_
          refine WL.gon rfl rfl rfl ?_
          refine WL.v (Runs.load1 Try.underlying22 rfl rfl (hL.ocell (i := 3) rfl rfl)) rfl ?_
          refine WL.gon rfl rfl rfl ?_
          refine WL.v (Runs.move rfl) rfl ?_
          refine WL.gon rfl rfl rfl ?_
          refine WL.v (Runs.lidxN Try.underlying22 inf3 rfl rfl (n := i) rfl (by omega)) rfl ?_
          refine WL.gon rfl rfl rfl ?_
          refine WL.v (Runs.loadR (f := Vi) (0 : Int) hL hrd (n := i) (by omega) Try.underlying3 rfl rfl) rfl ?_
          refine WL.gon rfl rfl rfl ?_
          refine WL.v (Runs.boolT (c := false) (Runs.lss rfl rfl) (by rw [decide_eq_false_iff_not]; omega)) rfl ?_
          refine WL.v (Runs.pick rfl rfl rfl) rfl ?_
          refine WL.nil ?_
          refine WN.thn ?_
          refine WC.condF rfl (rfl) ?_
          refine WC.skip ?_
          refine WN.thn ?_
          refine WC.seq ?_
          refine WC.reg ?_
          refine WL.v (Runs.move rfl) rfl ?_
          refine WL.v (Runs.move rfl) rfl ?_
          refine WL.gon rfl rfl rfl ?_
          refine WL.v (Runs.fld fld24_5 rfl) rfl ?_
          refine WL.gon rfl rfl rfl ?_
          refine WL.v (Runs.load1 Try.underlying22 rfl rfl (hL.ocell (i := 3) rfl rfl)) rfl ?_
          refine WL.gon rfl rfl rfl ?_
          refine WL.v (Runs.move rfl) rfl ?_
          refine WL.gon rfl rfl rfl ?_
          refine WL.v (Runs.lidxN Try.underlying22 inf3 rfl rfl (n := i) rfl (by omega)) rfl ?_
          refine WL.gon rfl rfl rfl ?_
          refine WL.v (Runs.loadR (f := Vi) (0 : Int) hL hrd (n := i) (by omega) Try.underlying3 rfl rfl) rfl ?_
          refine WL.gon rfl rfl rfl ?_
          refine WL.v (Runs.move rfl) rfl ?_
          refine WL.gon rfl rfl rfl ?_
          refine WL.v (Runs.eql rfl rfl) rfl ?_
          refine WL.v (Runs.pick rfl rfl rfl) rfl ?_
          refine WL.v (Runs.assign rfl) rfl ?_
          refine WL.nil ?_
          refine WN.thn ?_
          refine WC.eregO hL (fun s_ => ([8, 10] : List Nat).any (Nat.beq s_)) mixed (by kernel_rfl) (fun hx => ?_)
          intro w29 h29
          refine WE.pure (g := none) hx 0 (by rfl) trivial (by kernel_rfl) (by kernel_rfl) (by kernel_rfl) (by kernel_rfl) (fun w_ => Runs.fld fld24_5 rfl) rfl ?_
          refine WE.pure (g := none) hx 2 (by rfl) trivial (by kernel_rfl) (by kernel_rfl) (by kernel_rfl) (by kernel_rfl) (fun w_ => Runs.fld fld24_5 rfl) rfl ?_
          refine WE.pure (g := none) hx 4 (by rfl) trivial (by kernel_rfl) (by kernel_rfl) (by kernel_rfl) (by kernel_rfl) (fun w_ => Runs.move rfl) rfl ?_
          refine WE.val (g := none) 12 hx 1 (by rfl) trivial (by kernel_rfl) (by kernel_rfl) (by kernel_rfl) (by kernel_rfl) (fun w_ hE_ => Runs.load1 Try.underlying22 rfl rfl (hE_.ocell (i := 1) rfl rfl)) rfl ?_
          refine WE.val (g := none) 12 hx 3 (by rfl) trivial (by kernel_rfl) (by kernel_rfl) (by kernel_rfl) (by kernel_rfl) (fun w_ hE_ => Runs.load1 Try.underlying22 rfl rfl (hE_.ocell (i := 3) rfl rfl)) rfl ?_
          refine WE.pure (g := none) hx 5 (by rfl) trivial (by kernel_rfl) (by kernel_rfl) (by kernel_rfl) (by kernel_rfl) (fun w_ => Runs.lidxN Try.underlying22 inf3 rfl rfl (n := i) rfl (by omega)) rfl ?_
          refine WE.val (g := none) 12 hx 6 (by rfl) trivial (by kernel_rfl) (by kernel_rfl) (by kernel_rfl) (by kernel_rfl) (fun w_ hE_ => Runs.loadR (f := Vi) (0 : Int) hE_ hrd (n := i) (by omega) Try.underlying3 rfl rfl) rfl ?_
          refine WE.op (.inr h29) (i := 7) (by rfl) (by kernel_rfl) ?_
          refine WL.lit (vs := (([(c.nd.getD i 0)] : List Int)).map Vi) h29 rfl Try.underlying22 inf3 rfl rfl rfl rfl rfl ?_
          intro lit69 w30 h30
          refine WL.nil ?_
          refine WE.next ?_
          refine WE.op (.inr (h30.drop 0)) (i := 8) (by rfl) (by kernel_rfl) ?_
          refine WL.app (ys := ([(c.nd.getD i 0)] : List Int)) 1 h30 rfl rfl rfl rfl Try.underlying22 Try.underlying22 (.inr ⟨_, rfl⟩) inf3 rfl hro (Src.lit h30 0 rfl rfl rfl) rfl rfl (by first | omega | (simp []; done) | (simp []; omega)) (by first | omega | (simp []; done) | (simp []; omega)) ?_
          intro r31 v31 w32 hr31 h32
          simp only [List.set_cons_zero, List.set_cons_succ] at h32
          replace h32 := h32.drop 0
          simp only [List.eraseIdx_cons_zero, List.eraseIdx_cons_succ] at h32
          refine WL.nil ?_
          refine WE.next ?_
          refine WE.pure (g := none) hx 9 (by rfl) trivial (by kernel_rfl) (by kernel_rfl) (by kernel_rfl) (by kernel_rfl) (fun w_ => Runs.fld fld24_5 rfl) rfl ?_
          refine WE.op (.inl ⟨8, rfl, by kernel_rfl⟩) (i := 10) (by rfl) (by kernel_rfl) ?_
          refine WL.store' h32 1 rfl rfl rfl inf22 (by obtain ⟨_, _, e_, _⟩ := hr31.val; rw [e_]; exact rfl) (by obtain ⟨_, _, e_, _⟩ := hr31.val; rw [e_]; exact rfl) (Free.zero _) (by obtain ⟨_, _, e_, _⟩ := hr31.val; rw [e_]; exact Nat.le_of_ble_eq_true rfl) ?_
          intro  w34 h34
          try simp only [List.set_cons_zero, List.set_cons_succ, List.eraseIdx_cons_zero, List.eraseIdx_cons_succ] at h34
          obtain ⟨B33, c33, rfl, hc33⟩ := hr31.val
          replace h34 : St W F (_ :: [(b7, .cells #[Vi c.jb, Vi c.ep, Vi c.st, Vi c.fr, Vi c.un, .slice B33 (ys ++ [(c.nd.getD i 0)]).length c33, Vi c.co] 24 (0, 0))] :: [(b4, .cells #[Vi a.jb, Vi a.ep, Vi a.st, Vi a.nd, Vi a.co, Vi a.tm] 37 (0, 0))] :: [(b3, .cells #[Vi c.jb, Vi c.ep, Vi c.st, Vi c.fr, Vi c.un, .slice _ c.nd.length cap, Vi c.co] 24 (0, 0))] :: cs) w34 := h34
          refine WL.nil ?_
          refine WE.next ?_
          refine WE.fin (.inl ⟨8, rfl, by kernel_rfl⟩) (by kernel_rfl) ?_
          refine WN.blk ?_
          refine WN.thn ?_
          refine WC.reg ?_
          refine WL.v (Runs.move rfl) rfl ?_
          refine WL.v (Runs.addn rfl rfl (by omega)) rfl ?_
          refine WL.v (Runs.assign rfl) rfl ?_
          refine WL.nil ?_
          have hs2 : (decide ((c.nd.getD i 0) = n), ys ++ [(c.nd.getD i 0)]) = scF n c.nd (i + 1) := by rw [scF_s hi2, ← hs, sc_B (fun hh => by omega)]
          exact WN.again (⟨i + 1, _, _, _, _⟩ : Nat × Bool × List Int × Res × Value) (by show c.nd.length - (i + 1) < c.nd.length - i; omega) ⟨rfl, rfl, rfl, rfl, rfl, rfl, trivial⟩ ⟨by show i + 1 ≤ _; omega, hs2, hr31, h34⟩
        · skip
          refine WC.reg ?_
          refine WL.v (Runs.move rfl) rfl ?_
          refine WL.v (Runs.boolT (c := true) (Runs.not rfl) rfl) rfl ?_
          refine WL.v (Runs.move rfl) rfl ?_
          refine WL.gon rfl rfl rfl ?_
          refine WL.v (Runs.move rfl) rfl ?_
          refine WL.gon rfl rfl rfl ?_
          refine WL.v (Runs.boolT (c := true) (Runs.geq rfl rfl) (by rw [decide_eq_true_eq]; omega)) rfl ?_
          refine WL.v (Runs.pick rfl rfl rfl) rfl ?_
          refine WL.v (Runs.move rfl) rfl ?_
          refine WL.gon rfl rfl rfl ?_
          refine WL.v (Runs.move rfl) rfl ?_
          refine WL.gon rfl rfl rfl ?_
          refine WL.v (Runs.fld fld24_5 rfl) rfl ?_
          refine WL.gon rfl rfl rfl ?_
          refine WL.v (Runs.load1 Try.underlying22 rfl rfl (hL.ocell (i := 3) rfl rfl)) rfl ?_
          refine WL.gon rfl rfl rfl ?_
          refine WL.v (Runs.move rfl) rfl ?_
          refine WL.gon rfl rfl rfl ?_
          refine WL.v (Runs.lidxN Try.underlying22 inf3 rfl rfl (n := i) rfl (by omega)) rfl ?_
          refine WL.gon rfl rfl rfl ?_
          refine WL.v (Runs.loadR (f := Vi) (0 : Int) hL hrd (n := i) (by omega) Try.underlying3 rfl rfl) rfl ?_
          refine WL.gon rfl rfl rfl ?_
          refine WL.v (Runs.boolT (c := true) (Runs.lss rfl rfl) (by rw [decide_eq_true_eq]; omega)) rfl ?_
          refine WL.v (Runs.pick rfl rfl rfl) rfl ?_
          refine WL.nil ?_
          refine WN.thn ?_
          refine WC.condT rfl (rfl) ?_
          refine WC.seq ?_
          refine WC.reg ?_
          refine WL.v (Runs.fld fld24_5 rfl) rfl ?_
          refine WL.v (Runs.load1 Try.underlying22 rfl rfl (hL.ocell (i := 1) rfl rfl)) rfl ?_
          refine WL.v (Runs.move rfl) rfl ?_
          refine WL.lit (vs := (([n] : List Int)).map Vi) hL rfl Try.underlying22 inf3 rfl rfl rfl rfl rfl ?_
          intro lit49 w35 h35
          refine WL.app (ys := ([n] : List Int)) 1 h35 rfl rfl rfl rfl Try.underlying22 Try.underlying22 (.inr ⟨_, rfl⟩) inf3 rfl hro (Src.lit h35 0 rfl rfl rfl) rfl rfl (by first | omega | (simp []; done) | (simp []; omega)) (by first | omega | (simp []; done) | (simp []; omega)) ?_
          intro r36 v36 w37 hr36 h37
          simp only [List.set_cons_zero, List.set_cons_succ] at h37
          replace h37 := h37.drop 0
          simp only [List.eraseIdx_cons_zero, List.eraseIdx_cons_succ] at h37
          refine WL.v (Runs.fld fld24_5 rfl) rfl ?_
          refine WL.store' h37 1 rfl rfl rfl inf22 (by obtain ⟨_, _, e_, _⟩ := hr36.val; rw [e_]; exact rfl) (by obtain ⟨_, _, e_, _⟩ := hr36.val; rw [e_]; exact rfl) (Free.zero _) (by obtain ⟨_, _, e_, _⟩ := hr36.val; rw [e_]; exact Nat.le_of_ble_eq_true rfl) ?_
          intro  w39 h39
          try simp only [List.set_cons_zero, List.set_cons_succ, List.eraseIdx_cons_zero, List.eraseIdx_cons_succ] at h39
          obtain ⟨B38, c38, rfl, hc38⟩ := hr36.val
          replace h39 : St W F (_ :: [(b7, .cells #[Vi c.jb, Vi c.ep, Vi c.st, Vi c.fr, Vi c.un, .slice B38 (ys ++ [n]).length c38, Vi c.co] 24 (0, 0))] :: [(b4, .cells #[Vi a.jb, Vi a.ep, Vi a.st, Vi a.nd, Vi a.co, Vi a.tm] 37 (0, 0))] :: [(b3, .cells #[Vi c.jb, Vi c.ep, Vi c.st, Vi c.fr, Vi c.un, .slice _ c.nd.length cap, Vi c.co] 24 (0, 0))] :: cs) w39 := h39
          refine WL.nil ?_
          refine WN.thn ?_
          refine WC.reg ?_
          refine WL.v (Runs.assign rfl) rfl ?_
          refine WL.nil ?_
          refine WN.thn ?_
          refine WC.seq ?_
          refine WC.reg ?_
          refine WL.v (Runs.move rfl) rfl ?_
          refine WL.v (Runs.move rfl) rfl ?_
          refine WL.goff rfl rfl rfl rfl ?_
          refine WL.goff rfl rfl rfl rfl ?_
          refine WL.goff rfl rfl rfl rfl ?_
          refine WL.goff rfl rfl rfl rfl ?_
          refine WL.goff rfl rfl rfl rfl ?_
          refine WL.goff rfl rfl rfl rfl ?_
          refine WL.goff rfl rfl rfl rfl ?_
          refine WL.v (Runs.pick rfl rfl rfl) rfl ?_
          refine WL.v (Runs.assign rfl) rfl ?_
          refine WL.nil ?_
          refine WN.thn ?_
          refine WC.eregO h39 (fun s_ => ([8, 10] : List Nat).any (Nat.beq s_)) mixed (by kernel_rfl) (fun hx => ?_)
          intro w40 h40
          refine WE.pure (g := none) hx 0 (by rfl) trivial (by kernel_rfl) (by kernel_rfl) (by kernel_rfl) (by kernel_rfl) (fun w_ => Runs.fld fld24_5 rfl) rfl ?_
          refine WE.pure (g := none) hx 2 (by rfl) trivial (by kernel_rfl) (by kernel_rfl) (by kernel_rfl) (by kernel_rfl) (fun w_ => Runs.fld fld24_5 rfl) rfl ?_
          refine WE.pure (g := none) hx 4 (by rfl) trivial (by kernel_rfl) (by kernel_rfl) (by kernel_rfl) (by kernel_rfl) (fun w_ => Runs.move rfl) rfl ?_
          refine WE.val (g := none) 12 hx 1 (by rfl) trivial (by kernel_rfl) (by kernel_rfl) (by kernel_rfl) (by kernel_rfl) (fun w_ hE_ => Runs.load1 Try.underlying22 rfl rfl (hE_.ocell (i := 1) rfl rfl)) rfl ?_
          refine WE.val (g := none) 12 hx 3 (by rfl) trivial (by kernel_rfl) (by kernel_rfl) (by kernel_rfl) (by kernel_rfl) (fun w_ hE_ => Runs.load1 Try.underlying22 rfl rfl (hE_.ocell (i := 3) rfl rfl)) rfl ?_
          refine WE.pure (g := none) hx 5 (by rfl) trivial (by kernel_rfl) (by kernel_rfl) (by kernel_rfl) (by kernel_rfl) (fun w_ => Runs.lidxN Try.underlying22 inf3 rfl rfl (n := i) rfl (by omega)) rfl ?_
          refine WE.val (g := none) 12 hx 6 (by rfl) trivial (by kernel_rfl) (by kernel_rfl) (by kernel_rfl) (by kernel_rfl) (fun w_ hE_ => Runs.loadR (f := Vi) (0 : Int) hE_ hrd (n := i) (by omega) Try.underlying3 rfl rfl) rfl ?_
          refine WE.op (.inr h40) (i := 7) (by rfl) (by kernel_rfl) ?_
          refine WL.lit (vs := (([(c.nd.getD i 0)] : List Int)).map Vi) h40 rfl Try.underlying22 inf3 rfl rfl rfl rfl rfl ?_
          intro lit69 w41 h41
          refine WL.nil ?_
          refine WE.next ?_
          refine WE.op (.inr (h41.drop 0)) (i := 8) (by rfl) (by kernel_rfl) ?_
          refine WL.app (ys := ([(c.nd.getD i 0)] : List Int)) 1 h41 rfl rfl rfl rfl Try.underlying22 Try.underlying22 (.inr ⟨_, rfl⟩) inf3 rfl hr36 (Src.lit h41 0 rfl rfl rfl) rfl rfl (by first | omega | (simp []; done) | (simp []; omega)) (by first | omega | (simp []; done) | (simp []; omega)) ?_
          intro r42 v42 w43 hr42 h43
          simp only [List.set_cons_zero, List.set_cons_succ] at h43
          replace h43 := h43.drop 0
          simp only [List.eraseIdx_cons_zero, List.eraseIdx_cons_succ] at h43
          refine WL.nil ?_
          refine WE.next ?_
          refine WE.pure (g := none) hx 9 (by rfl) trivial (by kernel_rfl) (by kernel_rfl) (by kernel_rfl) (by kernel_rfl) (fun w_ => Runs.fld fld24_5 rfl) rfl ?_
          refine WE.op (.inl ⟨8, rfl, by kernel_rfl⟩) (i := 10) (by rfl) (by kernel_rfl) ?_
          refine WL.store' h43 1 rfl rfl rfl inf22 (by obtain ⟨_, _, e_, _⟩ := hr42.val; rw [e_]; exact rfl) (by obtain ⟨_, _, e_, _⟩ := hr42.val; rw [e_]; exact rfl) (Free.zero _) (by obtain ⟨_, _, e_, _⟩ := hr42.val; rw [e_]; exact Nat.le_of_ble_eq_true rfl) ?_
          intro  w45 h45
          try simp only [List.set_cons_zero, List.set_cons_succ, List.eraseIdx_cons_zero, List.eraseIdx_cons_succ] at h45
          obtain ⟨B44, c44, rfl, hc44⟩ := hr42.val
          replace h45 : St W F (_ :: [(b7, .cells #[Vi c.jb, Vi c.ep, Vi c.st, Vi c.fr, Vi c.un, .slice B44 ((ys ++ [n]) ++ [(c.nd.getD i 0)]).length c44, Vi c.co] 24 (0, 0))] :: [(b4, .cells #[Vi a.jb, Vi a.ep, Vi a.st, Vi a.nd, Vi a.co, Vi a.tm] 37 (0, 0))] :: [(b3, .cells #[Vi c.jb, Vi c.ep, Vi c.st, Vi c.fr, Vi c.un, .slice _ c.nd.length cap, Vi c.co] 24 (0, 0))] :: cs) w45 := h45
          refine WL.nil ?_
          refine WE.next ?_
          refine WE.fin (.inl ⟨8, rfl, by kernel_rfl⟩) (by kernel_rfl) ?_
          refine WN.blk ?_
          refine WN.thn ?_
          refine WC.reg ?_
          refine WL.v (Runs.move rfl) rfl ?_
          refine WL.v (Runs.addn rfl rfl (by omega)) rfl ?_
          refine WL.v (Runs.assign rfl) rfl ?_
          refine WL.nil ?_
          have hs2 : (true, (ys ++ [n]) ++ [(c.nd.getD i 0)]) = scF n c.nd (i + 1) := by rw [scF_s hi2, ← hs, sc_D g3 g4]
          exact WN.again (⟨i + 1, _, _, _, _⟩ : Nat × Bool × List Int × Res × Value) (by show c.nd.length - (i + 1) < c.nd.length - i; omega) ⟨rfl, rfl, rfl, rfl, rfl, rfl, trivial⟩ ⟨by show i + 1 ≤ _; omega, hs2, hr42, h45⟩
    · try simp only [decide_eq_true_eq, decide_eq_false_iff_not, Bool.not_eq_true', Bool.not_eq_false', Bool.and_eq_true, Int.not_lt, Int.not_le] at c16
      first
      | (exfalso; omega)
      | skip
        refine WC.exit ?_
        refine WX.thn ?_
        refine WX.cut ?_
        refine WX.hit ?_
        refine WN.thn ?_
        refine WC.seq ?_
        refine WC.reg ?_
        refine WL.v (Runs.fld fld24_6 rfl) rfl ?_
        refine WL.store' hL 1 rfl rfl rfl inf3 rfl rfl (Free.zero _) (Nat.le_of_ble_eq_true rfl) ?_
        intro  w46 h46
        try simp only [List.set_cons_zero, List.set_cons_succ, List.eraseIdx_cons_zero, List.eraseIdx_cons_succ] at h46
        replace h46 : St W F (_ :: [(b7, .cells #[Vi c.jb, Vi c.ep, Vi c.st, Vi c.fr, Vi c.un, (.slice B ys.length cp), Vi 256] 24 (0, 0))] :: [(b4, .cells #[Vi a.jb, Vi a.ep, Vi a.st, Vi a.nd, Vi a.co, Vi a.tm] 37 (0, 0))] :: [(b3, .cells #[Vi c.jb, Vi c.ep, Vi c.st, Vi c.fr, Vi c.un, .slice A c.nd.length cap, Vi c.co] 24 (0, 0))] :: cs) w46 := h46
        refine WL.nil ?_
        refine WN.thn ?_
        refine WC.seq ?_
        refine WC.reg ?_
        refine WL.v (Runs.fld fld24_3 rfl) rfl ?_
        refine WL.store' h46 1 rfl rfl rfl inf3 rfl rfl (Free.zero _) (Nat.le_of_ble_eq_true rfl) ?_
        intro  w47 h47
        try simp only [List.set_cons_zero, List.set_cons_succ, List.eraseIdx_cons_zero, List.eraseIdx_cons_succ] at h47
        replace h47 : St W F (_ :: [(b7, .cells #[Vi c.jb, Vi c.ep, Vi c.st, Vi 0, Vi c.un, (.slice B ys.length cp), Vi 256] 24 (0, 0))] :: [(b4, .cells #[Vi a.jb, Vi a.ep, Vi a.st, Vi a.nd, Vi a.co, Vi a.tm] 37 (0, 0))] :: [(b3, .cells #[Vi c.jb, Vi c.ep, Vi c.st, Vi c.fr, Vi c.un, .slice A c.nd.length cap, Vi c.co] 24 (0, 0))] :: cs) w47 := h47
        refine WL.nil ?_
        refine WN.thn ?_
        refine WC.seq ?_
        refine WC.reg ?_
        refine WL.v (Runs.fld fld24_4 rfl) rfl ?_
        refine WL.store' h47 1 rfl rfl rfl inf3 rfl rfl (Free.zero _) (Nat.le_of_ble_eq_true rfl) ?_
        intro  w48 h48
        try simp only [List.set_cons_zero, List.set_cons_succ, List.eraseIdx_cons_zero, List.eraseIdx_cons_succ] at h48
        replace h48 : St W F (_ :: [(b7, .cells #[Vi c.jb, Vi c.ep, Vi c.st, Vi 0, Vi 1099511627776, (.slice B ys.length cp), Vi 256] 24 (0, 0))] :: [(b4, .cells #[Vi a.jb, Vi a.ep, Vi a.st, Vi a.nd, Vi a.co, Vi a.tm] 37 (0, 0))] :: [(b3, .cells #[Vi c.jb, Vi c.ep, Vi c.st, Vi c.fr, Vi c.un, .slice A c.nd.length cap, Vi c.co] 24 (0, 0))] :: cs) w48 := h48
        refine WL.nil ?_
        refine WN.thn ?_
        refine WC.seq ?_
        obtain ⟨G9, hG9, gf9, hS9⟩ := h48.freeze (i := 0) rfl
        have rdo : RdS (Kd.one Vi) G9 _ ys := Row.read hro rfl gf9
        replace h48 := hS9
        simp only [List.eraseIdx_cons_zero] at h48
        obtain rfl : i = c.nd.length := by omega
        have hyl : ys.length ≤ 100000 := by omega
        have hfin : allowsM ⟨c.jb, c.ep, c.st, 0, 1099511627776, ys, 256⟩ a = 0 := by
          have h9 := al_scope (n := n) (c := c) (a := a) g2
          unfold scC at h9
          rw [← hs] at h9
          exact h9
        
        refine WC.qreg (C := fun w_ => St W _ _ w_) mixed (by kernel_rfl) (h48.drew) ?_
        refine WQ.val (fun w_ hC_ => Runs.loadAll hC_ 0 rfl Try.underlying24 rfl inf24 rfl rfl) rfl ?_
        refine WQ.val (fun w_ hC_ => Runs.loadAll hC_ 1 rfl Try.underlying37 rfl inf37 rfl rfl) rfl ?_
        refine WQ.call can22 rfl rfl (fun w_ hC_ => own_c _ a hC_) ?_
        refine WQ.call can21 rfl rfl (fun w_ hC_ => allows_c (c := ⟨c.jb, c.ep, c.st, 0, 1099511627776, ys, 256⟩) _ a hC_ rdo hyl) ?_
        refine WQ.val (fun w_ hC_ => Runs.boolT (c := true) (Runs.eql rfl rfl) (decide_eq_true hfin)) rfl ?_
        refine WQ.val (fun w_ hC_ => Runs.move rfl) rfl ?_
        refine WQ.gon rfl rfl rfl ?_
        refine WQ.call can9 rfl rfl (fun w_ hC_ => live_c _ hC_) ?_
        refine WQ.val (fun w_ hC_ => Runs.pick rfl rfl rfl) rfl ?_
        refine WQ.val (fun w_ hC_ => Runs.assign rfl) rfl ?_
        refine WQ.fin ?_
        intro w49 h49
        refine WN.thn ?_
        refine WC.ret ?_
        exact ret1 rfl rfl ⟨rfl, ((((h49.drop 0).drop 0).drop 0)).weak hG9⟩
end Cr
end Go.Proofs.Ytbkfjedecepfoaa
