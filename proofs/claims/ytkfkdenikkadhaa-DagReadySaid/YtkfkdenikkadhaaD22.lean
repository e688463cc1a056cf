/- Walks of package dag: the law DagOrder. -/
import Derived.Test.YtkfkdenikkadhaaD21
namespace Go.Proofs.Ytkfkdenikkadhaa
open Go Go.RowKit B
set_option linter.unusedVariables false
set_option linter.unusedSimpArgs false
namespace Dg

theorem can22 : B.Can Try.prog 22 := ⟨_, Try.func22, by kernel_rfl, rfl⟩   -- roundhouse/roundhouselaw13.in
theorem odM_y {l : List S} (h : chkM l = 0) : odM l = ordM l := if_pos h
theorem odM_n {l : List S} (h : chkM l ≠ 0) : odM l = [] := if_neg h
theorem odM_spec {l : List S} (h : chkM l = 0) : (odM l).length = l.length ∧ ∀ i, i < (odM l).length → (0 ≤ (odM l).getD i 0 ∧ (odM l).getD i 0 < l.length) ∧ (odM l).getD i 0 ∉ (odM l).take i ∧ ∀ k, k < (l.getD ((odM l).getD i 0).toNat S0).af.length → ((l.getD ((odM l).getD i 0).toNat S0).af.getD k E0).st ∈ (odM l).take i := by
  rw [odM_y h]
  have h1 := (chk_ok h).2.2
  have h2 := ordM_len l
  refine ⟨by omega, fun i hi => ⟨ordM_in _ (mem_getD hi), ?_⟩⟩
  refine ordM_good l ((ordM l).take i) _ ((ordM l).drop (i + 1)) ?_
  conv => lhs; rw [← List.take_append_drop i (ordM l)]
  rw [List.drop_eq_getElem_cons hi, List.getD_eq_getElem?_getD, List.getElem?_eq_getElem hi]
  rfl
set_option maxRecDepth 100000 in
set_option maxHeartbeats 8000000 in
theorem order_law {W : World} {F : Snap} {cs : List Res} (w : World) {A : Option Addr} {cap : Nat} {l : List S} (h : St W F cs w) (hR : RdS KS F A l) (hl : l.length ≤ 9223372036854775807) : Calls Try.prog 5 #[.slice A l.length cap] w fun r w' => r = .returned (.bool true) ∧ St W F cs w'  := by
  refine enter (P := Try.prog) (args := [.slice A l.length cap]) Try.func5 rfl rfl rfl ?_
  refine WC.seq ?_
  refine WC.reg ?_
  refine WL.v (Runs.assign rfl) rfl ?_
  refine WL.nil ?_
  refine WN.thn ?_
  refine WC.seq ?_
  refine WC.seq ?_
  refine WC.reg ?_
  refine WL.v (Runs.move rfl) rfl ?_
  refine WL.call can9 rfl rfl (small_c _ h hR hl) ?_
  rintro _ w1 ⟨rfl, h1⟩
  refine ⟨_, rfl, ?_⟩
  refine WL.v (Runs.not rfl) rfl ?_
  refine WL.nil ?_
  refine WN.thn ?_
  refine WC.cond rfl (fun c2 => ?_) (fun c2 => ?_)
  · try simp only [decide_eq_true_eq, decide_eq_false_iff_not, Bool.not_eq_true', Bool.not_eq_false', Bool.and_eq_true, Int.not_lt, Int.not_le] at c2
    first
    | (exfalso; omega)
    | skip
      refine WC.seq ?_
      refine WC.reg ?_
      refine WL.call can10 rfl rfl (live_c _ h1) ?_
      rintro _ w3 ⟨rfl, h3⟩
      refine ⟨_, rfl, ?_⟩
      refine WL.v (Runs.assign rfl) rfl ?_
      refine WL.nil ?_
      refine WN.thn ?_
      refine WC.ret ?_
      exact ret1 rfl rfl ⟨rfl, h3⟩
  · try simp only [decide_eq_true_eq, decide_eq_false_iff_not, Bool.not_eq_true', Bool.not_eq_false', Bool.and_eq_true, Int.not_lt, Int.not_le] at c2
    first
    | (exfalso; omega)
    | skip
      refine WC.skip ?_
      refine WN.thn ?_
      refine WC.seq ?_
      have hle : Le F F := Le.refl F
      have hsm : smallL l := by simpa using c2
      obtain ⟨hf, hl2⟩ := hsm.few
      refine WC.reg ?_
      refine WL.v (Runs.move rfl) rfl ?_
      refine WL.call can14 rfl rfl (Order_c _ h1 hR hl2 hf) ?_
      rintro _ w4 ⟨Ga, Aa, capa, hGa, rfl, hca, rda, h4⟩
      refine ⟨_, rfl, ?_⟩
      replace hR := hR.mono hGa
      replace hle := Le.trans hle hGa
      refine WL.v (Runs.assign rfl) rfl ?_
      refine WL.nil ?_
      refine WN.thn ?_
      refine WC.seq ?_
      refine WC.seq ?_
      refine WC.reg ?_
      refine WL.v (Runs.move rfl) rfl ?_
      refine WL.call can11 rfl rfl (check_c _ h4 hR hl2 hf) ?_
      rintro _ w5 ⟨rfl, h5⟩
      refine ⟨_, rfl, ?_⟩
      refine WL.v (Runs.neq rfl rfl) rfl ?_
      refine WL.nil ?_
      refine WN.thn ?_
      refine WC.cond rfl (fun c6 => ?_) (fun c6 => ?_)
      · try simp only [decide_eq_true_eq, decide_eq_false_iff_not, Bool.not_eq_true', Bool.not_eq_false', Bool.and_eq_true, Int.not_lt, Int.not_le] at c6
        first
        | (exfalso; omega)
        | skip
          refine WC.seq ?_
          refine WC.reg ?_
          refine WL.v (Runs.move rfl) rfl ?_
          refine WL.v (Runs.intT (n := ((odM l).length : Int)) (Runs.llen Try.underlying28 rfl rfl) rfl) rfl ?_
          refine WL.v (Runs.boolT (c := true) (Runs.eql rfl rfl) (by rw [odM_n (by simpa using c6)]; rfl)) rfl ?_
          refine WL.v (Runs.move rfl) rfl ?_
          refine WL.gon rfl rfl rfl ?_
          refine WL.call can10 rfl rfl (live_c _ h5) ?_
          rintro _ w7 ⟨rfl, h7⟩
          refine ⟨_, rfl, ?_⟩
          refine WL.v (Runs.pick rfl rfl rfl) rfl ?_
          refine WL.v (Runs.assign rfl) rfl ?_
          refine WL.nil ?_
          refine WN.thn ?_
          refine WC.ret ?_
          exact ret1 rfl rfl ⟨rfl, h7.weak hle⟩
      · try simp only [decide_eq_true_eq, decide_eq_false_iff_not, Bool.not_eq_true', Bool.not_eq_false', Bool.and_eq_true, Int.not_lt, Int.not_le] at c6
        first
        | (exfalso; omega)
        | skip
          refine WC.skip ?_
          refine WN.thn ?_
          refine WC.seq ?_
          refine WC.seq ?_
          have hk0 : chkM l = 0 := by simpa using c6
          have hos := odM_spec hk0
          have hol := odM_len (l := l)
          refine WC.reg ?_
          refine WL.v (Runs.assign rfl) rfl ?_
          refine WL.nil ?_
          refine WN.thn ?_
          refine WC.block ?_
          refine WC.loop (σ := Nat) (fun q_ => [(0, .slice A l.length cap), (3, .slice Aa (odM l).length capa), (4, .int .i64 (q_ : Int))]) (fun q_ w => q_ ≤ (odM l).length ∧ St W Ga cs w) (fun q_ => (odM l).length - q_) (0) (by repeat (first | exact trivial | refine ⟨rfl, ?_⟩)) (⟨Nat.zero_le _, h5⟩) ?_
          rintro i w8 ⟨hi, hL⟩
          try dsimp only at hi hL
          refine WC.sub (s := [(0, .slice A l.length cap), (3, .slice Aa (odM l).length capa), (4, .int .i64 (i : Int))]) (by repeat (first | exact trivial | refine ⟨rfl, ?_⟩)) ?_
          refine WC.seq ?_
          refine WC.seq ?_
          refine WC.reg ?_
          refine WL.v (Runs.move rfl) rfl ?_
          refine WL.v (Runs.move rfl) rfl ?_
          refine WL.v (Runs.intT (n := ((odM l).length : Int)) (Runs.llen Try.underlying28 rfl rfl) rfl) rfl ?_
          refine WL.v (Runs.lss rfl rfl) rfl ?_
          refine WL.nil ?_
          refine WN.thn ?_
          refine WC.cond rfl (fun c9 => ?_) (fun c9 => ?_)
          · try simp only [decide_eq_true_eq, decide_eq_false_iff_not, Bool.not_eq_true', Bool.not_eq_false', Bool.and_eq_true, Int.not_lt, Int.not_le] at c9
            first
            | (exfalso; omega)
            | skip
              refine WC.skip ?_
              refine WN.thn ?_
              refine WC.seq ?_
              refine WC.block ?_
              refine WC.seq ?_
              refine WC.seq ?_
              have hi2 : i < (odM l).length := by omega
              have ho := hos.2 i hi2
              have hx2 : ((odM l).getD i 0).toNat < l.length := by omega
              obtain ⟨ao, rfl, hrd⟩ := rd1 rda (by omega)
              obtain ⟨ad, A1, cap1, rfl, hE, hcell⟩ := stepAt hR hx2
              have hf2 := hf _ hx2
              refine WC.eregO hL (fun s_ => ([22] : List Nat).any (Nat.beq s_)) mixed (by kernel_rfl) (fun hx => ?_)
              intro w10 h10
              refine WE.pure (g := none) hx 0 (by rfl) trivial (by kernel_rfl) (by kernel_rfl) (by kernel_rfl) (by kernel_rfl) (fun w_ => Runs.move rfl) rfl ?_
              refine WE.pure (g := none) hx 1 (by rfl) trivial (by kernel_rfl) (by kernel_rfl) (by kernel_rfl) (by kernel_rfl) (fun w_ => Runs.move rfl) rfl ?_
              refine WE.pure (g := none) hx 2 (by rfl) trivial (by kernel_rfl) (by kernel_rfl) (by kernel_rfl) (by kernel_rfl) (fun w_ => Runs.lidxN Try.underlying28 inf3 rfl rfl (n := i) rfl (by omega)) rfl ?_
              refine WE.val (g := none) 12 hx 3 (by rfl) trivial (by kernel_rfl) (by kernel_rfl) (by kernel_rfl) (by kernel_rfl) (fun w_ hE_ => Runs.loadR (f := Vi) (0 : Int) hE_ hrd (n := i) (by omega) Try.underlying3 rfl rfl) rfl ?_
              refine WE.pure (g := none) hx 4 (by rfl) trivial (by kernel_rfl) (by kernel_rfl) (by kernel_rfl) (by kernel_rfl) (fun w_ => Runs.boolT (c := false) (Runs.lss rfl rfl) (by rw [decide_eq_false]; omega)) rfl ?_
              refine WE.pure (g := none) hx 5 (by rfl) trivial (by kernel_rfl) (by kernel_rfl) (by kernel_rfl) (by kernel_rfl) (fun w_ => Runs.move rfl) rfl ?_
              refine WE.pure (g := some (5, false)) hx 6 (by rfl) ⟨_, _, rfl, rfl, rfl⟩ (by kernel_rfl) (by kernel_rfl) (by kernel_rfl) (by kernel_rfl) (fun w_ => Runs.move rfl) rfl ?_
              refine WE.pure (g := some (5, false)) hx 7 (by rfl) ⟨_, _, rfl, rfl, rfl⟩ (by kernel_rfl) (by kernel_rfl) (by kernel_rfl) (by kernel_rfl) (fun w_ => Runs.move rfl) rfl ?_
              refine WE.pure (g := some (5, false)) hx 8 (by rfl) ⟨_, _, rfl, rfl, rfl⟩ (by kernel_rfl) (by kernel_rfl) (by kernel_rfl) (by kernel_rfl) (fun w_ => Runs.lidxN Try.underlying28 inf3 rfl rfl (n := i) rfl (by omega)) rfl ?_
              refine WE.pure (g := some (5, false)) hx 10 (by rfl) ⟨_, _, rfl, rfl, rfl⟩ (by kernel_rfl) (by kernel_rfl) (by kernel_rfl) (by kernel_rfl) (fun w_ => Runs.move rfl) rfl ?_
              refine WE.pure (g := some (5, false)) hx 11 (by rfl) ⟨_, _, rfl, rfl, rfl⟩ (by kernel_rfl) (by kernel_rfl) (by kernel_rfl) (by kernel_rfl) (fun w_ => Runs.intT (n := (l.length : Int)) (Runs.llen Try.underlying22 rfl rfl) rfl) rfl ?_
              refine WE.val (g := some (5, false)) 12 hx 9 (by rfl) ⟨_, _, rfl, rfl, rfl⟩ (by kernel_rfl) (by kernel_rfl) (by kernel_rfl) (by kernel_rfl) (fun w_ hE_ => Runs.loadR (f := Vi) (0 : Int) hE_ hrd (n := i) (by omega) Try.underlying3 rfl rfl) rfl ?_
              refine WE.pure (g := some (5, false)) hx 12 (by rfl) ⟨_, _, rfl, rfl, rfl⟩ (by kernel_rfl) (by kernel_rfl) (by kernel_rfl) (by kernel_rfl) (fun w_ => Runs.boolT (c := false) (Runs.geq rfl rfl) (by rw [decide_eq_false]; omega)) rfl ?_
              refine WE.pure (g := none) hx 13 (by rfl) trivial (by kernel_rfl) (by kernel_rfl) (by kernel_rfl) (by kernel_rfl) (fun w_ => Runs.pick rfl rfl rfl) rfl ?_
              refine WE.pure (g := none) hx 14 (by rfl) trivial (by kernel_rfl) (by kernel_rfl) (by kernel_rfl) (by kernel_rfl) (fun w_ => Runs.move rfl) rfl ?_
              refine WE.pure (g := some (14, false)) hx 15 (by rfl) ⟨_, _, rfl, rfl, rfl⟩ (by kernel_rfl) (by kernel_rfl) (by kernel_rfl) (by kernel_rfl) (fun w_ => Runs.move rfl) rfl ?_
              refine WE.pure (g := some (14, false)) hx 16 (by rfl) ⟨_, _, rfl, rfl, rfl⟩ (by kernel_rfl) (by kernel_rfl) (by kernel_rfl) (by kernel_rfl) (fun w_ => Runs.move rfl) rfl ?_
              refine WE.pure (g := some (14, false)) hx 17 (by rfl) ⟨_, _, rfl, rfl, rfl⟩ (by kernel_rfl) (by kernel_rfl) (by kernel_rfl) (by kernel_rfl) (fun w_ => Runs.valT (u := .slice (some ao) ((odM l).take i).length capa) (Runs.lsl_hi Try.underlying28 inf3 rfl rfl (n := i) rfl (by omega)) (by rw [List.length_take, Nat.min_eq_left (by omega)])) rfl ?_
              refine WE.pure (g := some (14, false)) hx 18 (by rfl) ⟨_, _, rfl, rfl, rfl⟩ (by kernel_rfl) (by kernel_rfl) (by kernel_rfl) (by kernel_rfl) (fun w_ => Runs.move rfl) rfl ?_
              refine WE.pure (g := some (14, false)) hx 19 (by rfl) ⟨_, _, rfl, rfl, rfl⟩ (by kernel_rfl) (by kernel_rfl) (by kernel_rfl) (by kernel_rfl) (fun w_ => Runs.move rfl) rfl ?_
              refine WE.pure (g := some (14, false)) hx 20 (by rfl) ⟨_, _, rfl, rfl, rfl⟩ (by kernel_rfl) (by kernel_rfl) (by kernel_rfl) (by kernel_rfl) (fun w_ => Runs.lidxN Try.underlying28 inf3 rfl rfl (n := i) rfl (by omega)) rfl ?_
              refine WE.val (g := some (14, false)) 12 hx 21 (by rfl) ⟨_, _, rfl, rfl, rfl⟩ (by kernel_rfl) (by kernel_rfl) (by kernel_rfl) (by kernel_rfl) (fun w_ hE_ => Runs.loadR (f := Vi) (0 : Int) hE_ hrd (n := i) (by omega) Try.underlying3 rfl rfl) rfl ?_
              refine WE.op (.inr h10) (i := 22) (by rfl) (by kernel_rfl) ?_
              refine WL.gon rfl rfl rfl ?_
              refine WL.call can22 rfl rfl ((C1.to (g := Value.bool) (decide_eq_false ho.2.1) (lin_c _ ((odM l).getD i 0) h10 (RdW.of (rda.take i)) (by rw [List.length_take]; omega)))) ?_
              rintro _ w11 ⟨rfl, h11⟩
              refine ⟨_, rfl, ?_⟩
              refine WL.nil ?_
              refine WE.next ?_
              refine WE.pure (g := none) hx 23 (by rfl) trivial (by kernel_rfl) (by kernel_rfl) (by kernel_rfl) (by kernel_rfl) (fun w_ => Runs.pick rfl rfl rfl) rfl ?_
              refine WE.fin (.inl ⟨22, rfl, by kernel_rfl⟩) (by kernel_rfl) ?_
              refine WN.thn ?_
              refine WC.condF rfl (rfl) ?_
              refine WC.skip ?_
              refine WN.thn ?_
              refine WC.seq ?_
              refine WC.reg ?_
              refine WL.v (Runs.assign rfl) rfl ?_
              refine WL.nil ?_
              refine WN.thn ?_
              refine WC.block ?_
              refine WC.loop (σ := Nat) (fun q_ => [(0, .slice (some ad) l.length cap), (3, .slice (some ao) (odM l).length capa), (4, .int .i64 (i : Int)), (5, .int .i64 (q_ : Int))]) (fun q_ w => q_ ≤ (l.getD ((odM l).getD i 0).toNat S0).af.length ∧ St W Ga cs w) (fun q_ => (l.getD ((odM l).getD i 0).toNat S0).af.length - q_) (0) (by repeat (first | exact trivial | refine ⟨rfl, ?_⟩)) (⟨Nat.zero_le _, h11⟩) ?_
              rintro k w12 ⟨hk, hL⟩
              try dsimp only at hk hL
              refine WC.sub (s := [(0, .slice (some ad) l.length cap), (3, .slice (some ao) (odM l).length capa), (4, .int .i64 (i : Int)), (5, .int .i64 (k : Int))]) (by repeat (first | exact trivial | refine ⟨rfl, ?_⟩)) ?_
              refine WC.seq ?_
              refine WC.seq ?_
              refine WC.reg ?_
              refine WL.v (Runs.move rfl) rfl ?_
              refine WL.v (Runs.move rfl) rfl ?_
              refine WL.v (Runs.move rfl) rfl ?_
              refine WL.v (Runs.move rfl) rfl ?_
              refine WL.v (Runs.lidxN Try.underlying28 inf3 rfl rfl (n := i) rfl (by omega)) rfl ?_
              refine WL.v (Runs.loadR (f := Vi) (0 : Int) hL hrd (n := i) (by omega) Try.underlying3 rfl rfl) rfl ?_
              refine WL.v (Runs.lidxK Try.underlying22 inf38 rfl rfl (n := ((odM l).getD i 0).toNat) (by omega) (by omega)) rfl ?_
              refine WL.v (Runs.fld fld38_4 rfl) rfl ?_
              refine WL.v (Runs.load1 Try.underlying36 rfl rfl (by rw [add_add]; exact hL.cell (hcell 4 _ rfl))) rfl ?_
              refine WL.v (Runs.intT (n := ((l.getD ((odM l).getD i 0).toNat S0).af.length : Int)) (Runs.llen Try.underlying36 rfl rfl) rfl) rfl ?_
              refine WL.v (Runs.lss rfl rfl) rfl ?_
              refine WL.nil ?_
              refine WN.thn ?_
              refine WC.cond rfl (fun c13 => ?_) (fun c13 => ?_)
              · try simp only [decide_eq_true_eq, decide_eq_false_iff_not, Bool.not_eq_true', Bool.not_eq_false', Bool.and_eq_true, Int.not_lt, Int.not_le] at c13
                first
                | (exfalso; omega)
                | skip
                  refine WC.skip ?_
                  refine WN.thn ?_
                  refine WC.seq ?_
                  refine WC.block ?_
                  refine WC.seq ?_
                  have hk2 : k < (l.getD ((odM l).getD i 0).toNat S0).af.length := by omega
                  obtain ⟨ae, rfl⟩ := rdA hE (by omega)
                  refine WC.eregO hL (fun s_ => ([15] : List Nat).any (Nat.beq s_)) mixed (by kernel_rfl) (fun hx => ?_)
                  intro w14 h14
                  refine WE.pure (g := none) hx 0 (by rfl) trivial (by kernel_rfl) (by kernel_rfl) (by kernel_rfl) (by kernel_rfl) (fun w_ => Runs.move rfl) rfl ?_
                  refine WE.pure (g := none) hx 1 (by rfl) trivial (by kernel_rfl) (by kernel_rfl) (by kernel_rfl) (by kernel_rfl) (fun w_ => Runs.move rfl) rfl ?_
                  refine WE.pure (g := none) hx 2 (by rfl) trivial (by kernel_rfl) (by kernel_rfl) (by kernel_rfl) (by kernel_rfl) (fun w_ => Runs.valT (u := .slice (some ao) ((odM l).take i).length capa) (Runs.lsl_hi Try.underlying28 inf3 rfl rfl (n := i) rfl (by omega)) (by rw [List.length_take, Nat.min_eq_left (by omega)])) rfl ?_
                  refine WE.pure (g := none) hx 3 (by rfl) trivial (by kernel_rfl) (by kernel_rfl) (by kernel_rfl) (by kernel_rfl) (fun w_ => Runs.move rfl) rfl ?_
                  refine WE.pure (g := none) hx 4 (by rfl) trivial (by kernel_rfl) (by kernel_rfl) (by kernel_rfl) (by kernel_rfl) (fun w_ => Runs.move rfl) rfl ?_
                  refine WE.pure (g := none) hx 5 (by rfl) trivial (by kernel_rfl) (by kernel_rfl) (by kernel_rfl) (by kernel_rfl) (fun w_ => Runs.move rfl) rfl ?_
                  refine WE.pure (g := none) hx 6 (by rfl) trivial (by kernel_rfl) (by kernel_rfl) (by kernel_rfl) (by kernel_rfl) (fun w_ => Runs.lidxN Try.underlying28 inf3 rfl rfl (n := i) rfl (by omega)) rfl ?_
                  refine WE.pure (g := none) hx 11 (by rfl) trivial (by kernel_rfl) (by kernel_rfl) (by kernel_rfl) (by kernel_rfl) (fun w_ => Runs.move rfl) rfl ?_
                  refine WE.val (g := none) 12 hx 7 (by rfl) trivial (by kernel_rfl) (by kernel_rfl) (by kernel_rfl) (by kernel_rfl) (fun w_ hE_ => Runs.loadR (f := Vi) (0 : Int) hE_ hrd (n := i) (by omega) Try.underlying3 rfl rfl) rfl ?_
                  refine WE.pure (g := none) hx 8 (by rfl) trivial (by kernel_rfl) (by kernel_rfl) (by kernel_rfl) (by kernel_rfl) (fun w_ => Runs.lidxK Try.underlying22 inf38 rfl rfl (n := ((odM l).getD i 0).toNat) (by omega) (by omega)) rfl ?_
                  refine WE.pure (g := none) hx 9 (by rfl) trivial (by kernel_rfl) (by kernel_rfl) (by kernel_rfl) (by kernel_rfl) (fun w_ => Runs.fld fld38_4 rfl) rfl ?_
                  refine WE.val (g := none) 12 hx 10 (by rfl) trivial (by kernel_rfl) (by kernel_rfl) (by kernel_rfl) (by kernel_rfl) (fun w_ hE_ => Runs.load1 Try.underlying36 rfl rfl (by rw [add_add]; exact hE_.cell (hcell 4 _ rfl))) rfl ?_
                  refine WE.pure (g := none) hx 12 (by rfl) trivial (by kernel_rfl) (by kernel_rfl) (by kernel_rfl) (by kernel_rfl) (fun w_ => Runs.lidxK Try.underlying36 inf40 rfl rfl (n := k) rfl (by omega)) rfl ?_
                  refine WE.pure (g := none) hx 13 (by rfl) trivial (by kernel_rfl) (by kernel_rfl) (by kernel_rfl) (by kernel_rfl) (fun w_ => Runs.fld fld40_0 rfl) rfl ?_
                  refine WE.val (g := none) 12 hx 14 (by rfl) trivial (by kernel_rfl) (by kernel_rfl) (by kernel_rfl) (by kernel_rfl) (fun w_ hE_ => Runs.load1 Try.underlying3 rfl rfl (edgeCell hE_ hE (by omega)).1) rfl ?_
                  refine WE.op (.inr h14) (i := 15) (by rfl) (by kernel_rfl) ?_
                  refine WL.call can22 rfl rfl ((C1.to (g := Value.bool) (decide_eq_true (ho.2.2 k hk2)) (lin_c _ ((l.getD ((odM l).getD i 0).toNat S0).af.getD k E0).st h14 (RdW.of (rda.take i)) (by rw [List.length_take]; omega)))) ?_
                  rintro _ w15 ⟨rfl, h15⟩
                  refine ⟨_, rfl, ?_⟩
                  refine WL.nil ?_
                  refine WE.next ?_
                  refine WE.pure (g := none) hx 16 (by rfl) trivial (by kernel_rfl) (by kernel_rfl) (by kernel_rfl) (by kernel_rfl) (fun w_ => Runs.not rfl) rfl ?_
                  refine WE.fin (.inl ⟨15, rfl, by kernel_rfl⟩) (by kernel_rfl) ?_
                  refine WN.thn ?_
                  refine WC.condF rfl (rfl) ?_
                  refine WC.skip ?_
                  refine WN.blk ?_
                  refine WN.thn ?_
                  refine WC.reg ?_
                  refine WL.v (Runs.move rfl) rfl ?_
                  refine WL.v (Runs.addn rfl rfl (by omega)) rfl ?_
                  refine WL.v (Runs.assign rfl) rfl ?_
                  refine WL.nil ?_
                  exact WN.again (k + 1) (by omega) ⟨rfl, rfl, rfl, rfl, trivial⟩ ⟨by omega, h15⟩
              · try simp only [decide_eq_true_eq, decide_eq_false_iff_not, Bool.not_eq_true', Bool.not_eq_false', Bool.and_eq_true, Int.not_lt, Int.not_le] at c13
                first
                | (exfalso; omega)
                | skip
                  refine WC.exit ?_
                  refine WX.thn ?_
                  refine WX.cut ?_
                  refine WX.hit ?_
                  refine WN.blk ?_
                  refine WN.thn ?_
                  refine WC.reg ?_
                  refine WL.v (Runs.move rfl) rfl ?_
                  refine WL.v (Runs.addn rfl rfl (by omega)) rfl ?_
                  refine WL.v (Runs.assign rfl) rfl ?_
                  refine WL.nil ?_
                  exact WN.again (i + 1) (by omega) ⟨rfl, rfl, rfl, trivial⟩ ⟨by omega, hL⟩
          · try simp only [decide_eq_true_eq, decide_eq_false_iff_not, Bool.not_eq_true', Bool.not_eq_false', Bool.and_eq_true, Int.not_lt, Int.not_le] at c9
            first
            | (exfalso; omega)
            | skip
              refine WC.exit ?_
              refine WX.thn ?_
              refine WX.cut ?_
              refine WX.hit ?_
              refine WN.thn ?_
              refine WC.seq ?_
              refine WC.reg ?_
              refine WL.v (Runs.move rfl) rfl ?_
              refine WL.v (Runs.intT (n := ((odM l).length : Int)) (Runs.llen Try.underlying28 rfl rfl) rfl) rfl ?_
              refine WL.v (Runs.move rfl) rfl ?_
              refine WL.v (Runs.intT (n := (l.length : Int)) (Runs.llen Try.underlying22 rfl rfl) rfl) rfl ?_
              refine WL.v (Runs.boolT (c := true) (Runs.eql rfl rfl) (by rw [hos.1]; simp)) rfl ?_
              refine WL.v (Runs.move rfl) rfl ?_
              refine WL.gon rfl rfl rfl ?_
              refine WL.call can10 rfl rfl (live_c _ hL) ?_
              rintro _ w16 ⟨rfl, h16⟩
              refine ⟨_, rfl, ?_⟩
              refine WL.v (Runs.pick rfl rfl rfl) rfl ?_
              refine WL.v (Runs.assign rfl) rfl ?_
              refine WL.nil ?_
              refine WN.thn ?_
              refine WC.ret ?_
              exact ret1 rfl rfl ⟨rfl, h16.weak hle⟩
end Dg
end Go.Proofs.Ytkfkdenikkadhaa
