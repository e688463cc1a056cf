/- Walks of package dag: the law DagSettles. -/
import Derived.Test.YtkfkdenikkadhaaD22
namespace Go.Proofs.Ytkfkdenikkadhaa
open Go Go.RowKit B
set_option linter.unusedVariables false
set_option linter.unusedSimpArgs false
namespace Dg


theorem settleM_n {l : List S} {c : List Int} (h : withM l c ≠ 0) : settleM l c = [] := if_neg h
theorem stlF_who {l : List S} {j : Nat} : ∀ {xs c : List Int}, (stlF l xs c).getD j 0 ≠ c.getD j 0 → 0 < (l.getD j S0).af.length
  | [], c, h => absurd rfl h
  | x :: xs, c, h => by
    rw [stlF_cons] at h
    by_cases h1 : (stlS l c x).getD j 0 = c.getD j 0
    · exact stlF_who (by rw [h1]; exact h)
    · by_cases h2 : doomM l c x.toNat
      · rw [stlS_y h2, getD_set] at h1
        split at h1
        · rename_i h3
          rw [← h3.1]
          have h4 := h2.2
          rw [List.any_eq_true] at h4
          obtain ⟨e, he, _⟩ := h4
          exact List.length_pos_of_mem he
        · exact absurd rfl h1
      · rw [stlS_n h2] at h1
        exact absurd rfl h1
theorem settle_who {l : List S} {codes : List Int} (h : withM l codes = 0) {j : Nat} (hj : (settleM l codes).getD j 0 ≠ codes.getD j 0) : 0 < (l.getD j S0).af.length := by
  unfold settleM at hj
  rw [if_pos h] at hj
  exact stlF_who hj
set_option maxRecDepth 100000 in
set_option maxHeartbeats 8000000 in
theorem settles_law {W : World} {F : Snap} {cs : List Res} (w : World) {A : Option Addr} {cap : Nat} {l : List S} {A2 : Option Addr} {cap2 : Nat} {codes : List Int} (h : St W F cs w) (hR : RdS KS F A l) (hl : l.length ≤ 9223372036854775807) (hRc : RdS (Kd.one Vi) F A2 codes) : Calls Try.prog 8 #[.slice A l.length cap, .slice A2 codes.length cap2] w fun r w' => r = .returned (.bool true) ∧ St W F cs w'  := by
  refine enter (P := Try.prog) (args := [.slice A l.length cap, .slice A2 codes.length cap2]) Try.func8 rfl rfl rfl ?_
  refine WC.seq ?_
  refine WC.reg ?_
  refine WL.v (Runs.assign rfl) rfl ?_
  refine WL.nil ?_
  refine WN.thn ?_
  refine WC.seq ?_
  refine WC.seq ?_
  rcases smallCase (smallL l) codes.length with hsm | ⟨hsm, hc9⟩ | ⟨hsm, hc9⟩
  · skip
    refine WC.reg ?_
    refine WL.v (Runs.move rfl) rfl ?_
    refine WL.call can9 rfl rfl (small_c _ h hR hl) ?_
    rintro _ w1 ⟨rfl, h1⟩
    refine ⟨_, rfl, ?_⟩
    refine WL.v (Runs.boolT (c := true) (Runs.not rfl) (by rw [decide_eq_false hsm]; rfl)) rfl ?_
    refine WL.v (Runs.move rfl) rfl ?_
    refine WL.goff rfl rfl rfl rfl ?_
    refine WL.goff rfl rfl rfl rfl ?_
    refine WL.goff rfl rfl rfl rfl ?_
    refine WL.v (Runs.pick rfl rfl rfl) rfl ?_
    refine WL.nil ?_
    refine WN.thn ?_
    refine WC.condT rfl (rfl) ?_
    refine WC.seq ?_
    refine WC.reg ?_
    refine WL.call can10 rfl rfl (live_c _ h1) ?_
    rintro _ w2 ⟨rfl, h2⟩
    refine ⟨_, rfl, ?_⟩
    refine WL.v (Runs.assign rfl) rfl ?_
    refine WL.nil ?_
    refine WN.thn ?_
    refine WC.ret ?_
    exact ret1 rfl rfl ⟨rfl, h2⟩
  · skip
    refine WC.reg ?_
    refine WL.v (Runs.move rfl) rfl ?_
    refine WL.call can9 rfl rfl (small_c _ h hR hl) ?_
    rintro _ w3 ⟨rfl, h3⟩
    refine ⟨_, rfl, ?_⟩
    refine WL.v (Runs.boolT (c := false) (Runs.not rfl) (by rw [decide_eq_true hsm]; rfl)) rfl ?_
    refine WL.v (Runs.move rfl) rfl ?_
    refine WL.gon rfl rfl rfl ?_
    refine WL.v (Runs.move rfl) rfl ?_
    refine WL.gon rfl rfl rfl ?_
    refine WL.v (Runs.intT (n := (codes.length : Int)) (Runs.llen Try.underlying28 rfl rfl) rfl) rfl ?_
    refine WL.gon rfl rfl rfl ?_
    refine WL.v (Runs.boolT (c := true) (Runs.gtr rfl rfl) (by rw [decide_eq_true_eq]; omega)) rfl ?_
    refine WL.v (Runs.pick rfl rfl rfl) rfl ?_
    refine WL.nil ?_
    refine WN.thn ?_
    refine WC.condT rfl (rfl) ?_
    refine WC.seq ?_
    refine WC.reg ?_
    refine WL.call can10 rfl rfl (live_c _ h3) ?_
    rintro _ w4 ⟨rfl, h4⟩
    refine ⟨_, rfl, ?_⟩
    refine WL.v (Runs.assign rfl) rfl ?_
    refine WL.nil ?_
    refine WN.thn ?_
    refine WC.ret ?_
    exact ret1 rfl rfl ⟨rfl, h4⟩
  · skip
    refine WC.reg ?_
    refine WL.v (Runs.move rfl) rfl ?_
    refine WL.call can9 rfl rfl (small_c _ h hR hl) ?_
    rintro _ w5 ⟨rfl, h5⟩
    refine ⟨_, rfl, ?_⟩
    refine WL.v (Runs.boolT (c := false) (Runs.not rfl) (by rw [decide_eq_true hsm]; rfl)) rfl ?_
    refine WL.v (Runs.move rfl) rfl ?_
    refine WL.gon rfl rfl rfl ?_
    refine WL.v (Runs.move rfl) rfl ?_
    refine WL.gon rfl rfl rfl ?_
    refine WL.v (Runs.intT (n := (codes.length : Int)) (Runs.llen Try.underlying28 rfl rfl) rfl) rfl ?_
    refine WL.gon rfl rfl rfl ?_
    refine WL.v (Runs.boolT (c := false) (Runs.gtr rfl rfl) (by rw [decide_eq_false_iff_not]; omega)) rfl ?_
    refine WL.v (Runs.pick rfl rfl rfl) rfl ?_
    refine WL.nil ?_
    refine WN.thn ?_
    refine WC.condF rfl (rfl) ?_
    refine WC.skip ?_
    refine WN.thn ?_
    refine WC.seq ?_
    have hle : Le F F := Le.refl F
    obtain ⟨hf, hl2⟩ := hsm.few
    have hc : codes.length ≤ 100000 := by omega
    refine WC.reg ?_
    refine WL.v (Runs.move rfl) rfl ?_
    refine WL.v (Runs.move rfl) rfl ?_
    refine WL.call can18 rfl rfl (settle_c _ h5 hR hl2 hf hRc hc) ?_
    rintro _ w6 ⟨Ga, Aa, capa, hGa, rfl, hca, rda, h6⟩
    refine ⟨_, rfl, ?_⟩
    replace hR := hR.mono hGa
    replace hRc := hRc.mono hGa
    replace hle := Le.trans hle hGa
    refine WL.v (Runs.move rfl) rfl ?_
    refine WL.v (Runs.extract rfl rfl) rfl ?_
    refine WL.v (Runs.extract rfl rfl) rfl ?_
    refine WL.v (Runs.assign rfl) rfl ?_
    refine WL.v (Runs.assign rfl) rfl ?_
    refine WL.nil ?_
    refine WN.thn ?_
    refine WC.seq ?_
    refine WC.seq ?_
    refine WC.reg ?_
    refine WL.v (Runs.move rfl) rfl ?_
    refine WL.v (Runs.neq rfl rfl) rfl ?_
    refine WL.nil ?_
    refine WN.thn ?_
    refine WC.cond rfl (fun c7 => ?_) (fun c7 => ?_)
    · try simp only [decide_eq_true_eq, decide_eq_false_iff_not, Bool.not_eq_true', Bool.not_eq_false', Bool.and_eq_true, Int.not_lt, Int.not_le] at c7
      first
      | (exfalso; omega)
      | skip
        refine WC.seq ?_
        refine WC.reg ?_
        refine WL.v (Runs.move rfl) rfl ?_
        refine WL.v (Runs.intT (n := ((settleM l codes).length : Int)) (Runs.llen Try.underlying28 rfl rfl) rfl) rfl ?_
        refine WL.v (Runs.boolT (c := true) (Runs.eql rfl rfl) (by rw [settleM_n (by simpa using c7)]; rfl)) rfl ?_
        refine WL.v (Runs.move rfl) rfl ?_
        refine WL.gon rfl rfl rfl ?_
        refine WL.call can10 rfl rfl (live_c _ h6) ?_
        rintro _ w8 ⟨rfl, h8⟩
        refine ⟨_, rfl, ?_⟩
        refine WL.v (Runs.pick rfl rfl rfl) rfl ?_
        refine WL.v (Runs.assign rfl) rfl ?_
        refine WL.nil ?_
        refine WN.thn ?_
        refine WC.ret ?_
        exact ret1 rfl rfl ⟨rfl, h8.weak hle⟩
    · try simp only [decide_eq_true_eq, decide_eq_false_iff_not, Bool.not_eq_true', Bool.not_eq_false', Bool.and_eq_true, Int.not_lt, Int.not_le] at c7
      first
      | (exfalso; omega)
      | skip
        refine WC.skip ?_
        refine WN.thn ?_
        refine WC.seq ?_
        refine WC.seq ?_
        have hw0 : withM l codes = 0 := by simpa using c7
        have hw := with_ok hw0
        have hcl := settle_len _ _ hw0
        have hspec := (settle_spec hw0).1.2
        refine WC.reg ?_
        refine WL.v (Runs.move rfl) rfl ?_
        refine WL.v (Runs.intT (n := ((settleM l codes).length : Int)) (Runs.llen Try.underlying28 rfl rfl) rfl) rfl ?_
        refine WL.v (Runs.move rfl) rfl ?_
        refine WL.v (Runs.intT (n := (codes.length : Int)) (Runs.llen Try.underlying28 rfl rfl) rfl) rfl ?_
        refine WL.v (Runs.neq rfl rfl) rfl ?_
        refine WL.nil ?_
        refine WN.thn ?_
        refine WC.cond rfl (fun c9 => ?_) (fun c9 => ?_)
        · try simp only [decide_eq_true_eq, decide_eq_false_iff_not, Bool.not_eq_true', Bool.not_eq_false', Bool.and_eq_true, Int.not_lt, Int.not_le] at c9
          first
          | (exfalso; omega)
          | skip
            refine WC.seq ?_
            refine WC.reg ?_
            refine WL.v (Runs.assign rfl) rfl ?_
            refine WL.nil ?_
            refine WN.thn ?_
            refine WC.ret ?_
            exact absurd hcl c9
        · try simp only [decide_eq_true_eq, decide_eq_false_iff_not, Bool.not_eq_true', Bool.not_eq_false', Bool.and_eq_true, Int.not_lt, Int.not_le] at c9
          first
          | (exfalso; omega)
          | skip
            refine WC.skip ?_
            refine WN.thn ?_
            refine WC.seq ?_
            refine WC.reg ?_
            refine WL.v (Runs.move rfl) rfl ?_
            refine WL.v (Runs.move rfl) rfl ?_
            refine WL.call can18 rfl rfl ((Gives2.to (settle_twice hw0) (settle_with hw0) (settle_c _ h6 hR hl2 hf rda (by omega)))) ?_
            rintro _ w10 ⟨Gb, Ab, capb, hGb, rfl, hcb, rdb, h10⟩
            refine ⟨_, rfl, ?_⟩
            replace hR := hR.mono hGb
            replace hRc := hRc.mono hGb
            replace rda := rda.mono hGb
            replace hle := Le.trans hle hGb
            refine WL.v (Runs.move rfl) rfl ?_
            refine WL.v (Runs.extract rfl rfl) rfl ?_
            refine WL.v (Runs.extract rfl rfl) rfl ?_
            refine WL.v (Runs.assign rfl) rfl ?_
            refine WL.v (Runs.assign rfl) rfl ?_
            refine WL.nil ?_
            refine WN.thn ?_
            refine WC.seq ?_
            refine WC.seq ?_
            refine WC.reg ?_
            refine WL.v (Runs.assign rfl) rfl ?_
            refine WL.nil ?_
            refine WN.thn ?_
            refine WC.block ?_
            refine WC.loop (σ := Nat) (fun q_ => [(0, .slice A l.length cap), (1, .slice A2 codes.length cap2), (5, .slice Aa (settleM l codes).length capa), (7, .slice Ab (settleM l codes).length capb), (8, Vi 0), (9, .int .i64 (q_ : Int))]) (fun q_ w => q_ ≤ codes.length ∧ St W Gb cs w) (fun q_ => codes.length - q_) (0) (by repeat (first | exact trivial | refine ⟨rfl, ?_⟩)) (⟨Nat.zero_le _, h10⟩) ?_
            rintro i w11 ⟨hi, hL⟩
            try dsimp only at hi hL
            refine WC.sub (s := [(0, .slice A l.length cap), (1, .slice A2 codes.length cap2), (5, .slice Aa (settleM l codes).length capa), (7, .slice Ab (settleM l codes).length capb), (8, Vi 0), (9, .int .i64 (i : Int))]) (by repeat (first | exact trivial | refine ⟨rfl, ?_⟩)) ?_
            refine WC.seq ?_
            refine WC.seq ?_
            refine WC.reg ?_
            refine WL.v (Runs.move rfl) rfl ?_
            refine WL.v (Runs.move rfl) rfl ?_
            refine WL.v (Runs.intT (n := (codes.length : Int)) (Runs.llen Try.underlying28 rfl rfl) rfl) rfl ?_
            refine WL.v (Runs.lss rfl rfl) rfl ?_
            refine WL.nil ?_
            refine WN.thn ?_
            refine WC.cond rfl (fun c12 => ?_) (fun c12 => ?_)
            · try simp only [decide_eq_true_eq, decide_eq_false_iff_not, Bool.not_eq_true', Bool.not_eq_false', Bool.and_eq_true, Int.not_lt, Int.not_le] at c12
              first
              | (exfalso; omega)
              | skip
                refine WC.skip ?_
                refine WN.thn ?_
                refine WC.seq ?_
                refine WC.block ?_
                refine WC.seq ?_
                refine WC.seq ?_
                have hi2 : i < l.length := by omega
                have hsi := hspec i
                have hwho := settle_who (j := i) hw0
                obtain ⟨aa, rfl, hra⟩ := rd1 rda (by omega)
                obtain ⟨ac, rfl, hrc⟩ := rd1 hRc (by omega)
                obtain ⟨ad, A1, cap1, rfl, hE, hcell⟩ := stepAt hR hi2
                by_cases hx : (codes.getD i 0) = -1
                · skip
                  refine WC.qreg (C := fun w_ => St W Gb cs w_) mixed (by kernel_rfl) (hL.drew) ?_
                  refine WQ.val (fun w_ hC_ => Runs.move rfl) rfl ?_
                  refine WQ.val (fun w_ hC_ => Runs.move rfl) rfl ?_
                  refine WQ.val (fun w_ hC_ => Runs.lidxN Try.underlying28 inf3 rfl rfl (n := i) rfl (by omega)) rfl ?_
                  refine WQ.val (fun w_ hC_ => Runs.loadR (f := Vi) (0 : Int) hC_ hrc (n := i) (by omega) Try.underlying3 rfl rfl) rfl ?_
                  refine WQ.val (fun w_ hC_ => Runs.boolT (c := false) (Runs.neq rfl rfl) (by rw [decide_eq_true hx]; rfl)) rfl ?_
                  refine WQ.val (fun w_ hC_ => Runs.move rfl) rfl ?_
                  refine WQ.goff rfl rfl rfl rfl ?_
                  refine WQ.goff rfl rfl rfl rfl ?_
                  refine WQ.goff rfl rfl rfl rfl ?_
                  refine WQ.goff rfl rfl rfl rfl ?_
                  refine WQ.goff rfl rfl rfl rfl ?_
                  refine WQ.goff rfl rfl rfl rfl ?_
                  refine WQ.goff rfl rfl rfl rfl ?_
                  refine WQ.goff rfl rfl rfl rfl ?_
                  refine WQ.goff rfl rfl rfl rfl ?_
                  refine WQ.val (fun w_ hC_ => Runs.pick rfl rfl rfl) rfl ?_
                  refine WQ.fin ?_
                  intro w13 h13
                  refine WN.thn ?_
                  refine WC.condF rfl (rfl) ?_
                  refine WC.skip ?_
                  refine WN.thn ?_
                  refine WC.seq ?_
                  by_cases hy : ((settleM l codes).getD i 0) = -1
                  · skip
                    refine WC.reg ?_
                    refine WL.v (Runs.move rfl) rfl ?_
                    refine WL.v (Runs.move rfl) rfl ?_
                    refine WL.v (Runs.lidxN Try.underlying28 inf3 rfl rfl (n := i) rfl (by omega)) rfl ?_
                    refine WL.v (Runs.loadR (f := Vi) (0 : Int) h13 hrc (n := i) (by omega) Try.underlying3 rfl rfl) rfl ?_
                    refine WL.v (Runs.boolT (c := true) (Runs.eql rfl rfl) (decide_eq_true hx)) rfl ?_
                    refine WL.v (Runs.move rfl) rfl ?_
                    refine WL.gon rfl rfl rfl ?_
                    refine WL.v (Runs.move rfl) rfl ?_
                    refine WL.gon rfl rfl rfl ?_
                    refine WL.v (Runs.move rfl) rfl ?_
                    refine WL.gon rfl rfl rfl ?_
                    refine WL.v (Runs.lidxN Try.underlying28 inf3 rfl rfl (n := i) rfl (by omega)) rfl ?_
                    refine WL.gon rfl rfl rfl ?_
                    refine WL.v (Runs.loadR (f := Vi) (0 : Int) h13 hra (n := i) (by omega) Try.underlying3 rfl rfl) rfl ?_
                    refine WL.gon rfl rfl rfl ?_
                    refine WL.v (Runs.boolT (c := false) (Runs.neq rfl rfl) (by rw [decide_eq_true hy]; rfl)) rfl ?_
                    refine WL.v (Runs.pick rfl rfl rfl) rfl ?_
                    refine WL.v (Runs.move rfl) rfl ?_
                    refine WL.goff rfl rfl rfl rfl ?_
                    refine WL.goff rfl rfl rfl rfl ?_
                    refine WL.goff rfl rfl rfl rfl ?_
                    refine WL.goff rfl rfl rfl rfl ?_
                    refine WL.goff rfl rfl rfl rfl ?_
                    refine WL.goff rfl rfl rfl rfl ?_
                    refine WL.goffU rfl rfl rfl ?_
                    refine WL.goffU rfl rfl rfl ?_
                    refine WL.goffU rfl rfl rfl ?_
                    refine WL.goffU rfl rfl rfl ?_
                    refine WL.goffU rfl rfl rfl ?_
                    refine WL.goffU rfl rfl rfl ?_
                    refine WL.goffU rfl rfl rfl ?_
                    refine WL.goff rfl rfl rfl rfl ?_
                    refine WL.v (Runs.pick rfl rfl rfl) rfl ?_
                    refine WL.nil ?_
                    refine WN.thn ?_
                    refine WC.condF rfl (rfl) ?_
                    refine WC.skip ?_
                    refine WN.blk ?_
                    refine WN.thn ?_
                    refine WC.reg ?_
                    refine WL.v (Runs.move rfl) rfl ?_
                    refine WL.v (Runs.addn rfl rfl (by omega)) rfl ?_
                    refine WL.v (Runs.assign rfl) rfl ?_
                    refine WL.nil ?_
                    exact WN.again (i + 1) (by omega) ⟨rfl, rfl, rfl, rfl, rfl, rfl, trivial⟩ ⟨by omega, h13⟩
                  · have hy2 : ((settleM l codes).getD i 0) = 256 := by omega
                    have hwh := hwho (by omega)
                    refine WC.reg ?_
                    refine WL.v (Runs.move rfl) rfl ?_
                    refine WL.v (Runs.move rfl) rfl ?_
                    refine WL.v (Runs.lidxN Try.underlying28 inf3 rfl rfl (n := i) rfl (by omega)) rfl ?_
                    refine WL.v (Runs.loadR (f := Vi) (0 : Int) h13 hrc (n := i) (by omega) Try.underlying3 rfl rfl) rfl ?_
                    refine WL.v (Runs.boolT (c := true) (Runs.eql rfl rfl) (decide_eq_true hx)) rfl ?_
                    refine WL.v (Runs.move rfl) rfl ?_
                    refine WL.gon rfl rfl rfl ?_
                    refine WL.v (Runs.move rfl) rfl ?_
                    refine WL.gon rfl rfl rfl ?_
                    refine WL.v (Runs.move rfl) rfl ?_
                    refine WL.gon rfl rfl rfl ?_
                    refine WL.v (Runs.lidxN Try.underlying28 inf3 rfl rfl (n := i) rfl (by omega)) rfl ?_
                    refine WL.gon rfl rfl rfl ?_
                    refine WL.v (Runs.loadR (f := Vi) (0 : Int) h13 hra (n := i) (by omega) Try.underlying3 rfl rfl) rfl ?_
                    refine WL.gon rfl rfl rfl ?_
                    refine WL.v (Runs.boolT (c := true) (Runs.neq rfl rfl) (by rw [decide_eq_false hy]; rfl)) rfl ?_
                    refine WL.v (Runs.pick rfl rfl rfl) rfl ?_
                    refine WL.v (Runs.move rfl) rfl ?_
                    refine WL.gon rfl rfl rfl ?_
                    refine WL.v (Runs.move rfl) rfl ?_
                    refine WL.gon rfl rfl rfl ?_
                    refine WL.v (Runs.move rfl) rfl ?_
                    refine WL.gon rfl rfl rfl ?_
                    refine WL.v (Runs.lidxN Try.underlying28 inf3 rfl rfl (n := i) rfl (by omega)) rfl ?_
                    refine WL.gon rfl rfl rfl ?_
                    refine WL.v (Runs.loadR (f := Vi) (0 : Int) h13 hra (n := i) (by omega) Try.underlying3 rfl rfl) rfl ?_
                    refine WL.gon rfl rfl rfl ?_
                    refine WL.v (Runs.boolT (c := false) (Runs.neq rfl rfl) (by rw [decide_eq_true hy2]; rfl)) rfl ?_
                    refine WL.gon rfl rfl rfl ?_
                    refine WL.v (Runs.move rfl) rfl ?_
                    refine WL.gon rfl rfl rfl ?_
                    refine WL.v (Runs.move rfl) rfl ?_
                    refine WL.gon rfl rfl rfl ?_
                    refine WL.v (Runs.move rfl) rfl ?_
                    refine WL.gon rfl rfl rfl ?_
                    refine WL.v (Runs.lidxK Try.underlying22 inf38 rfl rfl (n := i) rfl (by omega)) rfl ?_
                    refine WL.gon rfl rfl rfl ?_
                    refine WL.v (Runs.fld fld38_4 rfl) rfl ?_
                    refine WL.gon rfl rfl rfl ?_
                    refine WL.v (Runs.load1 Try.underlying36 rfl rfl (by rw [add_add]; exact h13.cell (hcell 4 _ rfl))) rfl ?_
                    refine WL.gon rfl rfl rfl ?_
                    refine WL.v (Runs.intT (n := ((l.getD i S0).af.length : Int)) (Runs.llen Try.underlying36 rfl rfl) rfl) rfl ?_
                    refine WL.gon rfl rfl rfl ?_
                    refine WL.v (Runs.boolT (c := false) (Runs.eql rfl rfl) (by rw [decide_eq_false_iff_not]; omega)) rfl ?_
                    refine WL.gon rfl rfl rfl ?_
                    refine WL.v (Runs.pick rfl rfl rfl) rfl ?_
                    refine WL.v (Runs.pick rfl rfl rfl) rfl ?_
                    refine WL.nil ?_
                    refine WN.thn ?_
                    refine WC.condF rfl (rfl) ?_
                    refine WC.skip ?_
                    refine WN.blk ?_
                    refine WN.thn ?_
                    refine WC.reg ?_
                    refine WL.v (Runs.move rfl) rfl ?_
                    refine WL.v (Runs.addn rfl rfl (by omega)) rfl ?_
                    refine WL.v (Runs.assign rfl) rfl ?_
                    refine WL.nil ?_
                    exact WN.again (i + 1) (by omega) ⟨rfl, rfl, rfl, rfl, rfl, rfl, trivial⟩ ⟨by omega, h13⟩
                · skip
                  refine WC.qreg (C := fun w_ => St W Gb cs w_) mixed (by kernel_rfl) (hL.drew) ?_
                  refine WQ.val (fun w_ hC_ => Runs.move rfl) rfl ?_
                  refine WQ.val (fun w_ hC_ => Runs.move rfl) rfl ?_
                  refine WQ.val (fun w_ hC_ => Runs.lidxN Try.underlying28 inf3 rfl rfl (n := i) rfl (by omega)) rfl ?_
                  refine WQ.val (fun w_ hC_ => Runs.loadR (f := Vi) (0 : Int) hC_ hrc (n := i) (by omega) Try.underlying3 rfl rfl) rfl ?_
                  refine WQ.val (fun w_ hC_ => Runs.boolT (c := true) (Runs.neq rfl rfl) (by rw [decide_eq_false hx]; rfl)) rfl ?_
                  refine WQ.val (fun w_ hC_ => Runs.move rfl) rfl ?_
                  refine WQ.gon rfl rfl rfl ?_
                  refine WQ.val (fun w_ hC_ => Runs.move rfl) rfl ?_
                  refine WQ.gon rfl rfl rfl ?_
                  refine WQ.val (fun w_ hC_ => Runs.move rfl) rfl ?_
                  refine WQ.gon rfl rfl rfl ?_
                  refine WQ.val (fun w_ hC_ => Runs.lidxN Try.underlying28 inf3 rfl rfl (n := i) rfl (by omega)) rfl ?_
                  refine WQ.gon rfl rfl rfl ?_
                  refine WQ.val (fun w_ hC_ => Runs.loadR (f := Vi) (0 : Int) hC_ hra (n := i) (by omega) Try.underlying3 rfl rfl) rfl ?_
                  refine WQ.gon rfl rfl rfl ?_
                  refine WQ.val (fun w_ hC_ => Runs.move rfl) rfl ?_
                  refine WQ.gon rfl rfl rfl ?_
                  refine WQ.val (fun w_ hC_ => Runs.move rfl) rfl ?_
                  refine WQ.gon rfl rfl rfl ?_
                  refine WQ.val (fun w_ hC_ => Runs.lidxN Try.underlying28 inf3 rfl rfl (n := i) rfl (by omega)) rfl ?_
                  refine WQ.gon rfl rfl rfl ?_
                  refine WQ.val (fun w_ hC_ => Runs.loadR (f := Vi) (0 : Int) hC_ hrc (n := i) (by omega) Try.underlying3 rfl rfl) rfl ?_
                  refine WQ.gon rfl rfl rfl ?_
                  refine WQ.val (fun w_ hC_ => Runs.boolT (c := false) (Runs.neq rfl rfl) (by rw [decide_eq_true (show ((settleM l codes).getD i 0) = (codes.getD i 0) by omega)]; rfl)) rfl ?_
                  refine WQ.val (fun w_ hC_ => Runs.pick rfl rfl rfl) rfl ?_
                  refine WQ.fin ?_
                  intro w14 h14
                  refine WN.thn ?_
                  refine WC.condF rfl (rfl) ?_
                  refine WC.skip ?_
                  refine WN.thn ?_
                  refine WC.seq ?_
                  skip
                  · skip
                    refine WC.reg ?_
                    refine WL.v (Runs.move rfl) rfl ?_
                    refine WL.v (Runs.move rfl) rfl ?_
                    refine WL.v (Runs.lidxN Try.underlying28 inf3 rfl rfl (n := i) rfl (by omega)) rfl ?_
                    refine WL.v (Runs.loadR (f := Vi) (0 : Int) h14 hrc (n := i) (by omega) Try.underlying3 rfl rfl) rfl ?_
                    refine WL.v (Runs.boolT (c := false) (Runs.eql rfl rfl) (decide_eq_false hx)) rfl ?_
                    refine WL.v (Runs.move rfl) rfl ?_
                    refine WL.goff rfl rfl rfl rfl ?_
                    refine WL.goff rfl rfl rfl rfl ?_
                    refine WL.goff rfl rfl rfl rfl ?_
                    refine WL.goff rfl rfl rfl rfl ?_
                    refine WL.goff rfl rfl rfl rfl ?_
                    refine WL.v (Runs.pick rfl rfl rfl) rfl ?_
                    refine WL.v (Runs.move rfl) rfl ?_
                    refine WL.goff rfl rfl rfl rfl ?_
                    refine WL.goff rfl rfl rfl rfl ?_
                    refine WL.goff rfl rfl rfl rfl ?_
                    refine WL.goff rfl rfl rfl rfl ?_
                    refine WL.goff rfl rfl rfl rfl ?_
                    refine WL.goff rfl rfl rfl rfl ?_
                    refine WL.goffU rfl rfl rfl ?_
                    refine WL.goffU rfl rfl rfl ?_
                    refine WL.goffU rfl rfl rfl ?_
                    refine WL.goffU rfl rfl rfl ?_
                    refine WL.goffU rfl rfl rfl ?_
                    refine WL.goffU rfl rfl rfl ?_
                    refine WL.goffU rfl rfl rfl ?_
                    refine WL.goff rfl rfl rfl rfl ?_
                    refine WL.v (Runs.pick rfl rfl rfl) rfl ?_
                    refine WL.nil ?_
                    refine WN.thn ?_
                    refine WC.condF rfl (rfl) ?_
                    refine WC.skip ?_
                    refine WN.blk ?_
                    refine WN.thn ?_
                    refine WC.reg ?_
                    refine WL.v (Runs.move rfl) rfl ?_
                    refine WL.v (Runs.addn rfl rfl (by omega)) rfl ?_
                    refine WL.v (Runs.assign rfl) rfl ?_
                    refine WL.nil ?_
                    exact WN.again (i + 1) (by omega) ⟨rfl, rfl, rfl, rfl, rfl, rfl, trivial⟩ ⟨by omega, h14⟩
            · try simp only [decide_eq_true_eq, decide_eq_false_iff_not, Bool.not_eq_true', Bool.not_eq_false', Bool.and_eq_true, Int.not_lt, Int.not_le] at c12
              first
              | (exfalso; omega)
              | skip
                refine WC.exit ?_
                refine WX.thn ?_
                refine WX.cut ?_
                refine WX.hit ?_
                refine WN.thn ?_
                refine WC.seq ?_
                refine WC.reg ?_
                refine WL.v (Runs.move rfl) rfl ?_
                refine WL.v (Runs.boolT (c := true) (Runs.eql rfl rfl) rfl) rfl ?_
                refine WL.v (Runs.move rfl) rfl ?_
                refine WL.gon rfl rfl rfl ?_
                refine WL.v (Runs.move rfl) rfl ?_
                refine WL.gon rfl rfl rfl ?_
                refine WL.v (Runs.move rfl) rfl ?_
                refine WL.gon rfl rfl rfl ?_
                refine WL.call can13 rfl rfl (same_c _ hL rda rdb (by omega)) ?_
                rintro _ w15 ⟨rfl, h15⟩
                refine ⟨_, rfl, ?_⟩
                refine WL.v (Runs.pick rfl rfl rfl) rfl ?_
                refine WL.v (Runs.move rfl) rfl ?_
                refine WL.gon rfl rfl rfl ?_
                refine WL.call can10 rfl rfl (live_c _ h15) ?_
                rintro _ w16 ⟨rfl, h16⟩
                refine ⟨_, rfl, ?_⟩
                refine WL.v (Runs.pick rfl rfl rfl) rfl ?_
                refine WL.v (Runs.assign rfl) rfl ?_
                refine WL.nil ?_
                refine WN.thn ?_
                refine WC.ret ?_
                exact ret1 rfl rfl ⟨rfl, h16.weak hle⟩
end Dg
end Go.Proofs.Ytkfkdenikkadhaa
