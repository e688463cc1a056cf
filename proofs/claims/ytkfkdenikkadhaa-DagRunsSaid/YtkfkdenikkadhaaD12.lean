/- Walks of package dag: the reference: who is ready. -/
import Derived.Test.YtkfkdenikkadhaaD11
namespace Go.Proofs.Ytkfkdenikkadhaa
open Go Go.RowKit B
set_option linter.unusedVariables false
set_option linter.unusedSimpArgs false
namespace Dg

theorem can30 : B.Can Try.prog 30 := ⟨_, Try.func30, by kernel_rfl, rfl⟩   -- roundhouse/roundhouseref13.with
theorem can31 : B.Can Try.prog 31 := ⟨_, Try.func31, by kernel_rfl, rfl⟩   -- roundhouse/roundhouseref13.holds
def rdyUp (l : List S) (codes : List Int) (i k : Nat) : Prop := codes.getD i 0 = -1 ∧ ∀ j, j < k → holdsM ((l.getD i S0).af.getD j E0) codes = true
instance (l : List S) (codes : List Int) (i k : Nat) : Decidable (rdyUp l codes i k) := inferInstanceAs (Decidable (_ ∧ _))
theorem rdyUp_0 (l : List S) (codes : List Int) (i : Nat) : decide (codes.getD i 0 = -1) = decide (rdyUp l codes i 0) :=
  decide_eq_decide.2 ⟨fun h => ⟨h, fun j hj => absurd hj (Nat.not_lt_zero _)⟩, fun h => h.1⟩
theorem rdyUp_s {l : List S} {codes : List Int} {i k : Nat} (h : rdyUp l codes i k) : holdsM ((l.getD i S0).af.getD k E0) codes = decide (rdyUp l codes i (k + 1)) := by
  cases hh : holdsM ((l.getD i S0).af.getD k E0) codes with
  | true =>
    rw [decide_eq_true]
    exact ⟨h.1, fun j hj => by
      by_cases e : j = k
      · subst e; exact hh
      · exact h.2 j (by omega)⟩
  | false =>
    rw [decide_eq_false]
    intro h2
    have := h2.2 k (by omega)
    rw [hh] at this
    cases this
theorem rdyUp_n {l : List S} {codes : List Int} {i k : Nat} (h : ¬ rdyUp l codes i k) : ¬ rdyUp l codes i (k + 1) := fun hh => h ⟨hh.1, fun j hj => hh.2 j (by omega)⟩
set_option maxRecDepth 100000 in
set_option maxHeartbeats 8000000 in
theorem qready_c {W : World} {F : Snap} {cs : List Res} (w : World) {A : Option Addr} {cap : Nat} {l : List S} {A2 : Option Addr} {cap2 : Nat} {codes : List Int} (h : St W F cs w) (hR : RdS KS F A l) (hl : l.length ≤ 100000) (hf : fewE l) (hRc : RdS (Kd.one Vi) F A2 codes) (hc : codes.length ≤ 100000) : Calls Try.prog 17 #[.slice A l.length cap, .slice A2 codes.length cap2] w fun r w' => Gives2 W F cs (readyM l codes) (withM l codes) r w'  := by
  refine enter (P := Try.prog) (args := [.slice A l.length cap, .slice A2 codes.length cap2]) Try.func17 rfl rfl rfl ?_
  refine WC.seq ?_
  refine WC.reg ?_
  refine WL.v (Runs.assign rfl) rfl ?_
  refine WL.v (Runs.assign rfl) rfl ?_
  refine WL.nil ?_
  refine WN.thn ?_
  refine WC.seq ?_
  refine WC.reg ?_
  refine WL.v (Runs.move rfl) rfl ?_
  refine WL.v (Runs.move rfl) rfl ?_
  refine WL.call can30 rfl rfl (qwith_c _ h hR hl hf hRc hc) ?_
  rintro _ w1 ⟨rfl, h1⟩
  refine ⟨_, rfl, ?_⟩
  refine WL.v (Runs.assign rfl) rfl ?_
  refine WL.nil ?_
  refine WN.thn ?_
  refine WC.seq ?_
  refine WC.seq ?_
  refine WC.reg ?_
  refine WL.v (Runs.move rfl) rfl ?_
  refine WL.v (Runs.neq rfl rfl) rfl ?_
  refine WL.nil ?_
  refine WN.thn ?_
  refine WC.cond rfl (fun c2 => ?_) (fun c2 => ?_)
  · try simp only [decide_eq_true_eq, decide_eq_false_iff_not, Bool.not_eq_true', Bool.not_eq_false', Bool.and_eq_true, Int.not_lt, Int.not_le] at c2
    first
    | (exfalso; omega)
    | skip
      refine WC.seq ?_
      refine WC.reg ?_
      refine WL.v (Runs.move rfl) rfl ?_
      refine WL.v (Runs.assign rfl) rfl ?_
      refine WL.v (Runs.assign rfl) rfl ?_
      refine WL.nil ?_
      refine WN.thn ?_
      refine WC.ret ?_
      exact ret2 rfl rfl rfl (by unfold readyM; rw [if_neg (by simpa using c2)]; exact Row.gives2 _ (Row.nil 3 Vi) h1.nilRes)
  · try simp only [decide_eq_true_eq, decide_eq_false_iff_not, Bool.not_eq_true', Bool.not_eq_false', Bool.and_eq_true, Int.not_lt, Int.not_le] at c2
    first
    | (exfalso; omega)
    | skip
      refine WC.skip ?_
      refine WN.thn ?_
      refine WC.seq ?_
      have hw0 : withM l codes = 0 := by simpa using c2
      have hw := with_ok hw0
      have hall := (chk_ok hw.1).1
      refine WC.reg ?_
      refine WL.v (Runs.assign rfl) rfl ?_
      refine WL.nil ?_
      refine WN.thn ?_
      refine WC.seq ?_
      refine WC.seq ?_
      refine WC.reg ?_
      refine WL.v (Runs.assign rfl) rfl ?_
      refine WL.nil ?_
      refine WN.thn ?_
      refine WC.block ?_
      refine WC.loop (σ := Nat × Res × Value) (fun q_ => [(0, .slice A l.length cap), (1, .slice A2 codes.length cap2), (7, q_.2.2), (8, .int .i64 (q_.1 : Int))]) (fun q_ w => q_.1 ≤ l.length ∧ Row 3 Vi q_.2.1 q_.2.2 (rdyL l codes q_.1) ∧ St W F (q_.2.1 :: cs) w) (fun q_ => l.length - q_.1) (⟨0, [], .slice none 0 0⟩) (by repeat (first | exact trivial | refine ⟨rfl, ?_⟩)) (⟨Nat.zero_le _, Row.nil _ _, h1.nilRes⟩) ?_
      rintro ⟨i, r, v⟩ w3 ⟨hi, hro, hL⟩
      try dsimp only at hi hro hL
      refine WC.sub (s := [(0, .slice A l.length cap), (1, .slice A2 codes.length cap2), (7, v), (8, .int .i64 (i : Int))]) (by repeat (first | exact trivial | refine ⟨rfl, ?_⟩)) ?_
      obtain ⟨B, capr, rfl, hcap⟩ := hro.val
      have hln := rdyL_len l codes i
      refine WC.seq ?_
      refine WC.seq ?_
      refine WC.reg ?_
      refine WL.v (Runs.move rfl) rfl ?_
      refine WL.v (Runs.move rfl) rfl ?_
      refine WL.v (Runs.llen Try.underlying22 rfl rfl) rfl ?_
      refine WL.v (Runs.lss rfl rfl) rfl ?_
      refine WL.nil ?_
      refine WN.thn ?_
      refine WC.cond rfl (fun c4 => ?_) (fun c4 => ?_)
      · try simp only [decide_eq_true_eq, decide_eq_false_iff_not, Bool.not_eq_true', Bool.not_eq_false', Bool.and_eq_true, Int.not_lt, Int.not_le] at c4
        first
        | (exfalso; omega)
        | skip
          refine WC.skip ?_
          refine WN.thn ?_
          refine WC.seq ?_
          refine WC.block ?_
          refine WC.seq ?_
          have hi2 : i < l.length := by omega
          obtain ⟨ad, A1, cap1, rfl, hE, hcell⟩ := stepAt hR hi2
          have hf2 := hf i hi2
          obtain ⟨ac, rfl, hrc⟩ := rd1 hRc (by omega)
          refine WC.reg ?_
          refine WL.v (Runs.move rfl) rfl ?_
          refine WL.v (Runs.move rfl) rfl ?_
          refine WL.v (Runs.lidxN Try.underlying28 inf3 rfl rfl (n := i) rfl (by omega)) rfl ?_
          refine WL.v (Runs.loadR (f := Vi) (0 : Int) hL hrc (n := i) (by omega) Try.underlying3 rfl rfl) rfl ?_
          refine WL.v (Runs.boolT (c := decide (rdyUp l codes i 0)) (Runs.eql rfl rfl) (rdyUp_0 l codes i)) rfl ?_
          refine WL.v (Runs.assign rfl) rfl ?_
          refine WL.nil ?_
          refine WN.thn ?_
          refine WC.seq ?_
          refine WC.seq ?_
          refine WC.reg ?_
          refine WL.v (Runs.assign rfl) rfl ?_
          refine WL.nil ?_
          refine WN.thn ?_
          refine WC.block ?_
          refine WC.loop (σ := Nat) (fun q_ => [(0, .slice (some ad) l.length cap), (1, .slice (some ac) codes.length cap2), (7, .slice B (rdyL l codes i).length capr), (8, .int .i64 (i : Int)), (9, .bool (decide (rdyUp l codes i q_))), (10, .int .i64 (q_ : Int))]) (fun q_ w => q_ ≤ (l.getD i S0).af.length ∧ St W F (r :: cs) w) (fun q_ => (l.getD i S0).af.length - q_) (0) (by repeat (first | exact trivial | refine ⟨rfl, ?_⟩)) (⟨Nat.zero_le _, hL⟩) ?_
          rintro k w5 ⟨hk, hL⟩
          try dsimp only at hk hL
          refine WC.sub (s := [(0, .slice (some ad) l.length cap), (1, .slice (some ac) codes.length cap2), (7, .slice B (rdyL l codes i).length capr), (8, .int .i64 (i : Int)), (9, .bool (decide (rdyUp l codes i k))), (10, .int .i64 (k : Int))]) (by repeat (first | exact trivial | refine ⟨rfl, ?_⟩)) ?_
          refine WC.seq ?_
          refine WC.seq ?_
          refine WC.reg ?_
          refine WL.v (Runs.move rfl) rfl ?_
          refine WL.v (Runs.move rfl) rfl ?_
          refine WL.v (Runs.move rfl) rfl ?_
          refine WL.v (Runs.lidxK Try.underlying22 inf38 rfl rfl (n := i) rfl (by omega)) rfl ?_
          refine WL.v (Runs.fld fld38_4 rfl) rfl ?_
          refine WL.v (Runs.load1 Try.underlying36 rfl rfl (by rw [add_add]; exact hL.cell (hcell 4 _ rfl))) rfl ?_
          refine WL.v (Runs.intT (n := ((l.getD i S0).af.length : Int)) (Runs.llen Try.underlying36 rfl rfl) rfl) rfl ?_
          refine WL.v (Runs.lss rfl rfl) rfl ?_
          refine WL.nil ?_
          refine WN.thn ?_
          refine WC.cond rfl (fun c6 => ?_) (fun c6 => ?_)
          · try simp only [decide_eq_true_eq, decide_eq_false_iff_not, Bool.not_eq_true', Bool.not_eq_false', Bool.and_eq_true, Int.not_lt, Int.not_le] at c6
            first
            | (exfalso; omega)
            | skip
              refine WC.skip ?_
              refine WN.thn ?_
              refine WC.seq ?_
              refine WC.block ?_
              have hk2 : k < (l.getD i S0).af.length := by omega
              obtain ⟨ae, rfl⟩ := rdA hE (by omega)
              by_cases hu : rdyUp l codes i k
              · skip
                refine WC.reg ?_
                refine WL.v (Runs.move rfl) rfl ?_
                refine WL.v (Runs.boolT (c := true) (Runs.move rfl) (by rw [decide_eq_true hu])) rfl ?_
                refine WL.gon rfl rfl rfl ?_
                refine WL.v (Runs.move rfl) rfl ?_
                refine WL.gon rfl rfl rfl ?_
                refine WL.v (Runs.move rfl) rfl ?_
                refine WL.gon rfl rfl rfl ?_
                refine WL.v (Runs.lidxK Try.underlying22 inf38 rfl rfl (n := i) rfl (by omega)) rfl ?_
                refine WL.gon rfl rfl rfl ?_
                refine WL.v (Runs.fld fld38_4 rfl) rfl ?_
                refine WL.gon rfl rfl rfl ?_
                refine WL.v (Runs.load1 Try.underlying36 rfl rfl (by rw [add_add]; exact hL.cell (hcell 4 _ rfl))) rfl ?_
                refine WL.gon rfl rfl rfl ?_
                refine WL.v (Runs.move rfl) rfl ?_
                refine WL.gon rfl rfl rfl ?_
                refine WL.v (Runs.lidxK Try.underlying36 inf40 rfl rfl (n := k) rfl (by omega)) rfl ?_
                refine WL.gon rfl rfl rfl ?_
                refine WL.v (Runs.edgeA hL hE rfl (by omega) Try.underlying40 rfl inf40 rfl) rfl ?_
                refine WL.gon rfl rfl rfl ?_
                refine WL.v (Runs.move rfl) rfl ?_
                refine WL.gon rfl rfl rfl ?_
                refine WL.call can31 rfl rfl (qholds_c _ ((l.getD i S0).af.getD k E0) hL (RdW.of hRc) (by have := edge_in hall hi2 hk2; omega)) ?_
                rintro _ w7 ⟨rfl, h7⟩
                refine ⟨_, rfl, ?_⟩
                refine WL.v (Runs.pick rfl rfl rfl) rfl ?_
                refine WL.v (Runs.assign rfl) rfl ?_
                refine WL.nil ?_
                refine WN.blk ?_
                refine WN.thn ?_
                refine WC.reg ?_
                refine WL.v (Runs.move rfl) rfl ?_
                refine WL.v (Runs.addn rfl rfl (by omega)) rfl ?_
                refine WL.v (Runs.assign rfl) rfl ?_
                refine WL.nil ?_
                exact WN.again (k + 1) (by omega) ⟨rfl, rfl, rfl, rfl, (by show some (Value.bool _) = some (Value.bool _); rw [rdyUp_s hu]), rfl, trivial⟩ ⟨by omega, h7⟩
              · skip
                refine WC.reg ?_
                refine WL.v (Runs.move rfl) rfl ?_
                refine WL.v (Runs.boolT (c := false) (Runs.move rfl) (by rw [decide_eq_false hu])) rfl ?_
                refine WL.goff rfl rfl rfl rfl ?_
                refine WL.goff rfl rfl rfl rfl ?_
                refine WL.goff rfl rfl rfl rfl ?_
                refine WL.goff rfl rfl rfl rfl ?_
                refine WL.goff rfl rfl rfl rfl ?_
                refine WL.goff rfl rfl rfl rfl ?_
                refine WL.goff rfl rfl rfl rfl ?_
                refine WL.goff rfl rfl rfl rfl ?_
                refine WL.goff rfl rfl rfl rfl ?_
                refine WL.goff rfl rfl rfl rfl ?_
                refine WL.v (Runs.pick rfl rfl rfl) rfl ?_
                refine WL.v (Runs.assign rfl) rfl ?_
                refine WL.nil ?_
                refine WN.blk ?_
                refine WN.thn ?_
                refine WC.reg ?_
                refine WL.v (Runs.move rfl) rfl ?_
                refine WL.v (Runs.addn rfl rfl (by omega)) rfl ?_
                refine WL.v (Runs.assign rfl) rfl ?_
                refine WL.nil ?_
                exact WN.again (k + 1) (by omega) ⟨rfl, rfl, rfl, rfl, (by show some (Value.bool _) = some (Value.bool _); rw [decide_eq_false (rdyUp_n hu)]), rfl, trivial⟩ ⟨by omega, hL⟩
          · try simp only [decide_eq_true_eq, decide_eq_false_iff_not, Bool.not_eq_true', Bool.not_eq_false', Bool.and_eq_true, Int.not_lt, Int.not_le] at c6
            first
            | (exfalso; omega)
            | skip
              refine WC.exit ?_
              refine WX.thn ?_
              refine WX.cut ?_
              refine WX.hit ?_
              refine WN.thn ?_
              refine WC.seq ?_
              refine WC.reg ?_
              refine WL.v (Runs.move rfl) rfl ?_
              refine WL.nil ?_
              refine WN.thn ?_
              refine WC.cond rfl (fun c8 => ?_) (fun c8 => ?_)
              · try simp only [decide_eq_true_eq, decide_eq_false_iff_not, Bool.not_eq_true', Bool.not_eq_false', Bool.and_eq_true, Int.not_lt, Int.not_le] at c8
                first
                | (exfalso; omega)
                | skip
                  refine WC.reg ?_
                  refine WL.v (Runs.move rfl) rfl ?_
                  refine WL.v (Runs.move rfl) rfl ?_
                  refine WL.lit (vs := (([(i : Int)] : List Int)).map Vi) hL rfl Try.underlying28 inf3 rfl rfl rfl rfl rfl ?_
                  intro lit54 w9 h9
                  refine WL.app (ys := ([(i : Int)] : List Int)) 1 h9 rfl rfl rfl rfl Try.underlying28 Try.underlying28 (.inr ⟨_, rfl⟩) inf3 rfl hro (Src.lit h9 0 rfl rfl rfl) rfl rfl (by first | omega | (simp []; done) | (simp []; omega)) (by first | omega | (simp []; done) | (simp []; omega)) ?_
                  intro r10 v10 w11 hr10 h11
                  simp only [List.set_cons_zero, List.set_cons_succ] at h11
                  replace h11 := h11.drop 0
                  simp only [List.eraseIdx_cons_zero, List.eraseIdx_cons_succ] at h11
                  refine WL.v (Runs.assign rfl) rfl ?_
                  refine WL.nil ?_
                  refine WN.blk ?_
                  refine WN.thn ?_
                  refine WC.reg ?_
                  refine WL.v (Runs.move rfl) rfl ?_
                  refine WL.v (Runs.addn rfl rfl (by omega)) rfl ?_
                  refine WL.v (Runs.assign rfl) rfl ?_
                  refine WL.nil ?_
                  have hkk : k = (l.getD i S0).af.length := by omega
                  subst hkk
                  exact WN.again (⟨i + 1, r10, v10⟩ : Nat × Res × Value) (by show l.length - (i + 1) < l.length - i; omega) ⟨rfl, rfl, rfl, rfl, trivial⟩ ⟨by show i + 1 ≤ _; omega, (by
                    show Row 3 Vi r10 v10 (rdyL l codes (i + 1))
                    rw [rdyL_y c8]
                    exact hr10), h11⟩
              · try simp only [decide_eq_true_eq, decide_eq_false_iff_not, Bool.not_eq_true', Bool.not_eq_false', Bool.and_eq_true, Int.not_lt, Int.not_le] at c8
                first
                | (exfalso; omega)
                | skip
                  refine WC.skip ?_
                  refine WN.blk ?_
                  refine WN.thn ?_
                  refine WC.reg ?_
                  refine WL.v (Runs.move rfl) rfl ?_
                  refine WL.v (Runs.addn rfl rfl (by omega)) rfl ?_
                  refine WL.v (Runs.assign rfl) rfl ?_
                  refine WL.nil ?_
                  have hkk : k = (l.getD i S0).af.length := by omega
                  subst hkk
                  exact WN.again (⟨i + 1, r, _⟩ : Nat × Res × Value) (by show l.length - (i + 1) < l.length - i; omega) ⟨rfl, rfl, rfl, rfl, trivial⟩ ⟨by show i + 1 ≤ _; omega, (by
                    show Row 3 Vi r (.slice B (rdyL l codes i).length capr) (rdyL l codes (i + 1))
                    rw [rdyL_n (fun hh => c8 hh)]
                    exact hro), hL⟩
      · try simp only [decide_eq_true_eq, decide_eq_false_iff_not, Bool.not_eq_true', Bool.not_eq_false', Bool.and_eq_true, Int.not_lt, Int.not_le] at c4
        first
        | (exfalso; omega)
        | skip
          refine WC.exit ?_
          refine WX.thn ?_
          refine WX.cut ?_
          refine WX.hit ?_
          refine WN.thn ?_
          refine WC.seq ?_
          refine WC.reg ?_
          refine WL.v (Runs.move rfl) rfl ?_
          refine WL.v (Runs.assign rfl) rfl ?_
          refine WL.v (Runs.assign rfl) rfl ?_
          refine WL.nil ?_
          refine WN.thn ?_
          refine WC.ret ?_
          obtain rfl : i = l.length := by omega
          exact ret2 rfl rfl rfl (by unfold readyM; rw [if_pos hw0, hw0]; exact Row.gives2 _ hro hL)
end Dg
end Go.Proofs.Ytkfkdenikkadhaa
