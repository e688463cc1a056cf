/- Walks of package dag: the reference: who is doomed. -/
import Derived.Test.YtkfkdenikkadhaaD15
namespace Go.Proofs.Ytkfkdenikkadhaa
open Go Go.RowKit B
set_option linter.unusedVariables false
set_option linter.unusedSimpArgs false
namespace Dg


def doomM (l : List S) (codes : List Int) (i : Nat) : Prop := codes.getD i 0 = -1 ∧ ((l.getD i S0).af.any fun e => failM e codes) = true
instance (l : List S) (codes : List Int) (i : Nat) : Decidable (doomM l codes i) := inferInstanceAs (Decidable (_ ∧ _))
set_option maxRecDepth 100000 in
set_option maxHeartbeats 8000000 in
theorem doomed_c {W : World} {F : Snap} {cs : List Res} (w : World) {A : Option Addr} {cap : Nat} {l : List S} {A2 : Option Addr} {cap2 : Nat} {codes : List Int} (i : Nat) (h : St W F cs w) (hR : RdS KS F A l) (hl : l.length ≤ 100000) (hf : fewE l) (hRc : RdW W F cs Vi A2 codes) (hc : codes.length ≤ 100000) (hi : i < l.length) (hic : i < codes.length) (hed : ∀ k, k < (l.getD i S0).af.length → 0 ≤ ((l.getD i S0).af.getD k E0).st ∧ ((l.getD i S0).af.getD k E0).st < codes.length) : Calls Try.prog 35 #[.slice A l.length cap, .slice A2 codes.length cap2, Vi (i : Nat)] w fun r w' => r = .returned (.bool (decide (doomM l codes i))) ∧ St W F cs w'  := by
  refine enter (P := Try.prog) (args := [.slice A l.length cap, .slice A2 codes.length cap2, Vi (i : Nat)]) Try.func35 rfl rfl rfl ?_
  obtain ⟨ad, A1, cap1, rfl, hE, hcell⟩ := stepAt hR hi
  have hf2 := hf i hi
  obtain ⟨ac, rfl, hrc⟩ := hRc.at1 (by omega)
  refine WC.seq ?_
  refine WC.reg ?_
  refine WL.v (Runs.assign rfl) rfl ?_
  refine WL.nil ?_
  refine WN.thn ?_
  refine WC.seq ?_
  refine WC.seq ?_
  refine WC.reg ?_
  refine WL.v (Runs.assign rfl) rfl ?_
  refine WL.nil ?_
  refine WN.thn ?_
  refine WC.block ?_
  refine WC.loop (σ := Nat) (fun q_ => [(0, .slice (some ad) l.length cap), (1, .slice (some ac) codes.length cap2), (2, .int .i64 (i : Int)), (7, .int .i64 (q_ : Int))]) (fun q_ w => q_ ≤ (l.getD i S0).af.length ∧ (∀ j, j < q_ → codes.getD i 0 = -1 → failM ((l.getD i S0).af.getD j E0) codes = false) ∧ St W F cs w) (fun q_ => (l.getD i S0).af.length - q_) (0) (by repeat (first | exact trivial | refine ⟨rfl, ?_⟩)) (⟨Nat.zero_le _, fun j hj => absurd hj (Nat.not_lt_zero _), h⟩) ?_
  rintro k w1 ⟨hk, hno, hL⟩
  try dsimp only at hk hno hL
  refine WC.sub (s := [(0, .slice (some ad) l.length cap), (1, .slice (some ac) codes.length cap2), (2, .int .i64 (i : Int)), (7, .int .i64 (k : Int))]) (by repeat (first | exact trivial | refine ⟨rfl, ?_⟩)) ?_
  refine WC.seq ?_
  refine WC.seq ?_
  refine WC.reg ?_
  refine WL.v (Runs.move rfl) rfl ?_
  refine WL.v (Runs.move rfl) rfl ?_
  refine WL.v (Runs.move rfl) rfl ?_
  refine WL.v (Runs.lidxK Try.underlying22 inf38 rfl rfl (n := i) rfl (by omega)) rfl ?_
  refine WL.v (Runs.fld fld38_4 rfl) rfl ?_
  refine WL.v (Runs.load1 Try.underlying36 rfl rfl (by rw [add_add]; exact hL.cell (hcell 4 _ rfl))) rfl ?_
  refine WL.v (Runs.intT (n := ((l.getD i S0).af.length : Int)) (Runs.llen Try.underlying36 rfl rfl) rfl) rfl ?_
  refine WL.v (Runs.lss rfl rfl) rfl ?_
  refine WL.nil ?_
  refine WN.thn ?_
  refine WC.cond rfl (fun c2 => ?_) (fun c2 => ?_)
  · try simp only [decide_eq_true_eq, decide_eq_false_iff_not, Bool.not_eq_true', Bool.not_eq_false', Bool.and_eq_true, Int.not_lt, Int.not_le] at c2
    first
    | (exfalso; omega)
    | skip
      refine WC.skip ?_
      refine WN.thn ?_
      refine WC.seq ?_
      refine WC.block ?_
      refine WC.seq ?_
      have hk2 : k < (l.getD i S0).af.length := by omega
      have hke := hed k hk2
      obtain ⟨ae, rfl⟩ := rdA hE (by omega)
      refine WC.reg ?_
      refine WL.v (Runs.move rfl) rfl ?_
      refine WL.v (Runs.move rfl) rfl ?_
      refine WL.v (Runs.lidxK Try.underlying22 inf38 rfl rfl (n := i) rfl (by omega)) rfl ?_
      refine WL.v (Runs.fld fld38_4 rfl) rfl ?_
      refine WL.v (Runs.load1 Try.underlying36 rfl rfl (by rw [add_add]; exact hL.cell (hcell 4 _ rfl))) rfl ?_
      refine WL.v (Runs.move rfl) rfl ?_
      refine WL.v (Runs.lidxK Try.underlying36 inf40 rfl rfl (n := k) rfl (by omega)) rfl ?_
      refine WL.v (Runs.edgeA hL hE rfl (by omega) Try.underlying40 rfl inf40 rfl) rfl ?_
      refine WL.alloc' rfl hL inf40 ?_
      intro b8 w3 h3
      refine WL.storeAll h3 0 rfl rfl rfl inf40 rfl rfl rfl (Free.zero _) ?_
      intro  w4 h4
      try simp only [List.set_cons_zero, List.set_cons_succ, List.eraseIdx_cons_zero, List.eraseIdx_cons_succ] at h4
      refine WL.nil ?_
      refine WN.thn ?_
      refine WC.seq ?_
      rcases two ((codes.getD i 0) = -1) ((codes.getD ((l.getD i S0).af.getD k E0).st.toNat 0) ≠ -1) with n0 | ⟨y0, n1⟩ | ⟨y0, y1⟩
      · skip
        refine WC.reg ?_
        refine WL.v (Runs.move rfl) rfl ?_
        refine WL.v (Runs.move rfl) rfl ?_
        refine WL.v (Runs.lidxN Try.underlying28 inf3 rfl rfl (n := i) rfl (by omega)) rfl ?_
        refine WL.v (Runs.load1 Try.underlying3 rfl rfl (hrc _ (h4.drop 0) i 0 (by omega))) rfl ?_
        refine WL.v (Runs.boolT (c := false) (Runs.eql rfl rfl) (decide_eq_false n0)) rfl ?_
        refine WL.v (Runs.move rfl) rfl ?_
        refine WL.goff rfl rfl rfl rfl ?_
        refine WL.goff rfl rfl rfl rfl ?_
        refine WL.goff rfl rfl rfl rfl ?_
        refine WL.goff rfl rfl rfl rfl ?_
        refine WL.goff rfl rfl rfl rfl ?_
        refine WL.goff rfl rfl rfl rfl ?_
        refine WL.v (Runs.pick rfl rfl rfl) rfl ?_
        refine WL.v (Runs.move rfl) rfl ?_
        refine WL.goff rfl rfl rfl rfl ?_
        refine WL.goff rfl rfl rfl rfl ?_
        refine WL.goff rfl rfl rfl rfl ?_
        refine WL.goff rfl rfl rfl rfl ?_
        refine WL.v (Runs.pick rfl rfl rfl) rfl ?_
        refine WL.nil ?_
        refine WN.thn ?_
        refine WC.condF rfl (rfl) ?_
        refine WC.skip ?_
        refine WN.blk ?_
        refine WN.thn ?_
        refine WC.reg ?_
        refine WL.v (Runs.move rfl) rfl ?_
        refine WL.v (Runs.addn rfl rfl (by omega)) rfl ?_
        refine WL.v (Runs.assign rfl) rfl ?_
        refine WL.nil ?_
        exact WN.again (k + 1) (by omega) ⟨rfl, rfl, rfl, rfl, trivial⟩ ⟨by omega, fun j hj hm => (by
          by_cases e : j = k
          · subst e; exact absurd hm n0
          · exact hno j (by omega) hm), h4.drop 0⟩
      · skip
        refine WC.reg ?_
        refine WL.v (Runs.move rfl) rfl ?_
        refine WL.v (Runs.move rfl) rfl ?_
        refine WL.v (Runs.lidxN Try.underlying28 inf3 rfl rfl (n := i) rfl (by omega)) rfl ?_
        refine WL.v (Runs.load1 Try.underlying3 rfl rfl (hrc _ (h4.drop 0) i 0 (by omega))) rfl ?_
        refine WL.v (Runs.boolT (c := true) (Runs.eql rfl rfl) (decide_eq_true y0)) rfl ?_
        refine WL.v (Runs.move rfl) rfl ?_
        refine WL.gon rfl rfl rfl ?_
        refine WL.v (Runs.move rfl) rfl ?_
        refine WL.gon rfl rfl rfl ?_
        refine WL.v (Runs.fld fld40_0 rfl) rfl ?_
        refine WL.gon rfl rfl rfl ?_
        refine WL.v (Runs.load1 Try.underlying3 rfl rfl (h4.ocell (i := 0) rfl rfl)) rfl ?_
        refine WL.gon rfl rfl rfl ?_
        refine WL.v (Runs.lidxN Try.underlying28 inf3 rfl rfl (n := ((l.getD i S0).af.getD k E0).st.toNat) (by omega) (by omega)) rfl ?_
        refine WL.gon rfl rfl rfl ?_
        refine WL.v (Runs.load1 Try.underlying3 rfl rfl (hrc _ (h4.drop 0) ((l.getD i S0).af.getD k E0).st.toNat 0 (by omega))) rfl ?_
        refine WL.gon rfl rfl rfl ?_
        refine WL.v (Runs.boolT (c := false) (Runs.neq rfl rfl) (by rw [decide_eq_true (Classical.byContradiction n1)]; rfl)) rfl ?_
        refine WL.v (Runs.pick rfl rfl rfl) rfl ?_
        refine WL.v (Runs.move rfl) rfl ?_
        refine WL.goff rfl rfl rfl rfl ?_
        refine WL.goff rfl rfl rfl rfl ?_
        refine WL.goff rfl rfl rfl rfl ?_
        refine WL.goff rfl rfl rfl rfl ?_
        refine WL.v (Runs.pick rfl rfl rfl) rfl ?_
        refine WL.nil ?_
        refine WN.thn ?_
        refine WC.condF rfl (rfl) ?_
        refine WC.skip ?_
        refine WN.blk ?_
        refine WN.thn ?_
        refine WC.reg ?_
        refine WL.v (Runs.move rfl) rfl ?_
        refine WL.v (Runs.addn rfl rfl (by omega)) rfl ?_
        refine WL.v (Runs.assign rfl) rfl ?_
        refine WL.nil ?_
        exact WN.again (k + 1) (by omega) ⟨rfl, rfl, rfl, rfl, trivial⟩ ⟨by omega, fun j hj hm => (by
          by_cases e : j = k
          · subst e; unfold failM; rw [decide_eq_true (Classical.byContradiction n1)]; rfl
          · exact hno j (by omega) hm), h4.drop 0⟩
      · skip
        refine WC.reg ?_
        refine WL.v (Runs.move rfl) rfl ?_
        refine WL.v (Runs.move rfl) rfl ?_
        refine WL.v (Runs.lidxN Try.underlying28 inf3 rfl rfl (n := i) rfl (by omega)) rfl ?_
        refine WL.v (Runs.load1 Try.underlying3 rfl rfl (hrc _ (h4.drop 0) i 0 (by omega))) rfl ?_
        refine WL.v (Runs.boolT (c := true) (Runs.eql rfl rfl) (decide_eq_true y0)) rfl ?_
        refine WL.v (Runs.move rfl) rfl ?_
        refine WL.gon rfl rfl rfl ?_
        refine WL.v (Runs.move rfl) rfl ?_
        refine WL.gon rfl rfl rfl ?_
        refine WL.v (Runs.fld fld40_0 rfl) rfl ?_
        refine WL.gon rfl rfl rfl ?_
        refine WL.v (Runs.load1 Try.underlying3 rfl rfl (h4.ocell (i := 0) rfl rfl)) rfl ?_
        refine WL.gon rfl rfl rfl ?_
        refine WL.v (Runs.lidxN Try.underlying28 inf3 rfl rfl (n := ((l.getD i S0).af.getD k E0).st.toNat) (by omega) (by omega)) rfl ?_
        refine WL.gon rfl rfl rfl ?_
        refine WL.v (Runs.load1 Try.underlying3 rfl rfl (hrc _ (h4.drop 0) ((l.getD i S0).af.getD k E0).st.toNat 0 (by omega))) rfl ?_
        refine WL.gon rfl rfl rfl ?_
        refine WL.v (Runs.boolT (c := true) (Runs.neq rfl rfl) (by rw [decide_eq_false y1]; rfl)) rfl ?_
        refine WL.v (Runs.pick rfl rfl rfl) rfl ?_
        refine WL.v (Runs.move rfl) rfl ?_
        refine WL.gon rfl rfl rfl ?_
        refine WL.v (Runs.loadAll h4 0 rfl Try.underlying40 rfl inf40 rfl rfl) rfl ?_
        refine WL.gon rfl rfl rfl ?_
        refine WL.v (Runs.move rfl) rfl ?_
        refine WL.gon rfl rfl rfl ?_
        refine WL.call can31 rfl rfl (qholds_c _ ((l.getD i S0).af.getD k E0) h4 (RdW.push_ hRc) hke) ?_
        rintro _ w5 ⟨rfl, h5⟩
        refine ⟨_, rfl, ?_⟩
        refine WL.gon rfl rfl rfl ?_
        refine WL.v (Runs.not rfl) rfl ?_
        refine WL.v (Runs.pick rfl rfl rfl) rfl ?_
        refine WL.nil ?_
        refine WN.thn ?_
        refine WC.cond rfl (fun c6 => ?_) (fun c6 => ?_)
        · try simp only [decide_eq_true_eq, decide_eq_false_iff_not, Bool.not_eq_true', Bool.not_eq_false', Bool.and_eq_true, Int.not_lt, Int.not_le] at c6
          first
          | (exfalso; omega)
          | skip
            refine WC.seq ?_
            refine WC.reg ?_
            refine WL.v (Runs.assign rfl) rfl ?_
            refine WL.nil ?_
            refine WN.thn ?_
            refine WC.ret ?_
            have hz : doomM l codes i := ⟨y0, any_t (d := E0) hk2 (by unfold failM; rw [decide_eq_false y1]; simpa using c6)⟩
            exact ret1 rfl rfl ⟨by rw [decide_eq_true hz], h5.drop 0⟩
        · try simp only [decide_eq_true_eq, decide_eq_false_iff_not, Bool.not_eq_true', Bool.not_eq_false', Bool.and_eq_true, Int.not_lt, Int.not_le] at c6
          first
          | (exfalso; omega)
          | skip
            refine WC.skip ?_
            refine WN.blk ?_
            refine WN.thn ?_
            refine WC.reg ?_
            refine WL.v (Runs.move rfl) rfl ?_
            refine WL.v (Runs.addn rfl rfl (by omega)) rfl ?_
            refine WL.v (Runs.assign rfl) rfl ?_
            refine WL.nil ?_
            exact WN.again (k + 1) (by omega) ⟨rfl, rfl, rfl, rfl, trivial⟩ ⟨by omega, fun j hj hm => (by
              by_cases e : j = k
              · subst e; unfold failM; rw [decide_eq_false y1]; simpa using c6
              · exact hno j (by omega) hm), h5.drop 0⟩
  · try simp only [decide_eq_true_eq, decide_eq_false_iff_not, Bool.not_eq_true', Bool.not_eq_false', Bool.and_eq_true, Int.not_lt, Int.not_le] at c2
    first
    | (exfalso; omega)
    | skip
      refine WC.exit ?_
      refine WX.thn ?_
      refine WX.cut ?_
      refine WX.hit ?_
      refine WN.thn ?_
      refine WC.seq ?_
      refine WC.reg ?_
      refine WL.v (Runs.assign rfl) rfl ?_
      refine WL.nil ?_
      refine WN.thn ?_
      refine WC.ret ?_
      have hz : ¬ doomM l codes i := fun hh => by
        have h9 := any_f (xs := (l.getD i S0).af) (p := fun e => failM e codes) (d := E0) (fun j hj => hno j (by omega) hh.1)
        have h8 := hh.2
        rw [h9] at h8
        cases h8
      exact ret1 rfl rfl ⟨by rw [decide_eq_false hz], hL⟩
end Dg
end Go.Proofs.Ytkfkdenikkadhaa
