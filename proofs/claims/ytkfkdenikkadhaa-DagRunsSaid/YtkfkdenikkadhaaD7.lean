/- Walks of package dag: the reference: an order of steps. -/
import Derived.Test.YtkfkdenikkadhaaBaseT
import Derived.Test.YtkfkdenikkadhaaD6
namespace Go.Proofs.Ytkfkdenikkadhaa
open Go Go.RowKit B
set_option linter.unusedVariables false
set_option linter.unusedSimpArgs false
namespace Dg

theorem inf4 : Inf Try.prog 4 (.bool false) 1 1 := by unfold Inf; kernel_rfl
def dnL (n : Nat) (out : List Int) : List Bool := (List.range n).map fun (j : Nat) => decide ((j : Int) ∈ out)
theorem dnL_len (n : Nat) (out : List Int) : (dnL n out).length = n := by unfold dnL; simp
theorem dn_at {N n : Nat} {out : List Int} (h : n < N) : ((dnL N out).map Value.bool ++ []).toArray[n]? = some (.bool (decide ((n : Int) ∈ out))) := by
  simp [dnL, h]
theorem dn_0 (N : Nat) : (List.replicate N (Value.bool false)).toArray = ((dnL N []).map Value.bool ++ []).toArray := by
  congr 1
  simp [dnL, List.map_const']
theorem dn_set {N m : Nat} {out : List Int} (h : m < N) : (dnL N out).set m true = dnL N (out ++ [(m : Int)]) := by
  apply List.ext_getElem?
  intro j
  rw [List.getElem?_set]
  unfold dnL
  by_cases e : m = j
  · subst e; simp [h]
  · rw [if_neg e]
    by_cases hj : j < N
    · have : ¬ ((j : Int) = (m : Int)) := by omega
      simp [hj, this]
    · simp [hj]
def okUp (l : List S) (out : List Int) (i k : Nat) : Prop := (i : Int) ∉ out ∧ ∀ j, j < k → ((l.getD i S0).af.getD j E0).st ∈ out
instance (l : List S) (out : List Int) (i k : Nat) : Decidable (okUp l out i k) := inferInstanceAs (Decidable (_ ∧ _))
theorem okUp_0 (l : List S) (out : List Int) (i : Nat) : (!decide ((i : Int) ∈ out)) = decide (okUp l out i 0) := by
  by_cases h : (i : Int) ∈ out
  · rw [decide_eq_true h, decide_eq_false (fun hh => hh.1 h)]; rfl
  · rw [decide_eq_false h, decide_eq_true ⟨h, fun j hj => absurd hj (Nat.not_lt_zero _)⟩]; rfl
theorem okUp_s {l : List S} {out : List Int} {i k : Nat} (h : okUp l out i k) : decide (((l.getD i S0).af.getD k E0).st ∈ out) = decide (okUp l out i (k + 1)) := by
  by_cases h2 : ((l.getD i S0).af.getD k E0).st ∈ out
  · rw [decide_eq_true h2, decide_eq_true]
    exact ⟨h.1, fun j hj => by
      by_cases e : j = k
      · subst e; exact h2
      · exact h.2 j (by omega)⟩
  · rw [decide_eq_false h2, decide_eq_false]
    exact fun hh => h2 (hh.2 k (by omega))
theorem okUp_n {l : List S} {out : List Int} {i k : Nat} (h : ¬ okUp l out i k) : ¬ okUp l out i (k + 1) := fun hh => h ⟨hh.1, fun j hj => hh.2 j (by omega)⟩
theorem edge_in {l : List S} (hok : okAll l) {i k : Nat} (hi : i < l.length) (hk : k < (l.getD i S0).af.length) : 0 ≤ ((l.getD i S0).af.getD k E0).st ∧ ((l.getD i S0).af.getD k E0).st < l.length := by
  have := of_decide_eq_true ((hok i hi).2 k hk).1
  omega
set_option maxRecDepth 100000 in
set_option maxHeartbeats 8000000 in
theorem qorder_c {W : World} {F : Snap} {cs : List Res} (w : World) {A : Option Addr} {cap : Nat} {l : List S} (h : St W F cs w) (hR : RdS KS F A l) (hl : l.length ≤ 100000) (hf : fewE l) (hok : okAll l) : Calls Try.prog 27 #[.slice A l.length cap] w fun r w' => Gives W F cs Vi (ordM l) r w'  := by
  refine enter (P := Try.prog) (args := [.slice A l.length cap]) Try.func27 rfl rfl rfl ?_
  refine WC.seq ?_
  refine WC.reg ?_
  refine WL.v (Runs.assign rfl) rfl ?_
  refine WL.nil ?_
  refine WN.thn ?_
  refine WC.seq ?_
  refine WC.reg ?_
  refine WL.v (Runs.assign rfl) rfl ?_
  refine WL.nil ?_
  refine WN.thn ?_
  refine WC.seq ?_
  refine WC.reg ?_
  refine WL.v (Runs.move rfl) rfl ?_
  refine WL.v (Runs.intT (n := (l.length : Int)) (Runs.llen Try.underlying22 rfl rfl) rfl) rfl ?_
  refine WL.make1 (l := l.length) (c := l.length) rfl h Try.underlying52 inf4 rfl rfl rfl (Nat.le_refl _) (by omega) (by omega) ?_
  intro yb w1 h1
  try simp only [List.set_cons_zero, List.set_cons_succ, List.eraseIdx_cons_zero, List.eraseIdx_cons_succ] at h1
  rw [dn_0] at h1
  refine WL.v (Runs.assign rfl) rfl ?_
  refine WL.nil ?_
  refine WN.thn ?_
  refine WC.seq ?_
  refine WC.block ?_
  refine WC.loop (σ := Nat × List Int × Res × Value) (fun q_ => [(0, .slice A l.length cap), (3, q_.2.2.2), (4, .slice (some ⟨yb, 0, none⟩) l.length l.length)]) (fun q_ w => ordM l = ordF l q_.1 q_.2.1 ∧ cnt q_.2.1 l.length = q_.1 ∧ q_.2.1.length + q_.1 = l.length ∧ Row 3 Vi q_.2.2.1 q_.2.2.2 q_.2.1 ∧ St W F (q_.2.2.1 :: [(yb, .cells ((dnL l.length q_.2.1).map Value.bool ++ []).toArray 4 (0, 0))] :: cs) w) (fun q_ => q_.1) (⟨l.length, [], [], .slice none 0 0⟩) (by repeat (first | exact trivial | refine ⟨rfl, ?_⟩)) (⟨rfl, cnt_nil _, Nat.zero_add _, Row.nil _ _, h1.nilRes⟩) ?_
  rintro ⟨n, out, r, v⟩ w2 ⟨hm, hc, hlen, hro, hL⟩
  try dsimp only at hm hc hlen hro hL
  refine WC.sub (s := [(0, .slice A l.length cap), (3, v), (4, .slice (some ⟨yb, 0, none⟩) l.length l.length)]) (by repeat (first | exact trivial | refine ⟨rfl, ?_⟩)) ?_
  obtain ⟨B, capr, rfl, hcap⟩ := hro.val
  refine WC.seq ?_
  refine WC.seq ?_
  refine WC.reg ?_
  refine WL.v (Runs.move rfl) rfl ?_
  refine WL.v (Runs.intT (n := (out.length : Int)) (Runs.llen Try.underlying28 rfl rfl) rfl) rfl ?_
  refine WL.v (Runs.move rfl) rfl ?_
  refine WL.v (Runs.intT (n := (l.length : Int)) (Runs.llen Try.underlying22 rfl rfl) rfl) rfl ?_
  refine WL.v (Runs.lss rfl rfl) rfl ?_
  refine WL.nil ?_
  refine WN.thn ?_
  refine WC.cond rfl (fun c3 => ?_) (fun c3 => ?_)
  · try simp only [decide_eq_true_eq, decide_eq_false_iff_not, Bool.not_eq_true', Bool.not_eq_false', Bool.and_eq_true, Int.not_lt, Int.not_le] at c3
    first
    | (exfalso; omega)
    | skip
      refine WC.skip ?_
      refine WN.thn ?_
      refine WC.block ?_
      refine WC.seq ?_
      refine WC.reg ?_
      refine WL.v (Runs.assign rfl) rfl ?_
      refine WL.nil ?_
      refine WN.thn ?_
      refine WC.seq ?_
      refine WC.seq ?_
      refine WC.reg ?_
      refine WL.v (Runs.assign rfl) rfl ?_
      refine WL.nil ?_
      refine WN.thn ?_
      refine WC.block ?_
      refine WC.loop (σ := Nat × Int) (fun q_ => [(0, .slice A l.length cap), (3, .slice B out.length capr), (4, .slice (some ⟨yb, 0, none⟩) l.length l.length), (5, .int .i64 q_.2), (6, .int .i64 (q_.1 : Int))]) (fun q_ w => q_.1 ≤ l.length ∧ ((q_.2 = -1 ∧ ∀ j, j < q_.1 → ¬ okAt l out j) ∨ ∃ m : Nat, q_.2 = (m : Int) ∧ q_.1 = m + 1 ∧ okAt l out m ∧ ∀ j, j < m → ¬ okAt l out j) ∧ St W F (r :: [(yb, .cells ((dnL l.length out).map Value.bool ++ []).toArray 4 (0, 0))] :: cs) w) (fun q_ => l.length - q_.1) (⟨0, -1⟩) (by repeat (first | exact trivial | refine ⟨rfl, ?_⟩)) (⟨Nat.zero_le _, .inl ⟨rfl, fun j hj => absurd hj (Nat.not_lt_zero _)⟩, hL⟩) ?_
      rintro ⟨i, nx⟩ w4 ⟨hi, hinv, hL⟩
      try dsimp only at hi hinv hL
      refine WC.sub (s := [(0, .slice A l.length cap), (3, .slice B out.length capr), (4, .slice (some ⟨yb, 0, none⟩) l.length l.length), (5, .int .i64 nx), (6, .int .i64 (i : Int))]) (by repeat (first | exact trivial | refine ⟨rfl, ?_⟩)) ?_
      refine WC.seq ?_
      refine WC.seq ?_
      have hcase : i < l.length ∨ l.length ≤ i := by omega
      rcases hinv with ⟨rfl, hno⟩ | ⟨m, rfl, rfl, hat, hno⟩
      all_goals rcases hcase with hil | hil
      · skip
        refine WC.reg ?_
        refine WL.v (Runs.move rfl) rfl ?_
        refine WL.v (Runs.move rfl) rfl ?_
        refine WL.v (Runs.llen Try.underlying22 rfl rfl) rfl ?_
        refine WL.v (Runs.boolT (c := true) (Runs.lss rfl rfl) (by rw [decide_eq_true_eq]; omega)) rfl ?_
        refine WL.v (Runs.move rfl) rfl ?_
        refine WL.gon rfl rfl rfl ?_
        refine WL.v (Runs.move rfl) rfl ?_
        refine WL.gon rfl rfl rfl ?_
        refine WL.v (Runs.boolT (c := true) (Runs.lss rfl rfl) rfl) rfl ?_
        refine WL.v (Runs.pick rfl rfl rfl) rfl ?_
        refine WL.nil ?_
        refine WN.thn ?_
        refine WC.condT rfl (rfl) ?_
        refine WC.skip ?_
        refine WN.thn ?_
        refine WC.seq ?_
        refine WC.block ?_
        refine WC.seq ?_
        refine WC.reg ?_
        refine WL.v (Runs.move rfl) rfl ?_
        refine WL.v (Runs.move rfl) rfl ?_
        refine WL.v (Runs.valT (u := .pointer (some ⟨yb, i, none⟩)) (Runs.lidxN Try.underlying52 inf4 rfl rfl (n := i) rfl (by omega)) (by rw [add_mk, Nat.zero_add])) rfl ?_
        refine WL.v (Runs.load1 Try.underlying4 rfl rfl (hL.ocell (i := 1) rfl (dn_at (n := i) (by omega)))) rfl ?_
        refine WL.v (Runs.boolT (c := decide (okUp l out i 0)) (Runs.not rfl) (okUp_0 l out i)) rfl ?_
        refine WL.v (Runs.assign rfl) rfl ?_
        refine WL.nil ?_
        refine WN.thn ?_
        refine WC.seq ?_
        refine WC.seq ?_
        obtain ⟨ad, A1, cap1, rfl, hE, hcell⟩ := stepAt hR hil
        have hf2 := hf i hil
        refine WC.reg ?_
        refine WL.v (Runs.assign rfl) rfl ?_
        refine WL.nil ?_
        refine WN.thn ?_
        refine WC.block ?_
        refine WC.loop (σ := Nat) (fun q_ => [(0, .slice (some ad) l.length cap), (3, .slice B out.length capr), (4, .slice (some ⟨yb, 0, none⟩) l.length l.length), (5, .int .i64 (-1)), (6, .int .i64 (i : Int)), (7, .bool (decide (okUp l out i q_))), (8, .int .i64 (q_ : Int))]) (fun q_ w => q_ ≤ (l.getD i S0).af.length ∧ St W F (r :: [(yb, .cells ((dnL l.length out).map Value.bool ++ []).toArray 4 (0, 0))] :: cs) w) (fun q_ => (l.getD i S0).af.length - q_) (0) (by repeat (first | exact trivial | refine ⟨rfl, ?_⟩)) (⟨Nat.zero_le _, hL⟩) ?_
        rintro k w5 ⟨hk, hL⟩
        try dsimp only at hk hL
        refine WC.sub (s := [(0, .slice (some ad) l.length cap), (3, .slice B out.length capr), (4, .slice (some ⟨yb, 0, none⟩) l.length l.length), (5, .int .i64 (-1)), (6, .int .i64 (i : Int)), (7, .bool (decide (okUp l out i k))), (8, .int .i64 (k : Int))]) (by repeat (first | exact trivial | refine ⟨rfl, ?_⟩)) ?_
        refine WC.seq ?_
        refine WC.seq ?_
        refine WC.reg ?_
        refine WL.v (Runs.move rfl) rfl ?_
        refine WL.v (Runs.move rfl) rfl ?_
        refine WL.v (Runs.move rfl) rfl ?_
        refine WL.v (Runs.lidxK Try.underlying22 inf38 rfl rfl (n := i) rfl (by omega)) rfl ?_
        refine WL.v (Runs.fld fld38_4 rfl) rfl ?_
        refine WL.v (Runs.load1 Try.underlying36 rfl rfl (by rw [add_add]; exact hL.cell (hcell 4 _ rfl))) rfl ?_
        refine WL.v (Runs.intT (n := ((l.getD i S0).af.length : Int)) (Runs.llen Try.underlying36 rfl rfl) rfl) rfl ?_
        refine WL.v (Runs.lss rfl rfl) rfl ?_
        refine WL.nil ?_
        refine WN.thn ?_
        refine WC.cond rfl (fun c6 => ?_) (fun c6 => ?_)
        · try simp only [decide_eq_true_eq, decide_eq_false_iff_not, Bool.not_eq_true', Bool.not_eq_false', Bool.and_eq_true, Int.not_lt, Int.not_le] at c6
          first
          | (exfalso; omega)
          | skip
            refine WC.skip ?_
            refine WN.thn ?_
            refine WC.seq ?_
            refine WC.block ?_
            have hk2 : k < (l.getD i S0).af.length := by omega
            have hst := edge_in hok hil hk2
            obtain ⟨ae, rfl⟩ := rdA hE (by omega)
            by_cases hu : okUp l out i k
            · skip
              refine WC.reg ?_
              refine WL.v (Runs.move rfl) rfl ?_
              refine WL.v (Runs.boolT (c := true) (Runs.move rfl) (by rw [decide_eq_true hu])) rfl ?_
              refine WL.gon rfl rfl rfl ?_
              refine WL.v (Runs.move rfl) rfl ?_
              refine WL.gon rfl rfl rfl ?_
              refine WL.v (Runs.move rfl) rfl ?_
              refine WL.gon rfl rfl rfl ?_
              refine WL.v (Runs.move rfl) rfl ?_
              refine WL.gon rfl rfl rfl ?_
              refine WL.v (Runs.lidxK Try.underlying22 inf38 rfl rfl (n := i) rfl (by omega)) rfl ?_
              refine WL.gon rfl rfl rfl ?_
              refine WL.v (Runs.fld fld38_4 rfl) rfl ?_
              refine WL.gon rfl rfl rfl ?_
              refine WL.v (Runs.load1 Try.underlying36 rfl rfl (by rw [add_add]; exact hL.cell (hcell 4 _ rfl))) rfl ?_
              refine WL.gon rfl rfl rfl ?_
              refine WL.v (Runs.move rfl) rfl ?_
              refine WL.gon rfl rfl rfl ?_
              refine WL.v (Runs.lidxK Try.underlying36 inf40 rfl rfl (n := k) rfl (by omega)) rfl ?_
              refine WL.gon rfl rfl rfl ?_
              refine WL.v (Runs.fld fld40_0 rfl) rfl ?_
              refine WL.gon rfl rfl rfl ?_
              refine WL.v (Runs.load1 Try.underlying3 rfl rfl (edgeCell hL hE (by omega)).1) rfl ?_
              refine WL.gon rfl rfl rfl ?_
              refine WL.v (Runs.valT (u := .pointer (some ⟨yb, ((l.getD i S0).af.getD k E0).st.toNat, none⟩)) (Runs.lidxN Try.underlying52 inf4 rfl rfl (n := ((l.getD i S0).af.getD k E0).st.toNat) (by omega) (by omega)) (by rw [add_mk, Nat.zero_add])) rfl ?_
              refine WL.gon rfl rfl rfl ?_
              refine WL.v (Runs.load1 Try.underlying4 rfl rfl (hL.ocell (i := 1) rfl ((dn_at (n := ((l.getD i S0).af.getD k E0).st.toNat) (by omega)).trans (by rw [Int.toNat_of_nonneg hst.1])))) rfl ?_
              refine WL.v (Runs.pick rfl rfl rfl) rfl ?_
              refine WL.v (Runs.assign rfl) rfl ?_
              refine WL.nil ?_
              refine WN.blk ?_
              refine WN.thn ?_
              refine WC.reg ?_
              refine WL.v (Runs.move rfl) rfl ?_
              refine WL.v (Runs.addn rfl rfl (by omega)) rfl ?_
              refine WL.v (Runs.assign rfl) rfl ?_
              refine WL.nil ?_
              exact WN.again (k + 1) (by omega) ⟨rfl, rfl, rfl, rfl, rfl, (by show some (Value.bool _) = some (Value.bool _); rw [okUp_s hu]), rfl, trivial⟩ ⟨by omega, hL⟩
            · skip
              refine WC.reg ?_
              refine WL.v (Runs.move rfl) rfl ?_
              refine WL.v (Runs.boolT (c := false) (Runs.move rfl) (by rw [decide_eq_false hu])) rfl ?_
              refine WL.goff rfl rfl rfl rfl ?_
              refine WL.goff rfl rfl rfl rfl ?_
              refine WL.goff rfl rfl rfl rfl ?_
              refine WL.goff rfl rfl rfl rfl ?_
              refine WL.goff rfl rfl rfl rfl ?_
              refine WL.goff rfl rfl rfl rfl ?_
              refine WL.goff rfl rfl rfl rfl ?_
              refine WL.goff rfl rfl rfl rfl ?_
              refine WL.goff rfl rfl rfl rfl ?_
              refine WL.goff rfl rfl rfl rfl ?_
              refine WL.goff rfl rfl rfl rfl ?_
              refine WL.goff rfl rfl rfl rfl ?_
              refine WL.v (Runs.pick rfl rfl rfl) rfl ?_
              refine WL.v (Runs.assign rfl) rfl ?_
              refine WL.nil ?_
              refine WN.blk ?_
              refine WN.thn ?_
              refine WC.reg ?_
              refine WL.v (Runs.move rfl) rfl ?_
              refine WL.v (Runs.addn rfl rfl (by omega)) rfl ?_
              refine WL.v (Runs.assign rfl) rfl ?_
              refine WL.nil ?_
              exact WN.again (k + 1) (by omega) ⟨rfl, rfl, rfl, rfl, rfl, (by show some (Value.bool _) = some (Value.bool _); rw [decide_eq_false (okUp_n hu)]), rfl, trivial⟩ ⟨by omega, hL⟩
        · try simp only [decide_eq_true_eq, decide_eq_false_iff_not, Bool.not_eq_true', Bool.not_eq_false', Bool.and_eq_true, Int.not_lt, Int.not_le] at c6
          first
          | (exfalso; omega)
          | skip
            refine WC.exit ?_
            refine WX.thn ?_
            refine WX.cut ?_
            refine WX.hit ?_
            refine WN.thn ?_
            refine WC.seq ?_
            refine WC.reg ?_
            refine WL.v (Runs.move rfl) rfl ?_
            refine WL.nil ?_
            refine WN.thn ?_
            refine WC.cond rfl (fun c7 => ?_) (fun c7 => ?_)
            · try simp only [decide_eq_true_eq, decide_eq_false_iff_not, Bool.not_eq_true', Bool.not_eq_false', Bool.and_eq_true, Int.not_lt, Int.not_le] at c7
              first
              | (exfalso; omega)
              | skip
                refine WC.reg ?_
                refine WL.v (Runs.move rfl) rfl ?_
                refine WL.v (Runs.assign rfl) rfl ?_
                refine WL.nil ?_
                refine WN.blk ?_
                refine WN.thn ?_
                refine WC.reg ?_
                refine WL.v (Runs.move rfl) rfl ?_
                refine WL.v (Runs.addn rfl rfl (by omega)) rfl ?_
                refine WL.v (Runs.assign rfl) rfl ?_
                refine WL.nil ?_
                have hkk : k = (l.getD i S0).af.length := by omega
                subst hkk
                exact WN.again (⟨i + 1, (i : Int)⟩ : Nat × Int) (by show l.length - (i + 1) < l.length - i; omega) ⟨rfl, rfl, rfl, rfl, rfl, trivial⟩ ⟨by show i + 1 ≤ _; omega, .inr ⟨i, rfl, rfl, c7, hno⟩, hL⟩
            · try simp only [decide_eq_true_eq, decide_eq_false_iff_not, Bool.not_eq_true', Bool.not_eq_false', Bool.and_eq_true, Int.not_lt, Int.not_le] at c7
              first
              | (exfalso; omega)
              | skip
                refine WC.skip ?_
                refine WN.blk ?_
                refine WN.thn ?_
                refine WC.reg ?_
                refine WL.v (Runs.move rfl) rfl ?_
                refine WL.v (Runs.addn rfl rfl (by omega)) rfl ?_
                refine WL.v (Runs.assign rfl) rfl ?_
                refine WL.nil ?_
                have hkk : k = (l.getD i S0).af.length := by omega
                subst hkk
                exact WN.again (⟨i + 1, -1⟩ : Nat × Int) (by show l.length - (i + 1) < l.length - i; omega) ⟨rfl, rfl, rfl, rfl, rfl, trivial⟩ ⟨by show i + 1 ≤ _; omega, .inl ⟨rfl, fun j hj => (by
                  have hj : j < i + 1 := hj
                  by_cases e : j = i
                  · subst e; exact c7
                  · exact hno j (by omega))⟩, hL⟩
      · skip
        refine WC.reg ?_
        refine WL.v (Runs.move rfl) rfl ?_
        refine WL.v (Runs.move rfl) rfl ?_
        refine WL.v (Runs.llen Try.underlying22 rfl rfl) rfl ?_
        refine WL.v (Runs.boolT (c := false) (Runs.lss rfl rfl) (by rw [decide_eq_false_iff_not]; omega)) rfl ?_
        refine WL.v (Runs.move rfl) rfl ?_
        refine WL.goff rfl rfl rfl rfl ?_
        refine WL.goff rfl rfl rfl rfl ?_
        refine WL.v (Runs.pick rfl rfl rfl) rfl ?_
        refine WL.nil ?_
        refine WN.thn ?_
        refine WC.condF rfl (rfl) ?_
        refine WC.exit ?_
        refine WX.thn ?_
        refine WX.cut ?_
        refine WX.hit ?_
        refine WN.thn ?_
        refine WC.seq ?_
        refine WC.seq ?_
        refine WC.reg ?_
        refine WL.v (Runs.move rfl) rfl ?_
        refine WL.v (Runs.boolT (c := true) (Runs.lss rfl rfl) rfl) rfl ?_
        refine WL.nil ?_
        refine WN.thn ?_
        refine WC.condT rfl (rfl) ?_
        refine WC.seq ?_
        refine WC.reg ?_
        refine WL.v (Runs.move rfl) rfl ?_
        refine WL.v (Runs.assign rfl) rfl ?_
        refine WL.nil ?_
        refine WN.thn ?_
        refine WC.ret ?_
        have e1 := nextM_none (l := l) (out := out) (fun j hj => hno j (by omega))
        have e2 : ordM l = out := hm.trans (ordF_none e1)
        exact ret1 rfl rfl (by rw [e2]; exact Row.gives hro (hL.drop 1))
      · skip
        refine WC.reg ?_
        refine WL.v (Runs.move rfl) rfl ?_
        refine WL.v (Runs.move rfl) rfl ?_
        refine WL.v (Runs.llen Try.underlying22 rfl rfl) rfl ?_
        refine WL.v (Runs.boolT (c := true) (Runs.lss rfl rfl) (by rw [decide_eq_true_eq]; omega)) rfl ?_
        refine WL.v (Runs.move rfl) rfl ?_
        refine WL.gon rfl rfl rfl ?_
        refine WL.v (Runs.move rfl) rfl ?_
        refine WL.gon rfl rfl rfl ?_
        refine WL.v (Runs.boolT (c := false) (Runs.lss rfl rfl) (by rw [decide_eq_false_iff_not]; omega)) rfl ?_
        refine WL.v (Runs.pick rfl rfl rfl) rfl ?_
        refine WL.nil ?_
        refine WN.thn ?_
        refine WC.condF rfl (rfl) ?_
        refine WC.exit ?_
        refine WX.thn ?_
        refine WX.cut ?_
        refine WX.hit ?_
        refine WN.thn ?_
        refine WC.seq ?_
        refine WC.seq ?_
        refine WC.reg ?_
        refine WL.v (Runs.move rfl) rfl ?_
        refine WL.v (Runs.boolT (c := false) (Runs.lss rfl rfl) (by rw [decide_eq_false_iff_not]; omega)) rfl ?_
        refine WL.nil ?_
        refine WN.thn ?_
        refine WC.condF rfl (rfl) ?_
        refine WC.skip ?_
        refine WN.thn ?_
        refine WC.seq ?_
        refine WC.reg ?_
        refine WL.v (Runs.move rfl) rfl ?_
        refine WL.v (Runs.move rfl) rfl ?_
        refine WL.v (Runs.valT (u := .pointer (some ⟨yb, m, none⟩)) (Runs.lidxN Try.underlying52 inf4 rfl rfl (n := m) rfl (by omega)) (by rw [add_mk, Nat.zero_add])) rfl ?_
        refine WL.storeRow hL 1 (f := Value.bool) (xs := dnL l.length out) (u := true) (zs := []) rfl rfl rfl inf4 rfl (Free.zero _) (by rw [dnL_len]; omega) ?_
        intro  w8 h8
        try simp only [List.set_cons_zero, List.set_cons_succ, List.eraseIdx_cons_zero, List.eraseIdx_cons_succ] at h8
        rw [dn_set (by omega)] at h8
        refine WL.nil ?_
        refine WN.thn ?_
        refine WC.reg ?_
        refine WL.v (Runs.move rfl) rfl ?_
        refine WL.v (Runs.move rfl) rfl ?_
        refine WL.lit (vs := (([(m : Int)] : List Int)).map Vi) h8 rfl Try.underlying28 inf3 rfl rfl rfl rfl rfl ?_
        intro lit67 w9 h9
        refine WL.app (ys := ([(m : Int)] : List Int)) 1 h9 rfl rfl rfl rfl Try.underlying28 Try.underlying28 (.inr ⟨_, rfl⟩) inf3 rfl hro (Src.lit h9 0 rfl rfl rfl) rfl rfl (by first | omega | (simp []; done) | (simp []; omega)) (by first | omega | (simp []; done) | (simp []; omega)) ?_
        intro r10 v10 w11 hr10 h11
        simp only [List.set_cons_zero, List.set_cons_succ] at h11
        replace h11 := h11.drop 0
        simp only [List.eraseIdx_cons_zero, List.eraseIdx_cons_succ] at h11
        refine WL.v (Runs.assign rfl) rfl ?_
        refine WL.nil ?_
        refine WN.blk ?_
        obtain ⟨g0, g1, g2⟩ := ordF_some hc (nextM_some (i := m) (by omega) hat hno)
        exact WN.again (⟨n - 1, out ++ [(m : Int)], r10, v10⟩ : Nat × List Int × Res × Value) (by show n - 1 < n; omega) ⟨rfl, rfl, rfl, trivial⟩ ⟨hm.trans g1, g2, by show (out ++ [_]).length + (n - 1) = _; rw [List.length_append]; show out.length + 1 + (n - 1) = _; omega, hr10, h11⟩
      · skip
        refine WC.reg ?_
        refine WL.v (Runs.move rfl) rfl ?_
        refine WL.v (Runs.move rfl) rfl ?_
        refine WL.v (Runs.llen Try.underlying22 rfl rfl) rfl ?_
        refine WL.v (Runs.boolT (c := false) (Runs.lss rfl rfl) (by rw [decide_eq_false_iff_not]; omega)) rfl ?_
        refine WL.v (Runs.move rfl) rfl ?_
        refine WL.goff rfl rfl rfl rfl ?_
        refine WL.goff rfl rfl rfl rfl ?_
        refine WL.v (Runs.pick rfl rfl rfl) rfl ?_
        refine WL.nil ?_
        refine WN.thn ?_
        refine WC.condF rfl (rfl) ?_
        refine WC.exit ?_
        refine WX.thn ?_
        refine WX.cut ?_
        refine WX.hit ?_
        refine WN.thn ?_
        refine WC.seq ?_
        refine WC.seq ?_
        refine WC.reg ?_
        refine WL.v (Runs.move rfl) rfl ?_
        refine WL.v (Runs.boolT (c := false) (Runs.lss rfl rfl) (by rw [decide_eq_false_iff_not]; omega)) rfl ?_
        refine WL.nil ?_
        refine WN.thn ?_
        refine WC.condF rfl (rfl) ?_
        refine WC.skip ?_
        refine WN.thn ?_
        refine WC.seq ?_
        refine WC.reg ?_
        refine WL.v (Runs.move rfl) rfl ?_
        refine WL.v (Runs.move rfl) rfl ?_
        refine WL.v (Runs.valT (u := .pointer (some ⟨yb, m, none⟩)) (Runs.lidxN Try.underlying52 inf4 rfl rfl (n := m) rfl (by omega)) (by rw [add_mk, Nat.zero_add])) rfl ?_
        refine WL.storeRow hL 1 (f := Value.bool) (xs := dnL l.length out) (u := true) (zs := []) rfl rfl rfl inf4 rfl (Free.zero _) (by rw [dnL_len]; omega) ?_
        intro  w12 h12
        try simp only [List.set_cons_zero, List.set_cons_succ, List.eraseIdx_cons_zero, List.eraseIdx_cons_succ] at h12
        rw [dn_set (by omega)] at h12
        refine WL.nil ?_
        refine WN.thn ?_
        refine WC.reg ?_
        refine WL.v (Runs.move rfl) rfl ?_
        refine WL.v (Runs.move rfl) rfl ?_
        refine WL.lit (vs := (([(m : Int)] : List Int)).map Vi) h12 rfl Try.underlying28 inf3 rfl rfl rfl rfl rfl ?_
        intro lit67 w13 h13
        refine WL.app (ys := ([(m : Int)] : List Int)) 1 h13 rfl rfl rfl rfl Try.underlying28 Try.underlying28 (.inr ⟨_, rfl⟩) inf3 rfl hro (Src.lit h13 0 rfl rfl rfl) rfl rfl (by first | omega | (simp []; done) | (simp []; omega)) (by first | omega | (simp []; done) | (simp []; omega)) ?_
        intro r14 v14 w15 hr14 h15
        simp only [List.set_cons_zero, List.set_cons_succ] at h15
        replace h15 := h15.drop 0
        simp only [List.eraseIdx_cons_zero, List.eraseIdx_cons_succ] at h15
        refine WL.v (Runs.assign rfl) rfl ?_
        refine WL.nil ?_
        refine WN.blk ?_
        obtain ⟨g0, g1, g2⟩ := ordF_some hc (nextM_some (i := m) (by omega) hat hno)
        exact WN.again (⟨n - 1, out ++ [(m : Int)], r14, v14⟩ : Nat × List Int × Res × Value) (by show n - 1 < n; omega) ⟨rfl, rfl, rfl, trivial⟩ ⟨hm.trans g1, g2, by show (out ++ [_]).length + (n - 1) = _; rw [List.length_append]; show out.length + 1 + (n - 1) = _; omega, hr14, h15⟩
  · try simp only [decide_eq_true_eq, decide_eq_false_iff_not, Bool.not_eq_true', Bool.not_eq_false', Bool.and_eq_true, Int.not_lt, Int.not_le] at c3
    first
    | (exfalso; omega)
    | skip
      refine WC.exit ?_
      refine WX.thn ?_
      refine WX.cut ?_
      refine WX.hit ?_
      refine WN.thn ?_
      refine WC.seq ?_
      refine WC.reg ?_
      refine WL.v (Runs.move rfl) rfl ?_
      refine WL.v (Runs.assign rfl) rfl ?_
      refine WL.nil ?_
      refine WN.thn ?_
      refine WC.ret ?_
      have e2 : ordM l = out := by rw [hm, show n = 0 by omega]; rfl
      exact ret1 rfl rfl (by rw [e2]; exact Row.gives hro (hL.drop 1))
end Dg
end Go.Proofs.Ytkfkdenikkadhaa
