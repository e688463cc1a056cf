/- Walks of package dag: an order of steps. -/
import Derived.Scope
import Derived.Test.YtkfkdenikkadhaaD3
namespace Go.Proofs.Ytkfkdenikkadhaa
open Go Go.RowKit B
set_option linter.unusedVariables false
set_option linter.unusedSimpArgs false
namespace Dg

theorem inf38 : Inf Try.prog 38 (.agg #[.int .i64 0, .int .i64 0, .int .i64 0, .int .i64 0, .slice none 0 0]) 5 56 := by unfold Inf; kernel_rfl
theorem den_goto {P : Program} {Z : Post} {l : Nat} {a : Act} {w : World} : ∀ (ks : List Fr), den P Z ks (.goto l) a w → Z (.goto l) a w
  | [], h => h
  | .thn _ :: ks, h => den_goto ks h
  | .blk _ :: ks, h => den_goto ks h
  | .cut _ :: ks, h => den_goto ks h
theorem WC.scope {P : Program} {Z : Post} {ks : List Fr} {N : Nat} {D : List Deferred} {sl : Sl} {w : World} {c : Code} (hz : ∀ l a w, Z (.goto l) a w → False) (h : WC P Z ks N D sl c w) : WC P Z ks N D sl (.scope c) w := fun a ha => by
  refine wp_scope_straight (wp_mono (h a ha) ?_)
  intro e a' w' hq
  cases e with
  | goto l => exact hz _ _ _ (den_goto ks hq)
  | normal => exact hq
  | exit id => exact hq
  | ret => exact hq
  | panic ch => exact hq
  | outgrown => exact hq
theorem stepAt {F : Snap} {n : Nat} {A : Option Addr} {xs : List S} (hR : RdS KS F A xs) (hn : n < xs.length) : ∃ ad A' cap', A = some ad ∧ RdS KE F A' (xs.getD n S0).af ∧ ∀ j v, ((xs.getD n S0).cs A' cap')[j]? = some v → cellF F (ad.add (n * 5 + j)) = some v := by
  obtain ⟨ad, c, hA, ⟨A', cap', hc, hE⟩, hr⟩ := hR.at_ (i := n) (x := xs.getD n S0) (by rw [List.getD_eq_getElem?_getD, List.getElem?_eq_getElem hn]; rfl)
  subst hc
  exact ⟨ad, A', cap', hA, hE, hr⟩
def fewE (l : List S) : Prop := ∀ i, i < l.length → (l.getD i S0).af.length ≤ 100000
set_option maxRecDepth 100000 in
set_option maxHeartbeats 4000000 in
theorem order_c {W : World} {F : Snap} {cs : List Res} (w : World) {A : Option Addr} {cap : Nat} {l : List S} (h : St W F cs w) (hR : RdS KS F A l) (hl : l.length ≤ 100000) (hf : fewE l) : Calls Try.prog 25 #[.slice A l.length cap] w fun r w' => Gives W F cs Vi (ordM l) r w'  := by
  refine enter (P := Try.prog) (args := [.slice A l.length cap]) Try.func25 rfl rfl rfl ?_
  refine WC.seq ?_
  refine WC.reg ?_
  refine WL.v (Runs.assign rfl) rfl ?_
  refine WL.nil ?_
  refine WN.thn ?_
  refine WC.scope (fun _ _ _ h_ => h_) ?_
  refine WC.seq ?_
  refine WC.reg ?_
  refine WL.v (Runs.assign rfl) rfl ?_
  refine WL.nil ?_
  refine WN.thn ?_
  refine WC.seq ?_
  refine WC.label ?_
  refine WN.thn ?_
  refine WC.seq ?_
  refine WC.block ?_
  refine WC.loop (σ := Nat × List Int × Res × Value) (fun q_ => [(0, .slice A l.length cap), (3, q_.2.2.2)]) (fun q_ w => ordM l = ordF l q_.1 q_.2.1 ∧ cnt q_.2.1 l.length = q_.1 ∧ q_.2.1.length + q_.1 = l.length ∧ Row 3 Vi q_.2.2.1 q_.2.2.2 q_.2.1 ∧ St W F (q_.2.2.1 :: cs) w) (fun q_ => q_.1) (⟨l.length, [], [], .slice none 0 0⟩) (by repeat (first | exact trivial | refine ⟨rfl, ?_⟩)) (⟨rfl, cnt_nil _, Nat.zero_add _, Row.nil _ _, h.nilRes⟩) ?_
  rintro ⟨n, out, r, v⟩ w1 ⟨hm, hc, hlen, hro, hL⟩
  try dsimp only at hm hc hlen hro hL
  refine WC.sub (s := [(0, .slice A l.length cap), (3, v)]) (by repeat (first | exact trivial | refine ⟨rfl, ?_⟩)) ?_
  obtain ⟨B, capr, rfl, hcap⟩ := hro.val
  refine WC.block ?_
  refine WC.scope (fun _ _ _ h_ => h_) ?_
  refine WC.seq ?_
  refine WC.label ?_
  refine WN.thn ?_
  refine WC.seq ?_
  refine WC.seq ?_
  refine WC.reg ?_
  refine WL.v (Runs.move rfl) rfl ?_
  refine WL.v (Runs.llen Try.underlying22 rfl rfl) rfl ?_
  refine WL.v (Runs.move rfl) rfl ?_
  refine WL.nil ?_
  refine WN.thn ?_
  refine WC.block ?_
  refine WC.loop (σ := Nat) (fun q_ => [(0, .slice A l.length cap), (3, .slice B out.length capr), (8, .slice A l.length cap), (9, .int .i64 (l.length : Int)), (10, .int .i64 (q_ : Int))]) (fun q_ w => q_ ≤ l.length ∧ (∀ j, j < q_ → ¬ okAt l out j) ∧ St W F (r :: cs) w) (fun q_ => l.length - q_) (0) (by repeat (first | exact trivial | refine ⟨rfl, ?_⟩)) (⟨Nat.zero_le _, fun j hj => absurd hj (Nat.not_lt_zero _), hL⟩) ?_
  rintro i w2 ⟨hi, hno, hL⟩
  try dsimp only at hi hno hL
  refine WC.sub (s := [(0, .slice A l.length cap), (3, .slice B out.length capr), (8, .slice A l.length cap), (9, .int .i64 (l.length : Int)), (10, .int .i64 (i : Int))]) (by repeat (first | exact trivial | refine ⟨rfl, ?_⟩)) ?_
  refine WC.seq ?_
  refine WC.reg ?_
  refine WL.v (Runs.lss rfl rfl) rfl ?_
  refine WL.nil ?_
  refine WN.thn ?_
  refine WC.seq ?_
  refine WC.cond rfl (fun c3 => ?_) (fun c3 => ?_)
  · try simp only [decide_eq_true_eq, decide_eq_false_iff_not, Bool.not_eq_true', Bool.not_eq_false', Bool.and_eq_true, Int.not_lt, Int.not_le] at c3
    first
    | (exfalso; omega)
    | skip
      refine WC.skip ?_
      refine WN.thn ?_
      refine WC.seq ?_
      refine WC.block ?_
      refine WC.seq ?_
      have hi2 : i < l.length := by omega
      obtain ⟨ad, A1, cap1, rfl, hE, hcell⟩ := stepAt hR hi2
      have hf2 := hf i hi2
      refine WC.reg ?_
      refine WL.v (Runs.move rfl) rfl ?_
      refine WL.v (Runs.lidxK Try.underlying22 inf38 rfl rfl (n := i) rfl (by omega)) rfl ?_
      refine WL.v (Runs.stepA (s := (l.getD i S0)) hL hcell Try.underlying38 rfl inf38 rfl) rfl ?_
      refine WL.alloc' rfl hL inf38 ?_
      intro b5 w4 h4
      refine WL.v (Runs.assign rfl) rfl ?_
      refine WL.storeAll h4 0 rfl rfl rfl inf38 rfl rfl rfl (Free.zero _) ?_
      intro  w5 h5
      try simp only [List.set_cons_zero, List.set_cons_succ, List.eraseIdx_cons_zero, List.eraseIdx_cons_succ] at h5
      refine WL.nil ?_
      refine WN.thn ?_
      refine WC.seq ?_
      refine WC.seq ?_
      refine WC.reg ?_
      refine WL.v (Runs.move rfl) rfl ?_
      refine WL.v (Runs.move rfl) rfl ?_
      refine WL.call can36 rfl rfl (contains_c _ (i : Int) h5 (RdW.row hro (i := 1) rfl rfl h5) (by omega)) ?_
      rintro _ w6 ⟨rfl, h6⟩
      refine ⟨_, rfl, ?_⟩
      refine WL.nil ?_
      refine WN.thn ?_
      refine WC.cond rfl (fun c7 => ?_) (fun c7 => ?_)
      · try simp only [decide_eq_true_eq, decide_eq_false_iff_not, Bool.not_eq_true', Bool.not_eq_false', Bool.and_eq_true, Int.not_lt, Int.not_le] at c7
        first
        | (exfalso; omega)
        | skip
          refine WC.exit ?_
          refine WX.thn ?_
          refine WX.hit ?_
          refine WN.thn ?_
          refine WC.reg ?_
          refine WL.v (Runs.addn rfl rfl (by omega)) rfl ?_
          refine WL.v (Runs.move rfl) rfl ?_
          refine WL.nil ?_
          exact WN.again (i + 1) (by omega) ⟨rfl, rfl, rfl, rfl, rfl, trivial⟩ ⟨by omega, fun j hj => (by
            by_cases e : j = i
            · subst e; exact fun hh => hh.1 c7
            · exact hno j (by omega)), (h6.drop 0)⟩
      · try simp only [decide_eq_true_eq, decide_eq_false_iff_not, Bool.not_eq_true', Bool.not_eq_false', Bool.and_eq_true, Int.not_lt, Int.not_le] at c7
        first
        | (exfalso; omega)
        | skip
          refine WC.skip ?_
          refine WN.thn ?_
          refine WC.seq ?_
          refine WC.seq ?_
          refine WC.reg ?_
          refine WL.v (Runs.fld fld38_4 rfl) rfl ?_
          refine WL.v (Runs.load1 Try.underlying36 rfl rfl (h6.ocell (i := 0) rfl rfl)) rfl ?_
          refine WL.v (Runs.intT (n := ((l.getD i S0).af.length : Int)) (Runs.llen Try.underlying36 rfl rfl) rfl) rfl ?_
          refine WL.v (Runs.move rfl) rfl ?_
          refine WL.nil ?_
          refine WN.thn ?_
          refine WC.block ?_
          refine WC.loop (σ := Nat) (fun q_ => [(0, .slice (some ad) l.length cap), (3, .slice B out.length capr), (4, .int .i64 (i : Int)), (8, .slice (some ad) l.length cap), (9, .int .i64 (l.length : Int)), (10, .int .i64 (i : Int)), (19, .slice A1 (l.getD i S0).af.length cap1), (20, .int .i64 ((l.getD i S0).af.length : Int)), (21, .int .i64 (q_ : Int))]) (fun q_ w => q_ ≤ (l.getD i S0).af.length ∧ (∀ j, j < q_ → ((l.getD i S0).af.getD j E0).st ∈ out) ∧ St W F ([(b5, .cells #[Vi (l.getD i S0).rk, Vi (l.getD i S0).per, Vi (l.getD i S0).ds, Vi (l.getD i S0).lim, .slice A1 (l.getD i S0).af.length cap1] 38 (0, 0))] :: r :: cs) w) (fun q_ => (l.getD i S0).af.length - q_) (0) (by repeat (first | exact trivial | refine ⟨rfl, ?_⟩)) (⟨Nat.zero_le _, fun j hj => absurd hj (Nat.not_lt_zero _), h6⟩) ?_
          rintro k w8 ⟨hk, hin, hL⟩
          try dsimp only at hk hin hL
          refine WC.sub (s := [(0, .slice (some ad) l.length cap), (3, .slice B out.length capr), (4, .int .i64 (i : Int)), (8, .slice (some ad) l.length cap), (9, .int .i64 (l.length : Int)), (10, .int .i64 (i : Int)), (19, .slice A1 (l.getD i S0).af.length cap1), (20, .int .i64 ((l.getD i S0).af.length : Int)), (21, .int .i64 (k : Int))]) (by repeat (first | exact trivial | refine ⟨rfl, ?_⟩)) ?_
          refine WC.seq ?_
          refine WC.reg ?_
          refine WL.v (Runs.lss rfl rfl) rfl ?_
          refine WL.nil ?_
          refine WN.thn ?_
          refine WC.seq ?_
          refine WC.cond rfl (fun c9 => ?_) (fun c9 => ?_)
          · try simp only [decide_eq_true_eq, decide_eq_false_iff_not, Bool.not_eq_true', Bool.not_eq_false', Bool.and_eq_true, Int.not_lt, Int.not_le] at c9
            first
            | (exfalso; omega)
            | skip
              refine WC.skip ?_
              refine WN.thn ?_
              refine WC.seq ?_
              refine WC.block ?_
              refine WC.seq ?_
              have hk2 : k < (l.getD i S0).af.length := by omega
              obtain ⟨ae, rfl⟩ := rdA hE (by omega)
              refine WC.reg ?_
              refine WL.v (Runs.lidxK Try.underlying36 inf40 rfl rfl (n := k) rfl (by omega)) rfl ?_
              refine WL.v (Runs.edgeA hL hE rfl (by omega) Try.underlying40 rfl inf40 rfl) rfl ?_
              refine WL.alloc' rfl hL inf40 ?_
              intro b7 w10 h10
              refine WL.storeAll h10 0 rfl rfl rfl inf40 rfl rfl rfl (Free.zero _) ?_
              intro  w11 h11
              try simp only [List.set_cons_zero, List.set_cons_succ, List.eraseIdx_cons_zero, List.eraseIdx_cons_succ] at h11
              refine WL.nil ?_
              refine WN.thn ?_
              refine WC.seq ?_
              refine WC.reg ?_
              refine WL.v (Runs.move rfl) rfl ?_
              refine WL.v (Runs.fld fld40_0 rfl) rfl ?_
              refine WL.v (Runs.load1 Try.underlying3 rfl rfl (h11.ocell (i := 0) rfl rfl)) rfl ?_
              refine WL.call can36 rfl rfl (contains_c _ ((l.getD i S0).af.getD k E0).st h11 (RdW.row hro (i := 2) rfl rfl h11) (by omega)) ?_
              rintro _ w12 ⟨rfl, h12⟩
              refine ⟨_, rfl, ?_⟩
              refine WL.v (Runs.not rfl) rfl ?_
              refine WL.nil ?_
              refine WN.thn ?_
              refine WC.cond rfl (fun c13 => ?_) (fun c13 => ?_)
              · try simp only [decide_eq_true_eq, decide_eq_false_iff_not, Bool.not_eq_true', Bool.not_eq_false', Bool.and_eq_true, Int.not_lt, Int.not_le] at c13
                first
                | (exfalso; omega)
                | skip
                  refine WC.exit ?_
                  refine WX.miss rfl ?_
                  refine WX.thn ?_
                  refine WX.cut ?_
                  refine WX.miss rfl ?_
                  refine WX.thn ?_
                  refine WX.hit ?_
                  refine WN.thn ?_
                  refine WC.reg ?_
                  refine WL.v (Runs.addn rfl rfl (by omega)) rfl ?_
                  refine WL.v (Runs.move rfl) rfl ?_
                  refine WL.nil ?_
                  exact WN.again (i + 1) (by omega) ⟨rfl, rfl, rfl, rfl, rfl, trivial⟩ ⟨by omega, fun j hj => (by
                    by_cases e : j = i
                    · subst e; exact fun hh => c13 (hh.2 k hk2)
                    · exact hno j (by omega)), ((h12.drop 0).drop 0)⟩
              · try simp only [decide_eq_true_eq, decide_eq_false_iff_not, Bool.not_eq_true', Bool.not_eq_false', Bool.and_eq_true, Int.not_lt, Int.not_le] at c13
                first
                | (exfalso; omega)
                | skip
                  refine WC.skip ?_
                  refine WN.blk ?_
                  refine WN.thn ?_
                  refine WC.reg ?_
                  refine WL.v (Runs.addn rfl rfl (by omega)) rfl ?_
                  refine WL.v (Runs.move rfl) rfl ?_
                  refine WL.nil ?_
                  exact WN.again (k + 1) (by omega) ⟨rfl, rfl, rfl, rfl, rfl, rfl, rfl, rfl, rfl, trivial⟩ ⟨by omega, fun j hj => (by
                    by_cases e : j = k
                    · subst e; exact c13
                    · exact hin j (by omega)), h12.drop 0⟩
          · try simp only [decide_eq_true_eq, decide_eq_false_iff_not, Bool.not_eq_true', Bool.not_eq_false', Bool.and_eq_true, Int.not_lt, Int.not_le] at c9
            first
            | (exfalso; omega)
            | skip
              refine WC.exit ?_
              refine WX.thn ?_
              refine WX.cut ?_
              refine WX.hit ?_
              refine WN.thn ?_
              refine WC.seq ?_
              refine WC.reg ?_
              refine WL.v (Runs.move rfl) rfl ?_
              refine WL.v (Runs.move rfl) rfl ?_
              refine WL.lit (vs := (([(i : Int)] : List Int)).map Vi) hL rfl Try.underlying28 inf3 rfl rfl rfl rfl rfl ?_
              intro lit33 w14 h14
              refine WL.app (ys := ([(i : Int)] : List Int)) 2 h14 rfl rfl rfl rfl Try.underlying28 Try.underlying28 (.inr ⟨_, rfl⟩) inf3 rfl hro (Src.lit h14 0 rfl rfl rfl) rfl rfl (by first | omega | (simp []; done) | (simp []; omega)) (by first | omega | (simp []; done) | (simp []; omega)) ?_
              intro r15 v15 w16 hr15 h16
              simp only [List.set_cons_zero, List.set_cons_succ] at h16
              replace h16 := h16.drop 0
              simp only [List.eraseIdx_cons_zero, List.eraseIdx_cons_succ] at h16
              refine WL.v (Runs.assign rfl) rfl ?_
              refine WL.nil ?_
              refine WN.thn ?_
              refine WC.exit ?_
              refine WX.miss rfl ?_
              refine WX.thn ?_
              refine WX.cut ?_
              refine WX.miss rfl ?_
              refine WX.thn ?_
              refine WX.hit ?_
              obtain ⟨g0, g1, g2⟩ := ordF_some hc (nextM_some hi2 ⟨c7, fun j hj => hin j (by omega)⟩ hno)
              exact WN.again (⟨n - 1, out ++ [(i : Int)], r15, v15⟩ : Nat × List Int × Res × Value) (by show n - 1 < n; omega) ⟨rfl, rfl, trivial⟩ ⟨hm.trans g1, g2, by show (out ++ [_]).length + (n - 1) = _; rw [List.length_append]; show out.length + 1 + (n - 1) = _; omega, hr15, (h16.drop 0)⟩
  · try simp only [decide_eq_true_eq, decide_eq_false_iff_not, Bool.not_eq_true', Bool.not_eq_false', Bool.and_eq_true, Int.not_lt, Int.not_le] at c3
    first
    | (exfalso; omega)
    | skip
      refine WC.exit ?_
      refine WX.thn ?_
      refine WX.cut ?_
      refine WX.hit ?_
      refine WN.thn ?_
      refine WC.exit ?_
      refine WX.miss rfl ?_
      refine WX.cut ?_
      refine WX.hit ?_
      refine WN.thn ?_
      refine WC.seq ?_
      refine WC.reg ?_
      refine WL.v (Runs.move rfl) rfl ?_
      refine WL.v (Runs.assign rfl) rfl ?_
      refine WL.nil ?_
      refine WN.thn ?_
      refine WC.ret ?_
      have e1 := nextM_none (l := l) (out := out) (fun j hj => hno j (by omega))
      have e2 : ordM l = out := hm.trans (ordF_none e1)
      exact ret1 rfl rfl (by rw [e2]; exact Row.gives hro hL)
end Dg
end Go.Proofs.Ytkfkdenikkadhaa
