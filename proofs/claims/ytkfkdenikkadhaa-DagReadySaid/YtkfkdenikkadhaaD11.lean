/- Walks of package dag: who is ready. -/
import Derived.Test.YtkfkdenikkadhaaD10
namespace Go.Proofs.Ytkfkdenikkadhaa
open Go Go.RowKit B
set_option linter.unusedVariables false
set_option linter.unusedSimpArgs false
namespace Dg

theorem can28 : B.Can Try.prog 28 := ⟨_, Try.func28, by kernel_rfl, rfl⟩   -- roundhouse/dag.with
theorem can29 : B.Can Try.prog 29 := ⟨_, Try.func29, by kernel_rfl, rfl⟩   -- roundhouse/dag.holds
def rdyAt (l : List S) (codes : List Int) (i : Nat) : Prop := codes.getD i 0 = -1 ∧ ∀ k, k < (l.getD i S0).af.length → holdsM ((l.getD i S0).af.getD k E0) codes = true
instance (l : List S) (codes : List Int) (i : Nat) : Decidable (rdyAt l codes i) := inferInstanceAs (Decidable (_ ∧ _))
def rdyL (l : List S) (codes : List Int) : Nat → List Int
  | 0 => []
  | n + 1 => if rdyAt l codes n then rdyL l codes n ++ [(n : Int)] else rdyL l codes n
theorem rdyL_len (l : List S) (codes : List Int) : ∀ n, (rdyL l codes n).length ≤ n
  | 0 => Nat.le_refl _
  | n + 1 => by
    have := rdyL_len l codes n
    rw [rdyL]
    split
    · rw [List.length_append]; show _ + 1 ≤ _; omega
    · omega
theorem rdyL_y {l : List S} {codes : List Int} {n : Nat} (h : rdyAt l codes n) : rdyL l codes (n + 1) = rdyL l codes n ++ [(n : Int)] := by rw [rdyL, if_pos h]
theorem rdyL_n {l : List S} {codes : List Int} {n : Nat} (h : ¬ rdyAt l codes n) : rdyL l codes (n + 1) = rdyL l codes n := by rw [rdyL, if_neg h]
def readyM (l : List S) (codes : List Int) : List Int := if withM l codes = 0 then rdyL l codes l.length else []
/-- a fresh row, and what is wrong -/
def Gives2 (W : World) (F : Snap) (cs : List Res) (xs : List Int) (e : Int) (r : Ending) (w : World) : Prop :=
  ∃ G A cap, Le F G ∧ r = .returned (.tuple #[.slice A xs.length cap, Vi e]) ∧ xs.length ≤ cap ∧ RdS (Kd.one Vi) G A xs ∧ St W G cs w
theorem Row.gives2 {W w : World} {F : Snap} {cs : List Res} {T : TypeId} {r : Res} {v : Value} {xs : List Int} (e : Int) (hr : Row T Vi r v xs) (h : St W F (r :: cs) w) : Gives2 W F cs xs e (.returned (.tuple #[v, Vi e])) w := by
  obtain ⟨G, A, cap, h1, h2, h3, h4, h5⟩ := Row.gives hr h
  injection h2 with h2
  subst h2
  exact ⟨G, A, cap, h1, rfl, h3, h4, h5⟩
theorem with_ok {l : List S} {codes : List Int} (h : withM l codes = 0) : chkM l = 0 ∧ codes.length = l.length ∧ ∀ c ∈ codes, -1 ≤ c ∧ c ≤ 256 := by
  unfold withM at h
  split at h
  · rename_i h1; exact absurd h h1
  · rename_i h1
    have h1 : chkM l = 0 := Classical.byContradiction fun hh => h1 hh
    split at h
    · cases h
    · rename_i h2
      refine ⟨h1, Classical.byContradiction fun hh => h2 (.inl hh), fun c hc => ?_⟩
      have h3 : ¬ (codes.any fun c => !inB c (-1) 256) = true := fun hh => h2 (.inr hh)
      rw [List.any_eq_true] at h3
      have h4 : inB c (-1) 256 = true := by
        cases hb : inB c (-1) 256 with
        | true => rfl
        | false => exact absurd ⟨c, hc, by rw [hb]; rfl⟩ h3
      exact of_decide_eq_true h4
set_option maxRecDepth 100000 in
set_option maxHeartbeats 8000000 in
theorem ready_c {W : World} {F : Snap} {cs : List Res} (w : World) {A : Option Addr} {cap : Nat} {l : List S} {A2 : Option Addr} {cap2 : Nat} {codes : List Int} (h : St W F cs w) (hR : RdS KS F A l) (hl : l.length ≤ 100000) (hf : fewE l) (hRc : RdS (Kd.one Vi) F A2 codes) (hc : codes.length ≤ 100000) : Calls Try.prog 16 #[.slice A l.length cap, .slice A2 codes.length cap2] w fun r w' => Gives2 W F cs (readyM l codes) (withM l codes) r w'  := by
  refine enter (P := Try.prog) (args := [.slice A l.length cap, .slice A2 codes.length cap2]) Try.func16 rfl rfl rfl ?_
  refine WC.seq ?_
  refine WC.reg ?_
  refine WL.v (Runs.assign rfl) rfl ?_
  refine WL.v (Runs.assign rfl) rfl ?_
  refine WL.nil ?_
  refine WN.thn ?_
  refine WC.scope (fun _ _ _ h_ => h_) ?_
  refine WC.seq ?_
  refine WC.seq ?_
  refine WC.reg ?_
  refine WL.v (Runs.move rfl) rfl ?_
  refine WL.v (Runs.move rfl) rfl ?_
  refine WL.call can28 rfl rfl (with_c _ h hR hl hf hRc hc) ?_
  rintro _ w1 ⟨rfl, h1⟩
  refine ⟨_, rfl, ?_⟩
  refine WL.v (Runs.assign rfl) rfl ?_
  refine WL.nil ?_
  refine WN.thn ?_
  refine WC.seq ?_
  refine WC.reg ?_
  refine WL.v (Runs.move rfl) rfl ?_
  refine WL.v (Runs.neq rfl rfl) rfl ?_
  refine WL.nil ?_
  refine WN.thn ?_
  refine WC.cond rfl (fun c2 => ?_) (fun c2 => ?_)
  · try simp only [decide_eq_true_eq, decide_eq_false_iff_not, Bool.not_eq_true', Bool.not_eq_false', Bool.and_eq_true, Int.not_lt, Int.not_le] at c2
    first
    | (exfalso; omega)
    | skip
      refine WC.seq ?_
      refine WC.reg ?_
      refine WL.v (Runs.move rfl) rfl ?_
      refine WL.v (Runs.assign rfl) rfl ?_
      refine WL.v (Runs.assign rfl) rfl ?_
      refine WL.nil ?_
      refine WN.thn ?_
      refine WC.ret ?_
      exact ret2 rfl rfl rfl (by unfold readyM; rw [if_neg (by simpa using c2)]; exact Row.gives2 _ (Row.nil 3 Vi) h1.nilRes)
  · try simp only [decide_eq_true_eq, decide_eq_false_iff_not, Bool.not_eq_true', Bool.not_eq_false', Bool.and_eq_true, Int.not_lt, Int.not_le] at c2
    first
    | (exfalso; omega)
    | skip
      refine WC.skip ?_
      refine WN.thn ?_
      refine WC.seq ?_
      have hw0 : withM l codes = 0 := by simpa using c2
      have hw := with_ok hw0
      have hall := (chk_ok hw.1).1
      refine WC.reg ?_
      refine WL.v (Runs.assign rfl) rfl ?_
      refine WL.nil ?_
      refine WN.thn ?_
      refine WC.seq ?_
      refine WC.label ?_
      refine WN.thn ?_
      refine WC.seq ?_
      refine WC.seq ?_
      refine WC.reg ?_
      refine WL.v (Runs.move rfl) rfl ?_
      refine WL.v (Runs.llen Try.underlying22 rfl rfl) rfl ?_
      refine WL.v (Runs.move rfl) rfl ?_
      refine WL.nil ?_
      refine WN.thn ?_
      refine WC.block ?_
      refine WC.loop (σ := Nat × Res × Value) (fun q_ => [(1, .slice A2 codes.length cap2), (7, q_.2.2), (18, .slice A l.length cap), (19, .int .i64 (l.length : Int)), (20, .int .i64 (q_.1 : Int))]) (fun q_ w => q_.1 ≤ l.length ∧ Row 3 Vi q_.2.1 q_.2.2 (rdyL l codes q_.1) ∧ St W F (q_.2.1 :: cs) w) (fun q_ => l.length - q_.1) (⟨0, [], .slice none 0 0⟩) (by repeat (first | exact trivial | refine ⟨rfl, ?_⟩)) (⟨Nat.zero_le _, Row.nil _ _, h1.nilRes⟩) ?_
      rintro ⟨i, r, v⟩ w3 ⟨hi, hro, hL⟩
      try dsimp only at hi hro hL
      refine WC.sub (s := [(1, .slice A2 codes.length cap2), (7, v), (18, .slice A l.length cap), (19, .int .i64 (l.length : Int)), (20, .int .i64 (i : Int))]) (by repeat (first | exact trivial | refine ⟨rfl, ?_⟩)) ?_
      obtain ⟨B, capr, rfl, hcap⟩ := hro.val
      have hln := rdyL_len l codes i
      refine WC.seq ?_
      refine WC.reg ?_
      refine WL.v (Runs.lss rfl rfl) rfl ?_
      refine WL.nil ?_
      refine WN.thn ?_
      refine WC.seq ?_
      refine WC.cond rfl (fun c4 => ?_) (fun c4 => ?_)
      · try simp only [decide_eq_true_eq, decide_eq_false_iff_not, Bool.not_eq_true', Bool.not_eq_false', Bool.and_eq_true, Int.not_lt, Int.not_le] at c4
        first
        | (exfalso; omega)
        | skip
          refine WC.skip ?_
          refine WN.thn ?_
          refine WC.seq ?_
          refine WC.block ?_
          refine WC.seq ?_
          have hi2 : i < l.length := by omega
          obtain ⟨ad, A1, cap1, rfl, hE, hcell⟩ := stepAt hR hi2
          have hf2 := hf i hi2
          obtain ⟨ac, rfl, hrc⟩ := rd1 hRc (by omega)
          refine WC.reg ?_
          refine WL.v (Runs.move rfl) rfl ?_
          refine WL.v (Runs.lidxK Try.underlying22 inf38 rfl rfl (n := i) rfl (by omega)) rfl ?_
          refine WL.v (Runs.stepA (s := (l.getD i S0)) hL hcell Try.underlying38 rfl inf38 rfl) rfl ?_
          refine WL.alloc' rfl hL inf38 ?_
          intro b9 w5 h5
          refine WL.v (Runs.assign rfl) rfl ?_
          refine WL.storeAll h5 0 rfl rfl rfl inf38 rfl rfl rfl (Free.zero _) ?_
          intro  w6 h6
          try simp only [List.set_cons_zero, List.set_cons_succ, List.eraseIdx_cons_zero, List.eraseIdx_cons_succ] at h6
          refine WL.nil ?_
          refine WN.thn ?_
          refine WC.seq ?_
          refine WC.seq ?_
          refine WC.reg ?_
          refine WL.v (Runs.move rfl) rfl ?_
          refine WL.v (Runs.move rfl) rfl ?_
          refine WL.v (Runs.lidxN Try.underlying28 inf3 rfl rfl (n := i) rfl (by omega)) rfl ?_
          refine WL.v (Runs.loadR (f := Vi) (0 : Int) h6 hrc (n := i) (by omega) Try.underlying3 rfl rfl) rfl ?_
          refine WL.v (Runs.neq rfl rfl) rfl ?_
          refine WL.nil ?_
          refine WN.thn ?_
          refine WC.cond rfl (fun c7 => ?_) (fun c7 => ?_)
          · try simp only [decide_eq_true_eq, decide_eq_false_iff_not, Bool.not_eq_true', Bool.not_eq_false', Bool.and_eq_true, Int.not_lt, Int.not_le] at c7
            first
            | (exfalso; omega)
            | skip
              refine WC.exit ?_
              refine WX.thn ?_
              refine WX.hit ?_
              refine WN.thn ?_
              refine WC.reg ?_
              refine WL.v (Runs.addn rfl rfl (by omega)) rfl ?_
              refine WL.v (Runs.move rfl) rfl ?_
              refine WL.nil ?_
              exact WN.again (⟨i + 1, r, _⟩ : Nat × Res × Value) (by show l.length - (i + 1) < l.length - i; omega) ⟨rfl, rfl, rfl, rfl, rfl, trivial⟩ ⟨by show i + 1 ≤ _; omega, (by
                show Row 3 Vi r (.slice B (rdyL l codes i).length capr) (rdyL l codes (i + 1))
                rw [rdyL_n (fun hh => absurd hh.1 (by simpa using c7))]
                exact hro), (h6.drop 0)⟩
          · try simp only [decide_eq_true_eq, decide_eq_false_iff_not, Bool.not_eq_true', Bool.not_eq_false', Bool.and_eq_true, Int.not_lt, Int.not_le] at c7
            first
            | (exfalso; omega)
            | skip
              refine WC.skip ?_
              refine WN.thn ?_
              refine WC.seq ?_
              refine WC.seq ?_
              refine WC.reg ?_
              refine WL.v (Runs.fld fld38_4 rfl) rfl ?_
              refine WL.v (Runs.load1 Try.underlying36 rfl rfl (h6.ocell (i := 0) rfl rfl)) rfl ?_
              refine WL.v (Runs.intT (n := ((l.getD i S0).af.length : Int)) (Runs.llen Try.underlying36 rfl rfl) rfl) rfl ?_
              refine WL.v (Runs.move rfl) rfl ?_
              refine WL.nil ?_
              refine WN.thn ?_
              refine WC.block ?_
              refine WC.loop (σ := Nat) (fun q_ => [(1, .slice (some ac) codes.length cap2), (7, .slice B (rdyL l codes i).length capr), (8, .int .i64 (i : Int)), (18, .slice (some ad) l.length cap), (19, .int .i64 (l.length : Int)), (20, .int .i64 (i : Int)), (31, .slice A1 (l.getD i S0).af.length cap1), (32, .int .i64 ((l.getD i S0).af.length : Int)), (33, .int .i64 (q_ : Int))]) (fun q_ w => q_ ≤ (l.getD i S0).af.length ∧ (∀ j, j < q_ → holdsM ((l.getD i S0).af.getD j E0) codes = true) ∧ St W F ([(b9, .cells #[Vi (l.getD i S0).rk, Vi (l.getD i S0).per, Vi (l.getD i S0).ds, Vi (l.getD i S0).lim, .slice A1 (l.getD i S0).af.length cap1] 38 (0, 0))] :: r :: cs) w) (fun q_ => (l.getD i S0).af.length - q_) (0) (by repeat (first | exact trivial | refine ⟨rfl, ?_⟩)) (⟨Nat.zero_le _, fun j hj => absurd hj (Nat.not_lt_zero _), h6⟩) ?_
              rintro k w8 ⟨hk, hin, hL⟩
              try dsimp only at hk hin hL
              refine WC.sub (s := [(1, .slice (some ac) codes.length cap2), (7, .slice B (rdyL l codes i).length capr), (8, .int .i64 (i : Int)), (18, .slice (some ad) l.length cap), (19, .int .i64 (l.length : Int)), (20, .int .i64 (i : Int)), (31, .slice A1 (l.getD i S0).af.length cap1), (32, .int .i64 ((l.getD i S0).af.length : Int)), (33, .int .i64 (k : Int))]) (by repeat (first | exact trivial | refine ⟨rfl, ?_⟩)) ?_
              refine WC.seq ?_
              refine WC.reg ?_
              refine WL.v (Runs.lss rfl rfl) rfl ?_
              refine WL.nil ?_
              refine WN.thn ?_
              refine WC.seq ?_
              refine WC.cond rfl (fun c9 => ?_) (fun c9 => ?_)
              · try simp only [decide_eq_true_eq, decide_eq_false_iff_not, Bool.not_eq_true', Bool.not_eq_false', Bool.and_eq_true, Int.not_lt, Int.not_le] at c9
                first
                | (exfalso; omega)
                | skip
                  refine WC.skip ?_
                  refine WN.thn ?_
                  refine WC.seq ?_
                  refine WC.block ?_
                  refine WC.seq ?_
                  have hk2 : k < (l.getD i S0).af.length := by omega
                  obtain ⟨ae, rfl⟩ := rdA hE (by omega)
                  refine WC.reg ?_
                  refine WL.v (Runs.lidxK Try.underlying36 inf40 rfl rfl (n := k) rfl (by omega)) rfl ?_
                  refine WL.v (Runs.edgeA hL hE rfl (by omega) Try.underlying40 rfl inf40 rfl) rfl ?_
                  refine WL.alloc' rfl hL inf40 ?_
                  intro b11 w10 h10
                  refine WL.storeAll h10 0 rfl rfl rfl inf40 rfl rfl rfl (Free.zero _) ?_
                  intro  w11 h11
                  try simp only [List.set_cons_zero, List.set_cons_succ, List.eraseIdx_cons_zero, List.eraseIdx_cons_succ] at h11
                  refine WL.nil ?_
                  refine WN.thn ?_
                  refine WC.seq ?_
                  refine WC.reg ?_
                  refine WL.v (Runs.loadAll h11 0 rfl Try.underlying40 rfl inf40 rfl rfl) rfl ?_
                  refine WL.v (Runs.move rfl) rfl ?_
                  refine WL.call can29 rfl rfl (holds_c _ ((l.getD i S0).af.getD k E0) h11 (RdW.of hRc) (by have := edge_in hall hi2 hk2; omega)) ?_
                  rintro _ w12 ⟨rfl, h12⟩
                  refine ⟨_, rfl, ?_⟩
                  refine WL.v (Runs.not rfl) rfl ?_
                  refine WL.nil ?_
                  refine WN.thn ?_
                  refine WC.cond rfl (fun c13 => ?_) (fun c13 => ?_)
                  · try simp only [decide_eq_true_eq, decide_eq_false_iff_not, Bool.not_eq_true', Bool.not_eq_false', Bool.and_eq_true, Int.not_lt, Int.not_le] at c13
                    first
                    | (exfalso; omega)
                    | skip
                      refine WC.exit ?_
                      refine WX.miss rfl ?_
                      refine WX.thn ?_
                      refine WX.cut ?_
                      refine WX.miss rfl ?_
                      refine WX.thn ?_
                      refine WX.hit ?_
                      refine WN.thn ?_
                      refine WC.reg ?_
                      refine WL.v (Runs.addn rfl rfl (by omega)) rfl ?_
                      refine WL.v (Runs.move rfl) rfl ?_
                      refine WL.nil ?_
                      exact WN.again (⟨i + 1, r, _⟩ : Nat × Res × Value) (by show l.length - (i + 1) < l.length - i; omega) ⟨rfl, rfl, rfl, rfl, rfl, trivial⟩ ⟨by show i + 1 ≤ _; omega, (by
                        show Row 3 Vi r (.slice B (rdyL l codes i).length capr) (rdyL l codes (i + 1))
                        rw [rdyL_n (fun hh => absurd (hh.2 k hk2) (by simpa using c13))]
                        exact hro), ((h12.drop 0).drop 0)⟩
                  · try simp only [decide_eq_true_eq, decide_eq_false_iff_not, Bool.not_eq_true', Bool.not_eq_false', Bool.and_eq_true, Int.not_lt, Int.not_le] at c13
                    first
                    | (exfalso; omega)
                    | skip
                      refine WC.skip ?_
                      refine WN.blk ?_
                      refine WN.thn ?_
                      refine WC.reg ?_
                      refine WL.v (Runs.addn rfl rfl (by omega)) rfl ?_
                      refine WL.v (Runs.move rfl) rfl ?_
                      refine WL.nil ?_
                      exact WN.again (k + 1) (by omega) ⟨rfl, rfl, rfl, rfl, rfl, rfl, rfl, rfl, rfl, trivial⟩ ⟨by omega, fun j hj => (by
                        by_cases e : j = k
                        · subst e; simpa using c13
                        · exact hin j (by omega)), h12.drop 0⟩
              · try simp only [decide_eq_true_eq, decide_eq_false_iff_not, Bool.not_eq_true', Bool.not_eq_false', Bool.and_eq_true, Int.not_lt, Int.not_le] at c9
                first
                | (exfalso; omega)
                | skip
                  refine WC.exit ?_
                  refine WX.thn ?_
                  refine WX.cut ?_
                  refine WX.hit ?_
                  refine WN.thn ?_
                  refine WC.reg ?_
                  refine WL.v (Runs.move rfl) rfl ?_
                  refine WL.v (Runs.move rfl) rfl ?_
                  refine WL.lit (vs := (([(i : Int)] : List Int)).map Vi) hL rfl Try.underlying28 inf3 rfl rfl rfl rfl rfl ?_
                  intro lit44 w14 h14
                  refine WL.app (ys := ([(i : Int)] : List Int)) 2 h14 rfl rfl rfl rfl Try.underlying28 Try.underlying28 (.inr ⟨_, rfl⟩) inf3 rfl hro (Src.lit h14 0 rfl rfl rfl) rfl rfl (by first | omega | (simp []; done) | (simp []; omega)) (by first | omega | (simp []; done) | (simp []; omega)) ?_
                  intro r15 v15 w16 hr15 h16
                  simp only [List.set_cons_zero, List.set_cons_succ] at h16
                  replace h16 := h16.drop 0
                  simp only [List.eraseIdx_cons_zero, List.eraseIdx_cons_succ] at h16
                  refine WL.v (Runs.assign rfl) rfl ?_
                  refine WL.nil ?_
                  refine WN.blk ?_
                  refine WN.thn ?_
                  refine WC.reg ?_
                  refine WL.v (Runs.addn rfl rfl (by omega)) rfl ?_
                  refine WL.v (Runs.move rfl) rfl ?_
                  refine WL.nil ?_
                  exact WN.again (⟨i + 1, r15, v15⟩ : Nat × Res × Value) (by show l.length - (i + 1) < l.length - i; omega) ⟨rfl, rfl, rfl, rfl, rfl, trivial⟩ ⟨by show i + 1 ≤ _; omega, (by
                    show Row 3 Vi r15 v15 (rdyL l codes (i + 1))
                    rw [rdyL_y ⟨by simpa using c7, fun j hj => hin j (by omega)⟩]
                    exact hr15), (h16.drop 0)⟩
      · try simp only [decide_eq_true_eq, decide_eq_false_iff_not, Bool.not_eq_true', Bool.not_eq_false', Bool.and_eq_true, Int.not_lt, Int.not_le] at c4
        first
        | (exfalso; omega)
        | skip
          refine WC.exit ?_
          refine WX.thn ?_
          refine WX.cut ?_
          refine WX.hit ?_
          refine WN.thn ?_
          refine WC.seq ?_
          refine WC.reg ?_
          refine WL.v (Runs.move rfl) rfl ?_
          refine WL.v (Runs.assign rfl) rfl ?_
          refine WL.v (Runs.assign rfl) rfl ?_
          refine WL.nil ?_
          refine WN.thn ?_
          refine WC.ret ?_
          obtain rfl : i = l.length := by omega
          exact ret2 rfl rfl rfl (by unfold readyM; rw [if_pos hw0, hw0]; exact Row.gives2 _ hro hL)
end Dg
end Go.Proofs.Ytkfkdenikkadhaa
