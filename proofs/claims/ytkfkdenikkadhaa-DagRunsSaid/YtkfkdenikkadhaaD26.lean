/- Walks of package dag: the law DagRuns. -/
import Derived.Test.YtkfkdenikkadhaaD25
namespace Go.Proofs.Ytkfkdenikkadhaa
open Go Go.RowKit B
set_option linter.unusedVariables false
set_option linter.unusedSimpArgs false
namespace Dg


theorem first3 (P0 P1 P2 : Prop) : (P0) ∨ (¬ P0 ∧ P1) ∨ (¬ P0 ∧ ¬ P1 ∧ P2) ∨ (¬ P0 ∧ ¬ P1 ∧ ¬ P2) := by
  by_cases h0 : P0
  · exact .inl h0
  · by_cases h1 : P1
    · exact .inr (.inl ⟨h0, h1⟩)
    · by_cases h2 : P2
      · exact .inr (.inr (.inl ⟨h0, h1, h2⟩))
      · exact .inr (.inr (.inr (⟨h0, h1, h2⟩)))
theorem Runs.neqb {P : Program} {sl : Sl} {w : World} {t T T' : TypeId} {x y : Operand} {b c : Bool} (hu : P.underlying T = some .bool) (hx : evs sl x = some (.bool b)) (hy : evs sl y = some (.bool c)) : Runs P sl (.binOp .neq T x y T') t w (.bool (!(b == c))) := fun ρ h o ho _ => by
  have := run_neq_bool (P := P) w T b c hu
  simp only [execOp, ho, h _ _ hx, h _ _ hy, eqGuard]
  simp [this]
theorem cntO_le : ∀ {c d : List Int}, c.length = d.length → (∀ j, d.getD j 0 = -1 → c.getD j 0 = -1) → cntO d ≤ cntO c
  | [], [], _, _ => Nat.le_refl _
  | x :: c, y :: d, h, hj => by
    have h1 := cntO_le (c := c) (d := d) (by simpa using h) (fun j => hj (j + 1))
    have h2 : y = -1 → x = -1 := hj 0
    rw [cntO, cntO]
    by_cases h3 : y = -1
    · rw [if_pos h3, if_pos (h2 h3)]; omega
    · rw [if_neg h3]; omega
theorem settle_cnt {l : List S} {c : List Int} (h : withM l c = 0) : cntO (settleM l c) ≤ cntO c := by
  have h1 := (settle_spec h).1
  exact cntO_le h1.1 fun j hj => by
    have := h1.2 j
    omega
/-- where some are Open, and none is doomed, some are ready -/
theorem some_ready {l : List S} {s : List Int} (hc : chkM l = 0) (hs : s.length = l.length) (hx : fixC l s) (hn : ∀ i, i < l.length → ¬ rdyAt l s i) : ∀ i, i < l.length → s.getD i 0 ≠ -1 := by
  have hk := chk_ok hc
  have H : ∀ n (ys : List Int) (zs : List Int), ordM l = ys ++ zs → ys.length = n → ∀ y ∈ ys, s.getD y.toNat 0 ≠ -1 := by
    intro n
    induction n with
    | zero => intro ys zs _ h0 y hy; rw [List.eq_nil_of_length_eq_zero h0] at hy; cases hy
    | succ n ih =>
      intro ys zs e hl y hy
      obtain ⟨ys', x, rfl⟩ : ∃ ys' x, ys = ys' ++ [x] := by
        rcases List.eq_nil_or_concat ys with rfl | ⟨a, b, rfl⟩
        · cases hl
        · exact ⟨a, b, List.concat_eq_append⟩
      have e2 : ordM l = ys' ++ x :: zs := by rw [e, List.append_assoc]; rfl
      have h1 := ih ys' (x :: zs) e2 (by simpa using hl)
      rcases List.mem_append.1 hy with hy | hy
      · exact h1 y hy
      · rw [List.mem_singleton] at hy
        subst hy
        intro h2
        have hin := ordM_in (l := l) y (by rw [e2]; exact List.mem_append_right _ List.mem_cons_self)
        have hg := (ordM_good l ys' y zs e2).2
        have hyl : y.toNat < l.length := by omega
        refine hn _ hyl ⟨h2, fun k hk2 => ?_⟩
        have h3 := h1 _ (hg k hk2)
        cases hh : holdsM ((l.getD y.toNat S0).af.getD k E0) s with
        | true => rfl
        | false =>
          refine absurd ⟨h2, any_t (d := E0) hk2 ?_⟩ (hx _ hyl)
          unfold failM
          rw [decide_eq_false h3, hh]; rfl
  intro i hi
  exact H _ (ordM l) [] (by simp) rfl i (ordM_all hk.2.2 hi)
theorem over_ready {l : List S} {c : List Int} (h : withM l c = 0) : (overM l c).2 = decide (readyM l (settleM l c) = []) := by
  have hw := with_ok h
  have hsl : (settleM l c).length = l.length := (settle_len l c h).trans hw.2.1
  by_cases h1 : (-1 : Int) ∈ settleM l c
  · rw [over_n (.inr h1), decide_eq_false]
    intro h2
    obtain ⟨i, hi, e⟩ := List.getElem_of_mem h1
    refine some_ready hw.1 hsl (settle_spec h).2 (fun j hj h3 => ?_) i (by omega) (by rw [List.getD_eq_getElem?_getD, List.getElem?_eq_getElem hi]; exact e)
    have h4 : (j : Int) ∈ readyM l (settleM l c) := by
      unfold readyM
      rw [if_pos (settle_with h)]
      exact mem_rdyL.2 ⟨j, hj, rfl, h3⟩
    rw [h2] at h4
    cases h4
  · rw [over_y h h1, decide_eq_true]
    apply List.eq_nil_iff_forall_not_mem.2
    intro x hx
    unfold readyM at hx
    rw [if_pos (settle_with h)] at hx
    obtain ⟨i, hi, _, h3⟩ := mem_rdyL.1 hx
    refine h1 ?_
    rw [← h3.1]
    exact mem_getD (by omega)
theorem ready_at {l : List S} {s : List Int} {x : Int} (h : withM l s = 0) (hx : x ∈ readyM l s) : (0 ≤ x ∧ x < l.length) ∧ rdyAt l s x.toNat := by
  unfold readyM at hx
  rw [if_pos h] at hx
  obtain ⟨i, hi, rfl, h3⟩ := mem_rdyL.1 hx
  exact ⟨by omega, h3⟩
theorem held {e : E} {c : List Int} (h : holdsM e c = true) : c.getD e.st.toNat 0 ≠ -1 := fun h2 => by
  rw [holds_open h2] at h; cases h
theorem cntO_rep : ∀ n, cntO (List.replicate n (-1)) = n
  | 0 => rfl
  | n + 1 => by rw [List.replicate_succ, cntO, cntO_rep n]; simp; omega
theorem with_rep {l : List S} (h : chkM l = 0) : withM l (List.replicate l.length (-1)) = 0 := with_of h (by simp) fun c hc => by
  rw [List.eq_of_mem_replicate hc]; omega
theorem cntO_set2 : ∀ {c : List Int} {m : Nat} {q : Int}, c.getD m 0 = -1 → q ≠ -1 → cntO (c.set m q) + 1 = cntO c
  | [], m, q, h, _ => by cases m <;> cases h
  | x :: xs, 0, q, h, hq => by
    have h : x = -1 := h
    rw [List.set_cons_zero, cntO, cntO, if_pos h, if_neg hq]
    omega
  | x :: xs, m + 1, q, h, hq => by
    have := cntO_set2 (c := xs) (m := m) h hq
    rw [List.set_cons_succ, cntO, cntO]
    omega
set_option maxRecDepth 100000 in
set_option maxHeartbeats 8000000 in
theorem runs_law {W : World} {F : Snap} {cs : List Res} (w : World) {A : Option Addr} {cap : Nat} {l : List S} {A2 : Option Addr} {cap2 : Nat} {ends : List Int} (h : St W F cs w) (hR : RdS KS F A l) (hl : l.length ≤ 9223372036854775807) (hRe : RdS (Kd.one Vi) F A2 ends) (hel : ends.length ≤ 9223372036854775807) : Calls Try.prog 6 #[.slice A l.length cap, .slice A2 ends.length cap2] w fun r w' => r = .returned (.bool true) ∧ St W F cs w'  := by
  refine enter (P := Try.prog) (args := [.slice A l.length cap, .slice A2 ends.length cap2]) Try.func6 rfl rfl rfl ?_
  refine WC.seq ?_
  refine WC.reg ?_
  refine WL.v (Runs.assign rfl) rfl ?_
  refine WL.nil ?_
  refine WN.thn ?_
  refine WC.seq ?_
  refine WC.seq ?_
  rcases first3 (¬ smallL l) (ends.length < l.length) (chkM l ≠ 0) with q0 | ⟨q0, q1⟩ | ⟨q0, q1, q2⟩ | ⟨q0, q1, q2⟩
  · skip
    refine WC.reg ?_
    refine WL.v (Runs.move rfl) rfl ?_
    refine WL.call can9 rfl rfl (small_c _ h hR hl) ?_
    rintro _ w1 ⟨rfl, h1⟩
    refine ⟨_, rfl, ?_⟩
    refine WL.v (Runs.boolT (c := true) (Runs.not rfl) (by rw [decide_eq_false q0]; rfl)) rfl ?_
    refine WL.v (Runs.move rfl) rfl ?_
    refine WL.goff rfl rfl rfl rfl ?_
    refine WL.goff rfl rfl rfl rfl ?_
    refine WL.goff rfl rfl rfl rfl ?_
    refine WL.goff rfl rfl rfl rfl ?_
    refine WL.goff rfl rfl rfl rfl ?_
    refine WL.v (Runs.pick rfl rfl rfl) rfl ?_
    refine WL.v (Runs.move rfl) rfl ?_
    refine WL.goff rfl rfl rfl rfl ?_
    refine WL.goff rfl rfl rfl rfl ?_
    refine WL.goff rfl rfl rfl rfl ?_
    refine WL.v (Runs.pick rfl rfl rfl) rfl ?_
    refine WL.nil ?_
    refine WN.thn ?_
    refine WC.condT rfl (rfl) ?_
    refine WC.seq ?_
    refine WC.reg ?_
    refine WL.call can10 rfl rfl (live_c _ h1) ?_
    rintro _ w2 ⟨rfl, h2⟩
    refine ⟨_, rfl, ?_⟩
    refine WL.v (Runs.assign rfl) rfl ?_
    refine WL.nil ?_
    refine WN.thn ?_
    refine WC.ret ?_
    exact ret1 rfl rfl ⟨rfl, h2⟩
  · skip
    refine WC.reg ?_
    refine WL.v (Runs.move rfl) rfl ?_
    refine WL.call can9 rfl rfl (small_c _ h hR hl) ?_
    rintro _ w3 ⟨rfl, h3⟩
    refine ⟨_, rfl, ?_⟩
    refine WL.v (Runs.boolT (c := false) (Runs.not rfl) (by rw [decide_eq_true (Decidable.of_not_not q0)]; rfl)) rfl ?_
    refine WL.v (Runs.move rfl) rfl ?_
    refine WL.gon rfl rfl rfl ?_
    refine WL.v (Runs.move rfl) rfl ?_
    refine WL.gon rfl rfl rfl ?_
    refine WL.v (Runs.intT (n := (ends.length : Int)) (Runs.llen Try.underlying28 rfl rfl) rfl) rfl ?_
    refine WL.gon rfl rfl rfl ?_
    refine WL.v (Runs.move rfl) rfl ?_
    refine WL.gon rfl rfl rfl ?_
    refine WL.v (Runs.intT (n := (l.length : Int)) (Runs.llen Try.underlying22 rfl rfl) rfl) rfl ?_
    refine WL.gon rfl rfl rfl ?_
    refine WL.v (Runs.boolT (c := true) (Runs.lss rfl rfl) (by rw [decide_eq_true_eq]; omega)) rfl ?_
    refine WL.v (Runs.pick rfl rfl rfl) rfl ?_
    refine WL.v (Runs.move rfl) rfl ?_
    refine WL.goff rfl rfl rfl rfl ?_
    refine WL.goff rfl rfl rfl rfl ?_
    refine WL.goff rfl rfl rfl rfl ?_
    refine WL.v (Runs.pick rfl rfl rfl) rfl ?_
    refine WL.nil ?_
    refine WN.thn ?_
    refine WC.condT rfl (rfl) ?_
    refine WC.seq ?_
    refine WC.reg ?_
    refine WL.call can10 rfl rfl (live_c _ h3) ?_
    rintro _ w4 ⟨rfl, h4⟩
    refine ⟨_, rfl, ?_⟩
    refine WL.v (Runs.assign rfl) rfl ?_
    refine WL.nil ?_
    refine WN.thn ?_
    refine WC.ret ?_
    exact ret1 rfl rfl ⟨rfl, h4⟩
  · skip
    refine WC.reg ?_
    refine WL.v (Runs.move rfl) rfl ?_
    refine WL.call can9 rfl rfl (small_c _ h hR hl) ?_
    rintro _ w5 ⟨rfl, h5⟩
    refine ⟨_, rfl, ?_⟩
    refine WL.v (Runs.boolT (c := false) (Runs.not rfl) (by rw [decide_eq_true (Decidable.of_not_not q0)]; rfl)) rfl ?_
    refine WL.v (Runs.move rfl) rfl ?_
    refine WL.gon rfl rfl rfl ?_
    refine WL.v (Runs.move rfl) rfl ?_
    refine WL.gon rfl rfl rfl ?_
    refine WL.v (Runs.intT (n := (ends.length : Int)) (Runs.llen Try.underlying28 rfl rfl) rfl) rfl ?_
    refine WL.gon rfl rfl rfl ?_
    refine WL.v (Runs.move rfl) rfl ?_
    refine WL.gon rfl rfl rfl ?_
    refine WL.v (Runs.intT (n := (l.length : Int)) (Runs.llen Try.underlying22 rfl rfl) rfl) rfl ?_
    refine WL.gon rfl rfl rfl ?_
    refine WL.v (Runs.boolT (c := false) (Runs.lss rfl rfl) (by rw [decide_eq_false_iff_not]; omega)) rfl ?_
    refine WL.v (Runs.pick rfl rfl rfl) rfl ?_
    refine WL.v (Runs.move rfl) rfl ?_
    refine WL.gon rfl rfl rfl ?_
    refine WL.v (Runs.move rfl) rfl ?_
    refine WL.gon rfl rfl rfl ?_
    refine WL.call can11 rfl rfl (check_c _ h5 hR (Decidable.of_not_not q0).few.2 (Decidable.of_not_not q0).few.1) ?_
    rintro _ w6 ⟨rfl, h6⟩
    refine ⟨_, rfl, ?_⟩
    refine WL.gon rfl rfl rfl ?_
    refine WL.v (Runs.boolT (c := true) (Runs.neq rfl rfl) (by rw [decide_eq_false q2]; rfl)) rfl ?_
    refine WL.v (Runs.pick rfl rfl rfl) rfl ?_
    refine WL.nil ?_
    refine WN.thn ?_
    refine WC.condT rfl (rfl) ?_
    refine WC.seq ?_
    refine WC.reg ?_
    refine WL.call can10 rfl rfl (live_c _ h6) ?_
    rintro _ w7 ⟨rfl, h7⟩
    refine ⟨_, rfl, ?_⟩
    refine WL.v (Runs.assign rfl) rfl ?_
    refine WL.nil ?_
    refine WN.thn ?_
    refine WC.ret ?_
    exact ret1 rfl rfl ⟨rfl, h7⟩
  · skip
    refine WC.reg ?_
    refine WL.v (Runs.move rfl) rfl ?_
    refine WL.call can9 rfl rfl (small_c _ h hR hl) ?_
    rintro _ w8 ⟨rfl, h8⟩
    refine ⟨_, rfl, ?_⟩
    refine WL.v (Runs.boolT (c := false) (Runs.not rfl) (by rw [decide_eq_true (Decidable.of_not_not q0)]; rfl)) rfl ?_
    refine WL.v (Runs.move rfl) rfl ?_
    refine WL.gon rfl rfl rfl ?_
    refine WL.v (Runs.move rfl) rfl ?_
    refine WL.gon rfl rfl rfl ?_
    refine WL.v (Runs.intT (n := (ends.length : Int)) (Runs.llen Try.underlying28 rfl rfl) rfl) rfl ?_
    refine WL.gon rfl rfl rfl ?_
    refine WL.v (Runs.move rfl) rfl ?_
    refine WL.gon rfl rfl rfl ?_
    refine WL.v (Runs.intT (n := (l.length : Int)) (Runs.llen Try.underlying22 rfl rfl) rfl) rfl ?_
    refine WL.gon rfl rfl rfl ?_
    refine WL.v (Runs.boolT (c := false) (Runs.lss rfl rfl) (by rw [decide_eq_false_iff_not]; omega)) rfl ?_
    refine WL.v (Runs.pick rfl rfl rfl) rfl ?_
    refine WL.v (Runs.move rfl) rfl ?_
    refine WL.gon rfl rfl rfl ?_
    refine WL.v (Runs.move rfl) rfl ?_
    refine WL.gon rfl rfl rfl ?_
    refine WL.call can11 rfl rfl (check_c _ h8 hR (Decidable.of_not_not q0).few.2 (Decidable.of_not_not q0).few.1) ?_
    rintro _ w9 ⟨rfl, h9⟩
    refine ⟨_, rfl, ?_⟩
    refine WL.gon rfl rfl rfl ?_
    refine WL.v (Runs.boolT (c := false) (Runs.neq rfl rfl) (by rw [decide_eq_true (Decidable.of_not_not q2)]; rfl)) rfl ?_
    refine WL.v (Runs.pick rfl rfl rfl) rfl ?_
    refine WL.nil ?_
    refine WN.thn ?_
    refine WC.condF rfl (rfl) ?_
    refine WC.skip ?_
    refine WN.thn ?_
    refine WC.seq ?_
    have hle : Le F F := Le.refl F
    have hck : chkM l = 0 := Decidable.of_not_not q2
    obtain ⟨hf, hl2⟩ := (Decidable.of_not_not q0).few
    refine WC.reg ?_
    refine WL.v (Runs.assign rfl) rfl ?_
    refine WL.nil ?_
    refine WN.thn ?_
    refine WC.seq ?_
    refine WC.seq ?_
    refine WC.reg ?_
    refine WL.v (Runs.assign rfl) rfl ?_
    refine WL.nil ?_
    refine WN.thn ?_
    refine WC.block ?_
    refine WC.loop (σ := Nat × Res × Value) (fun q_ => [(0, .slice A l.length cap), (1, .slice A2 ends.length cap2), (5, q_.2.2), (6, .int .i64 (q_.1 : Int))]) (fun q_ w => q_.1 ≤ l.length ∧ (∀ j, j < q_.1 → 0 ≤ ends.getD j 0 ∧ ends.getD j 0 ≤ 255) ∧ Row 3 Vi q_.2.1 q_.2.2 (List.replicate q_.1 (-1 : Int)) ∧ St W F (q_.2.1 :: cs) w) (fun q_ => l.length - q_.1) (⟨0, [], .slice none 0 0⟩) (by repeat (first | exact trivial | refine ⟨rfl, ?_⟩)) (⟨Nat.zero_le _, fun j hj => absurd hj (Nat.not_lt_zero _), Row.nil _ _, h9.nilRes⟩) ?_
    rintro ⟨i, r, v⟩ w10 ⟨hi, hends, hro, hL⟩
    try dsimp only at hi hends hro hL
    refine WC.sub (s := [(0, .slice A l.length cap), (1, .slice A2 ends.length cap2), (5, v), (6, .int .i64 (i : Int))]) (by repeat (first | exact trivial | refine ⟨rfl, ?_⟩)) ?_
    refine WC.seq ?_
    refine WC.seq ?_
    refine WC.reg ?_
    refine WL.v (Runs.move rfl) rfl ?_
    refine WL.v (Runs.move rfl) rfl ?_
    refine WL.v (Runs.intT (n := (l.length : Int)) (Runs.llen Try.underlying22 rfl rfl) rfl) rfl ?_
    refine WL.v (Runs.lss rfl rfl) rfl ?_
    refine WL.nil ?_
    refine WN.thn ?_
    refine WC.cond rfl (fun c11 => ?_) (fun c11 => ?_)
    · try simp only [decide_eq_true_eq, decide_eq_false_iff_not, Bool.not_eq_true', Bool.not_eq_false', Bool.and_eq_true, Int.not_lt, Int.not_le] at c11
      first
      | (exfalso; omega)
      | skip
        refine WC.skip ?_
        refine WN.thn ?_
        refine WC.seq ?_
        refine WC.block ?_
        refine WC.seq ?_
        refine WC.seq ?_
        obtain ⟨ae2, rfl, hre⟩ := rd1 hRe (by omega)
        have hcase : (ends.getD i 0) < 0 ∨ (0 ≤ (ends.getD i 0) ∧ 255 < (ends.getD i 0)) ∨ (0 ≤ (ends.getD i 0) ∧ (ends.getD i 0) ≤ 255) := by omega
        rcases hcase with hx | hx | hx
        · skip
          refine WC.reg ?_
          refine WL.v (Runs.move rfl) rfl ?_
          refine WL.v (Runs.move rfl) rfl ?_
          refine WL.v (Runs.lidxN Try.underlying28 inf3 rfl rfl (n := i) rfl (by omega)) rfl ?_
          refine WL.v (Runs.loadR (f := Vi) (0 : Int) hL hre (n := i) (by omega) Try.underlying3 rfl rfl) rfl ?_
          refine WL.v (Runs.boolT (c := true) (Runs.lss rfl rfl) (by rw [decide_eq_true_eq]; omega)) rfl ?_
          refine WL.v (Runs.move rfl) rfl ?_
          refine WL.goff rfl rfl rfl rfl ?_
          refine WL.goff rfl rfl rfl rfl ?_
          refine WL.goff rfl rfl rfl rfl ?_
          refine WL.goff rfl rfl rfl rfl ?_
          refine WL.goff rfl rfl rfl rfl ?_
          refine WL.v (Runs.pick rfl rfl rfl) rfl ?_
          refine WL.nil ?_
          refine WN.thn ?_
          refine WC.condT rfl (rfl) ?_
          refine WC.seq ?_
          refine WC.reg ?_
          refine WL.call can10 rfl rfl (live_c _ hL) ?_
          rintro _ w12 ⟨rfl, h12⟩
          refine ⟨_, rfl, ?_⟩
          refine WL.v (Runs.assign rfl) rfl ?_
          refine WL.nil ?_
          refine WN.thn ?_
          refine WC.ret ?_
          exact ret1 rfl rfl ⟨rfl, h12.drop 0⟩
        · skip
          refine WC.reg ?_
          refine WL.v (Runs.move rfl) rfl ?_
          refine WL.v (Runs.move rfl) rfl ?_
          refine WL.v (Runs.lidxN Try.underlying28 inf3 rfl rfl (n := i) rfl (by omega)) rfl ?_
          refine WL.v (Runs.loadR (f := Vi) (0 : Int) hL hre (n := i) (by omega) Try.underlying3 rfl rfl) rfl ?_
          refine WL.v (Runs.boolT (c := false) (Runs.lss rfl rfl) (by rw [decide_eq_false_iff_not]; omega)) rfl ?_
          refine WL.v (Runs.move rfl) rfl ?_
          refine WL.gon rfl rfl rfl ?_
          refine WL.v (Runs.move rfl) rfl ?_
          refine WL.gon rfl rfl rfl ?_
          refine WL.v (Runs.move rfl) rfl ?_
          refine WL.gon rfl rfl rfl ?_
          refine WL.v (Runs.lidxN Try.underlying28 inf3 rfl rfl (n := i) rfl (by omega)) rfl ?_
          refine WL.gon rfl rfl rfl ?_
          refine WL.v (Runs.loadR (f := Vi) (0 : Int) hL hre (n := i) (by omega) Try.underlying3 rfl rfl) rfl ?_
          refine WL.gon rfl rfl rfl ?_
          refine WL.v (Runs.boolT (c := true) (Runs.gtr rfl rfl) (by rw [decide_eq_true_eq]; omega)) rfl ?_
          refine WL.v (Runs.pick rfl rfl rfl) rfl ?_
          refine WL.nil ?_
          refine WN.thn ?_
          refine WC.condT rfl (rfl) ?_
          refine WC.seq ?_
          refine WC.reg ?_
          refine WL.call can10 rfl rfl (live_c _ hL) ?_
          rintro _ w13 ⟨rfl, h13⟩
          refine ⟨_, rfl, ?_⟩
          refine WL.v (Runs.assign rfl) rfl ?_
          refine WL.nil ?_
          refine WN.thn ?_
          refine WC.ret ?_
          exact ret1 rfl rfl ⟨rfl, h13.drop 0⟩
        · skip
          refine WC.reg ?_
          refine WL.v (Runs.move rfl) rfl ?_
          refine WL.v (Runs.move rfl) rfl ?_
          refine WL.v (Runs.lidxN Try.underlying28 inf3 rfl rfl (n := i) rfl (by omega)) rfl ?_
          refine WL.v (Runs.loadR (f := Vi) (0 : Int) hL hre (n := i) (by omega) Try.underlying3 rfl rfl) rfl ?_
          refine WL.v (Runs.boolT (c := false) (Runs.lss rfl rfl) (by rw [decide_eq_false_iff_not]; omega)) rfl ?_
          refine WL.v (Runs.move rfl) rfl ?_
          refine WL.gon rfl rfl rfl ?_
          refine WL.v (Runs.move rfl) rfl ?_
          refine WL.gon rfl rfl rfl ?_
          refine WL.v (Runs.move rfl) rfl ?_
          refine WL.gon rfl rfl rfl ?_
          refine WL.v (Runs.lidxN Try.underlying28 inf3 rfl rfl (n := i) rfl (by omega)) rfl ?_
          refine WL.gon rfl rfl rfl ?_
          refine WL.v (Runs.loadR (f := Vi) (0 : Int) hL hre (n := i) (by omega) Try.underlying3 rfl rfl) rfl ?_
          refine WL.gon rfl rfl rfl ?_
          refine WL.v (Runs.boolT (c := false) (Runs.gtr rfl rfl) (by rw [decide_eq_false_iff_not]; omega)) rfl ?_
          refine WL.v (Runs.pick rfl rfl rfl) rfl ?_
          refine WL.nil ?_
          refine WN.thn ?_
          refine WC.condF rfl (rfl) ?_
          refine WC.skip ?_
          refine WN.thn ?_
          refine WC.reg ?_
          refine WL.v (Runs.move rfl) rfl ?_
          refine WL.lit (vs := (([-1] : List Int)).map Vi) hL rfl Try.underlying28 inf3 rfl rfl rfl rfl rfl ?_
          intro lit51 w14 h14
          refine WL.app (ys := ([-1] : List Int)) 1 h14 rfl rfl rfl rfl Try.underlying28 Try.underlying28 (.inr ⟨_, rfl⟩) inf3 rfl hro (Src.lit h14 0 rfl rfl rfl) rfl rfl (by first | omega | (simp []; done) | (simp []; omega)) (by first | omega | (simp []; done) | (simp []; omega)) ?_
          intro r15 v15 w16 hr15 h16
          simp only [List.set_cons_zero, List.set_cons_succ] at h16
          replace h16 := h16.drop 0
          simp only [List.eraseIdx_cons_zero, List.eraseIdx_cons_succ] at h16
          refine WL.v (Runs.assign rfl) rfl ?_
          refine WL.nil ?_
          refine WN.blk ?_
          refine WN.thn ?_
          refine WC.reg ?_
          refine WL.v (Runs.move rfl) rfl ?_
          refine WL.v (Runs.addn rfl rfl (by omega)) rfl ?_
          refine WL.v (Runs.assign rfl) rfl ?_
          refine WL.nil ?_
          have h9_ := hr15
          rw [← List.replicate_succ'] at h9_
          exact WN.again (⟨i + 1, _, _⟩ : Nat × Res × Value) (by show l.length - (i + 1) < l.length - i; omega) ⟨rfl, rfl, rfl, rfl, trivial⟩ ⟨by show i + 1 ≤ _; omega, fun j hj => (by
            have hj : j < i + 1 := hj
            by_cases e : j = i
            · subst e; exact hx
            · exact hends j (by omega)), h9_, h16⟩
    · try simp only [decide_eq_true_eq, decide_eq_false_iff_not, Bool.not_eq_true', Bool.not_eq_false', Bool.and_eq_true, Int.not_lt, Int.not_le] at c11
      first
      | (exfalso; omega)
      | skip
        refine WC.exit ?_
        refine WX.thn ?_
        refine WX.cut ?_
        refine WX.hit ?_
        refine WN.thn ?_
        refine WC.seq ?_
        refine WC.seq ?_
        refine WC.reg ?_
        refine WL.v (Runs.assign rfl) rfl ?_
        refine WL.nil ?_
        refine WN.thn ?_
        refine WC.block ?_
        obtain rfl : i = l.length := by omega
        refine WC.loop (σ := Nat × Snap × List Int × Res × Value) (fun q_ => [(0, .slice A l.length cap), (1, .slice A2 ends.length cap2), (5, q_.2.2.2.2), (7, .int .i64 (q_.1 : Int))]) (fun q_ w => withM l q_.2.2.1 = 0 ∧ cntO q_.2.2.1 + q_.1 ≤ l.length ∧ Le F q_.2.1 ∧ Row 3 Vi q_.2.2.2.1 q_.2.2.2.2 q_.2.2.1 ∧ St W q_.2.1 (q_.2.2.2.1 :: cs) w) (fun q_ => l.length + 1 - q_.1) (⟨0, F, List.replicate l.length (-1), r, v⟩) (by repeat (first | exact trivial | refine ⟨rfl, ?_⟩)) (⟨with_rep hck, by rw [cntO_rep]; exact Nat.le_refl _, Le.refl F, hro, hL⟩) ?_
        rintro ⟨n, G, c, r, v⟩ w17 ⟨hw, hcn, hle, hro, hL⟩
        try dsimp only at hw hcn hle hro hL
        refine WC.sub (s := [(0, .slice A l.length cap), (1, .slice A2 ends.length cap2), (5, v), (7, .int .i64 (n : Int))]) (by repeat (first | exact trivial | refine ⟨rfl, ?_⟩)) ?_
        replace hR := hR.mono hle
        replace hRe := hRe.mono hle
        refine WC.seq ?_
        refine WC.seq ?_
        refine WC.reg ?_
        refine WL.v (Runs.move rfl) rfl ?_
        refine WL.v (Runs.move rfl) rfl ?_
        refine WL.v (Runs.intT (n := (l.length : Int)) (Runs.llen Try.underlying22 rfl rfl) rfl) rfl ?_
        refine WL.v (Runs.leq rfl rfl) rfl ?_
        refine WL.nil ?_
        refine WN.thn ?_
        refine WC.cond rfl (fun c18 => ?_) (fun c18 => ?_)
        · try simp only [decide_eq_true_eq, decide_eq_false_iff_not, Bool.not_eq_true', Bool.not_eq_false', Bool.and_eq_true, Int.not_lt, Int.not_le] at c18
          first
          | (exfalso; omega)
          | skip
            refine WC.skip ?_
            refine WN.thn ?_
            refine WC.seq ?_
            refine WC.block ?_
            refine WC.seq ?_
            obtain ⟨G1, hG1, gf1, hS1⟩ := hL.freeze (i := 0) rfl
            obtain ⟨B, capr, rfl, hcap⟩ := hro.val
            have rdc := Row.read hro rfl gf1
            replace hL := hS1
            simp only [List.eraseIdx_cons_zero] at hL
            have hlen := (with_ok hw).2.1
            have hlen1 := settle_len _ _ hw
            have hw2 := settle_with hw
            have hrl := readyM_len (l := l) (c := (settleM l c))
            
            replace hR := hR.mono hG1
            replace hRe := hRe.mono hG1
            replace hle := Le.trans hle hG1
            
            refine WC.reg ?_
            refine WL.v (Runs.move rfl) rfl ?_
            refine WL.v (Runs.move rfl) rfl ?_
            refine WL.call can18 rfl rfl (settle_o _ hL hR hl2 hf rdc (by omega) hw) ?_
            rintro _ w19 ⟨G2, r2, v2, hG2, rfl, hro2, h19⟩
            refine ⟨_, rfl, ?_⟩
            replace hR := hR.mono hG2
            replace hRe := hRe.mono hG2
            replace rdc := rdc.mono hG2
            replace hle := Le.trans hle hG2
            obtain ⟨B2, capr2, rfl, hcap2⟩ := hro2.val
            refine WL.v (Runs.move rfl) rfl ?_
            refine WL.v (Runs.extract rfl rfl) rfl ?_
            refine WL.v (Runs.extract rfl rfl) rfl ?_
            refine WL.v (Runs.assign rfl) rfl ?_
            refine WL.v (Runs.assign rfl) rfl ?_
            refine WL.nil ?_
            refine WN.thn ?_
            refine WC.seq ?_
            refine WC.reg ?_
            refine WL.v (Runs.move rfl) rfl ?_
            refine WL.v (Runs.move rfl) rfl ?_
            refine WL.call can16 rfl rfl ((Gives2.to rfl hw2 (readyW_c _ h19 hR hl2 hf (RdW.row hro2 (i := 0) rfl rfl h19) (by omega)))) ?_
            rintro _ w20 ⟨G3, A3, cap3, hG3, rfl, hc3, rdr, h20⟩
            refine ⟨_, rfl, ?_⟩
            replace hR := hR.mono hG3
            replace hRe := hRe.mono hG3
            replace rdc := rdc.mono hG3
            replace hle := Le.trans hle hG3
            refine WL.v (Runs.move rfl) rfl ?_
            refine WL.v (Runs.extract rfl rfl) rfl ?_
            refine WL.v (Runs.extract rfl rfl) rfl ?_
            refine WL.v (Runs.assign rfl) rfl ?_
            refine WL.v (Runs.assign rfl) rfl ?_
            refine WL.nil ?_
            refine WN.thn ?_
            refine WC.seq ?_
            have hovr := over_ready hw
            by_cases hrd0 : (readyM l (settleM l c)) = []
            · have hov : overM l c = ((overM l c).1, true) := Prod.ext rfl (by rw [hovr]; exact decide_eq_true hrd0)
              refine WC.reg ?_
              refine WL.v (Runs.move rfl) rfl ?_
              refine WL.v (Runs.move rfl) rfl ?_
              refine WL.call can20 rfl rfl ((C1.to (g := ovV) hov (over_c _ h20 hR hl2 hf rdc (by omega)))) ?_
              rintro _ w21 ⟨rfl, h21⟩
              refine ⟨_, rfl, ?_⟩
              refine WL.v (Runs.move rfl) rfl ?_
              refine WL.v (Runs.extract rfl rfl) rfl ?_
              refine WL.v (Runs.extract rfl rfl) rfl ?_
              refine WL.v (Runs.assign rfl) rfl ?_
              refine WL.v (Runs.assign rfl) rfl ?_
              refine WL.nil ?_
              refine WN.thn ?_
              refine WC.seq ?_
              refine WC.seq ?_
              refine WC.reg ?_
              refine WL.v (Runs.move rfl) rfl ?_
              refine WL.v (Runs.boolT (c := false) (Runs.neq rfl rfl) rfl) rfl ?_
              refine WL.v (Runs.move rfl) rfl ?_
              refine WL.gon rfl rfl rfl ?_
              refine WL.v (Runs.move rfl) rfl ?_
              refine WL.gon rfl rfl rfl ?_
              refine WL.v (Runs.boolT (c := false) (Runs.neq rfl rfl) rfl) rfl ?_
              refine WL.v (Runs.pick rfl rfl rfl) rfl ?_
              refine WL.v (Runs.move rfl) rfl ?_
              refine WL.gon rfl rfl rfl ?_
              refine WL.v (Runs.move rfl) rfl ?_
              refine WL.gon rfl rfl rfl ?_
              refine WL.v (Runs.move rfl) rfl ?_
              refine WL.gon rfl rfl rfl ?_
              refine WL.v (Runs.intT (n := ((readyM l (settleM l c)).length : Int)) (Runs.llen Try.underlying28 rfl rfl) rfl) rfl ?_
              refine WL.gon rfl rfl rfl ?_
              refine WL.v (Runs.boolT (c := true) (Runs.eql rfl rfl) (by rw [hrd0]; rfl)) rfl ?_
              refine WL.gon rfl rfl rfl ?_
              refine WL.v (Runs.boolT (c := false) (Runs.neqb Try.underlying4 rfl rfl) rfl) rfl ?_
              refine WL.v (Runs.pick rfl rfl rfl) rfl ?_
              refine WL.nil ?_
              refine WN.thn ?_
              refine WC.condF rfl (rfl) ?_
              refine WC.skip ?_
              refine WN.thn ?_
              refine WC.seq ?_
              refine WC.seq ?_
              refine WC.reg ?_
              refine WL.v (Runs.move rfl) rfl ?_
              refine WL.nil ?_
              refine WN.thn ?_
              refine WC.condT rfl (rfl) ?_
              refine WC.seq ?_
              refine WC.reg ?_
              refine WL.call can10 rfl rfl (live_c _ h21) ?_
              rintro _ w22 ⟨rfl, h22⟩
              refine ⟨_, rfl, ?_⟩
              refine WL.v (Runs.assign rfl) rfl ?_
              refine WL.nil ?_
              refine WN.thn ?_
              refine WC.ret ?_
              exact ret1 rfl rfl ⟨rfl, (h22.drop 0).weak hle⟩
            · have hov : overM l c = ((overM l c).1, false) := Prod.ext rfl (by rw [hovr]; exact decide_eq_false hrd0)
              have hr1 : 0 < (readyM l (settleM l c)).length := List.length_pos_iff.2 hrd0
              refine WC.reg ?_
              refine WL.v (Runs.move rfl) rfl ?_
              refine WL.v (Runs.move rfl) rfl ?_
              refine WL.call can20 rfl rfl ((C1.to (g := ovV) hov (over_c _ h20 hR hl2 hf rdc (by omega)))) ?_
              rintro _ w23 ⟨rfl, h23⟩
              refine ⟨_, rfl, ?_⟩
              refine WL.v (Runs.move rfl) rfl ?_
              refine WL.v (Runs.extract rfl rfl) rfl ?_
              refine WL.v (Runs.extract rfl rfl) rfl ?_
              refine WL.v (Runs.assign rfl) rfl ?_
              refine WL.v (Runs.assign rfl) rfl ?_
              refine WL.nil ?_
              refine WN.thn ?_
              refine WC.seq ?_
              refine WC.seq ?_
              refine WC.reg ?_
              refine WL.v (Runs.move rfl) rfl ?_
              refine WL.v (Runs.boolT (c := false) (Runs.neq rfl rfl) rfl) rfl ?_
              refine WL.v (Runs.move rfl) rfl ?_
              refine WL.gon rfl rfl rfl ?_
              refine WL.v (Runs.move rfl) rfl ?_
              refine WL.gon rfl rfl rfl ?_
              refine WL.v (Runs.boolT (c := false) (Runs.neq rfl rfl) rfl) rfl ?_
              refine WL.v (Runs.pick rfl rfl rfl) rfl ?_
              refine WL.v (Runs.move rfl) rfl ?_
              refine WL.gon rfl rfl rfl ?_
              refine WL.v (Runs.move rfl) rfl ?_
              refine WL.gon rfl rfl rfl ?_
              refine WL.v (Runs.move rfl) rfl ?_
              refine WL.gon rfl rfl rfl ?_
              refine WL.v (Runs.intT (n := ((readyM l (settleM l c)).length : Int)) (Runs.llen Try.underlying28 rfl rfl) rfl) rfl ?_
              refine WL.gon rfl rfl rfl ?_
              refine WL.v (Runs.boolT (c := false) (Runs.eql rfl rfl) (by rw [decide_eq_false_iff_not]; omega)) rfl ?_
              refine WL.gon rfl rfl rfl ?_
              refine WL.v (Runs.boolT (c := false) (Runs.neqb Try.underlying4 rfl rfl) rfl) rfl ?_
              refine WL.v (Runs.pick rfl rfl rfl) rfl ?_
              refine WL.nil ?_
              refine WN.thn ?_
              refine WC.condF rfl (rfl) ?_
              refine WC.skip ?_
              refine WN.thn ?_
              refine WC.seq ?_
              refine WC.seq ?_
              refine WC.reg ?_
              refine WL.v (Runs.move rfl) rfl ?_
              refine WL.nil ?_
              refine WN.thn ?_
              refine WC.condF rfl (rfl) ?_
              refine WC.skip ?_
              refine WN.thn ?_
              refine WC.seq ?_
              refine WC.seq ?_
              obtain ⟨bb, zs, fz, rfl, hBv, hfr⟩ := Row.blk hro2 (by omega)
              injection hBv with e1 e2 e3
              subst e1
              subst e3
              have hra := ready_at hw2 (mem_getD hr1)
              have hx2 : ((readyM l (settleM l c)).getD 0 0).toNat < l.length := by omega
              obtain ⟨ar, rfl, hrr⟩ := rd1 rdr hr1
              obtain ⟨ad, A1, cap1, rfl, hE, hcell⟩ := stepAt hR hx2
              have hf2 := hf _ hx2
              obtain ⟨ae2, rfl, hre⟩ := rd1 hRe (by omega)
              refine WC.reg ?_
              refine WL.v (Runs.assign rfl) rfl ?_
              refine WL.nil ?_
              refine WN.thn ?_
              refine WC.block ?_
              refine WC.loop (σ := Nat) (fun q_ => [(0, .slice (some ad) l.length cap), (1, .slice (some ae2) ends.length cap2), (7, .int .i64 (n : Int)), (8, .slice (some ⟨bb, 0, none⟩) (settleM l c).length ((settleM l c).length + zs.length)), (10, .slice (some ar) (readyM l (settleM l c)).length cap3), (14, .int .i64 (q_ : Int))]) (fun q_ w => q_ ≤ (l.getD ((readyM l (settleM l c)).getD 0 0).toNat S0).af.length ∧ St W G3 ([(bb, .cells ((settleM l c).map Vi ++ zs).toArray 3 fz)] :: cs) w) (fun q_ => (l.getD ((readyM l (settleM l c)).getD 0 0).toNat S0).af.length - q_) (0) (by repeat (first | exact trivial | refine ⟨rfl, ?_⟩)) (⟨Nat.zero_le _, h23⟩) ?_
              rintro k w24 ⟨hk, hL⟩
              try dsimp only at hk hL
              refine WC.sub (s := [(0, .slice (some ad) l.length cap), (1, .slice (some ae2) ends.length cap2), (7, .int .i64 (n : Int)), (8, .slice (some ⟨bb, 0, none⟩) (settleM l c).length ((settleM l c).length + zs.length)), (10, .slice (some ar) (readyM l (settleM l c)).length cap3), (14, .int .i64 (k : Int))]) (by repeat (first | exact trivial | refine ⟨rfl, ?_⟩)) ?_
              refine WC.seq ?_
              refine WC.seq ?_
              refine WC.reg ?_
              refine WL.v (Runs.move rfl) rfl ?_
              refine WL.v (Runs.move rfl) rfl ?_
              refine WL.v (Runs.move rfl) rfl ?_
              refine WL.v (Runs.lidxN Try.underlying28 inf3 rfl rfl (n := 0) rfl (by omega)) rfl ?_
              refine WL.v (Runs.loadR (f := Vi) (0 : Int) hL hrr (n := 0) (by omega) Try.underlying3 rfl rfl) rfl ?_
              refine WL.v (Runs.lidxK Try.underlying22 inf38 rfl rfl (n := ((readyM l (settleM l c)).getD 0 0).toNat) (by omega) (by omega)) rfl ?_
              refine WL.v (Runs.fld fld38_4 rfl) rfl ?_
              refine WL.v (Runs.load1 Try.underlying36 rfl rfl (by rw [add_add]; exact hL.cell (hcell 4 _ rfl))) rfl ?_
              refine WL.v (Runs.intT (n := ((l.getD ((readyM l (settleM l c)).getD 0 0).toNat S0).af.length : Int)) (Runs.llen Try.underlying36 rfl rfl) rfl) rfl ?_
              refine WL.v (Runs.lss rfl rfl) rfl ?_
              refine WL.nil ?_
              refine WN.thn ?_
              refine WC.cond rfl (fun c25 => ?_) (fun c25 => ?_)
              · try simp only [decide_eq_true_eq, decide_eq_false_iff_not, Bool.not_eq_true', Bool.not_eq_false', Bool.and_eq_true, Int.not_lt, Int.not_le] at c25
                first
                | (exfalso; omega)
                | skip
                  refine WC.skip ?_
                  refine WN.thn ?_
                  refine WC.seq ?_
                  refine WC.block ?_
                  refine WC.seq ?_
                  have hk2 : k < (l.getD ((readyM l (settleM l c)).getD 0 0).toNat S0).af.length := by omega
                  obtain ⟨ae, rfl⟩ := rdA hE (by omega)
                  have hkk2 := held (hra.2.2 k hk2)
                  have hed := edge_in (chk_ok hck).1 hx2 hk2
                  refine WC.reg ?_
                  refine WL.v (Runs.move rfl) rfl ?_
                  refine WL.v (Runs.move rfl) rfl ?_
                  refine WL.v (Runs.move rfl) rfl ?_
                  refine WL.v (Runs.lidxN Try.underlying28 inf3 rfl rfl (n := 0) rfl (by omega)) rfl ?_
                  refine WL.v (Runs.loadR (f := Vi) (0 : Int) hL hrr (n := 0) (by omega) Try.underlying3 rfl rfl) rfl ?_
                  refine WL.v (Runs.lidxK Try.underlying22 inf38 rfl rfl (n := ((readyM l (settleM l c)).getD 0 0).toNat) (by omega) (by omega)) rfl ?_
                  refine WL.v (Runs.fld fld38_4 rfl) rfl ?_
                  refine WL.v (Runs.load1 Try.underlying36 rfl rfl (by rw [add_add]; exact hL.cell (hcell 4 _ rfl))) rfl ?_
                  refine WL.v (Runs.move rfl) rfl ?_
                  refine WL.v (Runs.lidxK Try.underlying36 inf40 rfl rfl (n := k) rfl (by omega)) rfl ?_
                  refine WL.v (Runs.fld fld40_0 rfl) rfl ?_
                  refine WL.v (Runs.load1 Try.underlying3 rfl rfl (edgeCell hL hE (by omega)).1) rfl ?_
                  refine WL.v (Runs.lidxN Try.underlying28 inf3 rfl rfl (n := ((l.getD ((readyM l (settleM l c)).getD 0 0).toNat S0).af.getD k E0).st.toNat) (Int.toNat_of_nonneg hed.1).symm (by have a1 := hed.1; have a2 := hed.2; have a3 := hlen1; have a4 := hlen; omega)) rfl ?_
                  refine WL.v (Runs.loadRow (0 : Int) hL 0 rfl hro2 (n := ((l.getD ((readyM l (settleM l c)).getD 0 0).toNat S0).af.getD k E0).st.toNat) (by omega) Try.underlying3 rfl rfl) rfl ?_
                  refine WL.v (Runs.boolT (c := false) (Runs.eql rfl rfl) (decide_eq_false hkk2)) rfl ?_
                  refine WL.nil ?_
                  refine WN.thn ?_
                  refine WC.condF rfl (rfl) ?_
                  refine WC.skip ?_
                  refine WN.blk ?_
                  refine WN.thn ?_
                  refine WC.reg ?_
                  refine WL.v (Runs.move rfl) rfl ?_
                  refine WL.v (Runs.addn rfl rfl (by omega)) rfl ?_
                  refine WL.v (Runs.assign rfl) rfl ?_
                  refine WL.nil ?_
                  exact WN.again (k + 1) (by omega) ⟨rfl, rfl, rfl, rfl, rfl, rfl, trivial⟩ ⟨by omega, hL⟩
              · try simp only [decide_eq_true_eq, decide_eq_false_iff_not, Bool.not_eq_true', Bool.not_eq_false', Bool.and_eq_true, Int.not_lt, Int.not_le] at c25
                first
                | (exfalso; omega)
                | skip
                  refine WC.exit ?_
                  refine WX.thn ?_
                  refine WX.cut ?_
                  refine WX.hit ?_
                  refine WN.thn ?_
                  refine WC.seq ?_
                  refine WC.reg ?_
                  refine WL.v (Runs.move rfl) rfl ?_
                  refine WL.v (Runs.assign rfl) rfl ?_
                  refine WL.nil ?_
                  refine WN.thn ?_
                  have hen := hends ((readyM l (settleM l c)).getD 0 0).toNat (by omega)
                  refine WC.eregO hL (fun s_ => ([11] : List Nat).any (Nat.beq s_)) mixed (by kernel_rfl) (fun hx => ?_)
                  intro w26 h26
                  refine WE.pure (g := none) hx 0 (by rfl) trivial (by kernel_rfl) (by kernel_rfl) (by kernel_rfl) (by kernel_rfl) (fun w_ => Runs.move rfl) rfl ?_
                  refine WE.pure (g := none) hx 1 (by rfl) trivial (by kernel_rfl) (by kernel_rfl) (by kernel_rfl) (by kernel_rfl) (fun w_ => Runs.move rfl) rfl ?_
                  refine WE.pure (g := none) hx 2 (by rfl) trivial (by kernel_rfl) (by kernel_rfl) (by kernel_rfl) (by kernel_rfl) (fun w_ => Runs.lidxN Try.underlying28 inf3 rfl rfl (n := 0) rfl (by omega)) rfl ?_
                  refine WE.pure (g := none) hx 4 (by rfl) trivial (by kernel_rfl) (by kernel_rfl) (by kernel_rfl) (by kernel_rfl) (fun w_ => Runs.move rfl) rfl ?_
                  refine WE.pure (g := none) hx 5 (by rfl) trivial (by kernel_rfl) (by kernel_rfl) (by kernel_rfl) (by kernel_rfl) (fun w_ => Runs.move rfl) rfl ?_
                  refine WE.pure (g := none) hx 6 (by rfl) trivial (by kernel_rfl) (by kernel_rfl) (by kernel_rfl) (by kernel_rfl) (fun w_ => Runs.lidxN Try.underlying28 inf3 rfl rfl (n := 0) rfl (by omega)) rfl ?_
                  refine WE.val (g := none) 12 hx 3 (by rfl) trivial (by kernel_rfl) (by kernel_rfl) (by kernel_rfl) (by kernel_rfl) (fun w_ hE_ => Runs.loadR (f := Vi) (0 : Int) hE_ hrr (n := 0) (by omega) Try.underlying3 rfl rfl) rfl ?_
                  refine WE.val (g := none) 12 hx 7 (by rfl) trivial (by kernel_rfl) (by kernel_rfl) (by kernel_rfl) (by kernel_rfl) (fun w_ hE_ => Runs.loadR (f := Vi) (0 : Int) hE_ hrr (n := 0) (by omega) Try.underlying3 rfl rfl) rfl ?_
                  refine WE.pure (g := none) hx 8 (by rfl) trivial (by kernel_rfl) (by kernel_rfl) (by kernel_rfl) (by kernel_rfl) (fun w_ => Runs.lidxN Try.underlying28 inf3 rfl rfl (n := ((readyM l (settleM l c)).getD 0 0).toNat) (by omega) (by omega)) rfl ?_
                  refine WE.val (g := none) 12 hx 9 (by rfl) trivial (by kernel_rfl) (by kernel_rfl) (by kernel_rfl) (by kernel_rfl) (fun w_ hE_ => Runs.loadR (f := Vi) (0 : Int) hE_ hre (n := ((readyM l (settleM l c)).getD 0 0).toNat) (by omega) Try.underlying3 rfl rfl) rfl ?_
                  refine WE.pure (g := none) hx 10 (by rfl) trivial (by kernel_rfl) (by kernel_rfl) (by kernel_rfl) (by kernel_rfl) (fun w_ => Runs.valT (u := .pointer (some ⟨bb, ((readyM l (settleM l c)).getD 0 0).toNat, none⟩)) (Runs.lidxN Try.underlying28 inf3 rfl rfl (n := ((readyM l (settleM l c)).getD 0 0).toNat) (by omega) (by omega)) (by rw [add_mk, Nat.zero_add])) rfl ?_
                  refine WE.op (.inr h26) (i := 11) (by rfl) (by kernel_rfl) ?_
                  refine WL.storeRow (n := ((readyM l (settleM l c)).getD 0 0).toNat) (u := (ends.getD ((readyM l (settleM l c)).getD 0 0).toNat 0)) h26 0 rfl rfl rfl inf3 rfl hfr (by omega) ?_
                  intro  w27 h27
                  try simp only [List.set_cons_zero, List.set_cons_succ, List.eraseIdx_cons_zero, List.eraseIdx_cons_succ] at h27
                  refine WL.nil ?_
                  refine WE.next ?_
                  refine WE.fin (.inl ⟨11, rfl, by kernel_rfl⟩) (by kernel_rfl) ?_
                  refine WN.blk ?_
                  refine WN.thn ?_
                  refine WC.reg ?_
                  refine WL.v (Runs.move rfl) rfl ?_
                  refine WL.v (Runs.addn rfl rfl (by omega)) rfl ?_
                  refine WL.v (Runs.assign rfl) rfl ?_
                  refine WL.nil ?_
                  have hr9 := Row.mk_ (E := 3) (f := Vi) (b := bb) (fz := fz) (xs := (settleM l c).set ((readyM l (settleM l c)).getD 0 0).toNat (ends.getD ((readyM l (settleM l c)).getD 0 0).toNat 0)) (zs := zs) (cap := (settleM l c).length + zs.length) (by rw [List.length_set]) (by rw [List.length_set]; exact hfr)
                  rw [List.length_set] at hr9
                  have hc1 := settle_cnt hw
                  have hc2 := cntO_set2 (q := ends.getD ((readyM l (settleM l c)).getD 0 0).toNat 0) hra.2.1 (by omega)
                  exact WN.again (⟨n + 1, G3, (settleM l c).set ((readyM l (settleM l c)).getD 0 0).toNat (ends.getD ((readyM l (settleM l c)).getD 0 0).toNat 0), _, _⟩ : Nat × Snap × List Int × Res × Value) (by show l.length + 1 - (n + 1) < l.length + 1 - n; omega) ⟨rfl, rfl, rfl, rfl, trivial⟩ ⟨with_set hw2 (by omega), (by show cntO ((settleM l c).set ((readyM l (settleM l c)).getD 0 0).toNat (ends.getD ((readyM l (settleM l c)).getD 0 0).toNat 0)) + (n + 1) ≤ l.length; omega), hle, hr9, h27⟩
        · try simp only [decide_eq_true_eq, decide_eq_false_iff_not, Bool.not_eq_true', Bool.not_eq_false', Bool.and_eq_true, Int.not_lt, Int.not_le] at c18
          first
          | (exfalso; omega)
          | skip
            refine WC.exit ?_
            refine WX.thn ?_
            refine WX.cut ?_
            refine WX.hit ?_
            refine WN.thn ?_
            refine WC.seq ?_
            refine WC.reg ?_
            refine WL.v (Runs.assign rfl) rfl ?_
            refine WL.nil ?_
            refine WN.thn ?_
            refine WC.ret ?_
            exact absurd c18 (by omega)
end Dg
end Go.Proofs.Ytkfkdenikkadhaa
