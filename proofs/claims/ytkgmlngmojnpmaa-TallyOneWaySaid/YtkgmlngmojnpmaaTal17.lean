/- The law TallyOneWay: who is refused never goes, nor ends; who goes was voted yes by all. -/
import Derived.Test.YtkgmlngmojnpmaaProg
import Derived.Test.YtkgmlngmojnpmaaBaseT
import Derived.Test.YtkgmlngmojnpmaaTal16
namespace Go.Proofs.Ytkgmlngmojnpmaa
open Go Go.RowKit B
set_option linter.unusedVariables false
set_option linter.unusedSimpArgs false
namespace Tal

theorem inf4 : Inf Try.prog 4 (.bool false) 1 1 := by unfold Inf; kernel_rfl
theorem exit_vs (t : T) (n c : Int) : (t.exit n c).2.vs = t.vs ∧ (t.exit n c).2.ns = t.ns := by
  unfold T.exit
  split <;> exact ⟨rfl, rfl⟩
theorem vote_vs {t : T} (n : Int) (y : Bool) {k : Nat} (hd : t.ns.Nodup) (hl : t.vs.length = t.ns.length) (hk : k < t.ns.length) : (t.vote n y).2.vs.getD k none = t.vs.getD k none ∨ (t.ns.getD k 0 = n ∧ (t.vote n y).1 = 0 ∧ (t.vote n y).2.vs.getD k none = some y) := by
  by_cases hn : n ∈ t.ns
  · obtain ⟨j, hj, e⟩ := List.getElem_of_mem hn
    have e' : t.ns.getD j 0 = n := by rw [List.getD_eq_getElem?_getD, List.getElem?_eq_getElem hj]; exact e
    rw [← e']
    by_cases h1 : t.vs.getD j none = some y
    · rw [vote_same hd hl hj h1]; exact .inl rfl
    · by_cases h2 : t.vs.getD j none ≠ none ∨ t.state ≠ 0
      · rw [vote_bad hd hl hj h1 h2]; exact .inl rfl
      · have h3 : t.vs.getD j none = none := Classical.byContradiction fun h => h2 (.inl h)
        have h4 : t.state = 0 := Classical.byContradiction fun h => h2 (.inr h)
        rw [vote_ok hd hl hj h3 h4]
        by_cases hjk : j = k
        · subst hjk
          refine .inr ⟨rfl, rfl, ?_⟩
          show (t.vs.set j (some y)).getD j none = some y
          rw [List.getD_eq_getElem?_getD, List.getElem?_set_self (by omega)]; rfl
        · left
          show (t.vs.set j (some y)).getD k none = _
          rw [List.getD_eq_getElem?_getD, List.getElem?_set_ne hjk, ← List.getD_eq_getElem?_getD]
  · rw [vote_none hn]; exact .inl rfl
theorem vote_in {t : T} {n : Int} {y : Bool} (h : (t.vote n y).1 = 0) : n ∈ t.ns := Classical.byContradiction fun hn => by
  rw [vote_none hn] at h; cases h
def Yes (ns : List Int) (ys : List Bool) (t : T) : Prop := ∀ k, k < ns.length → t.vs.getD k none = some true → ys.getD (ns.getD k 0).toNat false = true
theorem Yes.vote {t : T} {ys : List Bool} {n : Int} {y : Bool} (hd : t.ns.Nodup) (hl : t.vs.length = t.ns.length) (h : Yes t.ns ys t) (hno : ¬ ((t.vote n y).1 = 0 ∧ y = true)) : Yes t.ns ys (t.vote n y).2 := fun k hk hs => by
  rcases vote_vs n y hd hl hk with h1 | ⟨_, h2, h3⟩
  · exact h k hk (h1 ▸ hs)
  · rw [h3] at hs
    exact absurd ⟨h2, by simpa using hs⟩ hno
theorem set_true {ys : List Bool} {j k : Nat} (h : ys.getD k false = true) : (ys.set j true).getD k false = true := by
  rw [List.getD_eq_getElem?_getD] at h ⊢
  rw [List.getElem?_set]
  split
  · rename_i e
    subst e
    split
    · rfl
    · rename_i h2
      rw [List.getElem?_eq_none (by omega)] at h
      simp at h
  · exact h
theorem Yes.set {t : T} {ys : List Bool} {n : Int} {y : Bool} (hd : t.ns.Nodup) (hl : t.vs.length = t.ns.length) (h : Yes t.ns ys t) (hn : n.toNat < ys.length) : Yes t.ns (ys.set n.toNat true) (t.vote n y).2 := fun k hk hs => by
  rcases vote_vs n y hd hl hk with h1 | ⟨h1, _, h3⟩
  · exact set_true (h k hk (h1 ▸ hs))
  · rw [h1, List.getD_eq_getElem?_getD, List.getElem?_set_self hn]; rfl
theorem Yes.exit {t : T} {ys : List Bool} {n c : Int} (h : Yes t.ns ys t) : Yes t.ns ys (t.exit n c).2 := fun k hk hs => h k hk ((exit_vs t n c).1 ▸ hs)
theorem all_yes {t : T} (hl : t.vs.length = t.ns.length) (h : t.state = 1 ∨ t.state = 3) {k : Nat} (hk : k < t.ns.length) : t.vs.getD k none = some true := by
  have h0 : some false ∉ t.vs ∧ ¬ (miss t.ns t.vs).length > 0 := by
    unfold T.state at h
    split at h
    · rcases h with h | h <;> cases h
    · rename_i h1
      split at h
      · rcases h with h | h <;> cases h
      · rename_i h2; exact ⟨h1, h2⟩
  have hm := (miss_none hl).1 (List.eq_nil_of_length_eq_zero (by omega))
  have hk' : k < t.vs.length := by omega
  rw [List.getD_eq_getElem?_getD, List.getElem?_eq_getElem hk']
  have h3 := hm _ (List.getElem_mem hk')
  have h4 : t.vs[k] ≠ some false := fun e => h0.1 (e ▸ List.getElem_mem hk')
  show t.vs[k] = some true
  cases e : t.vs[k] with
  | none => rw [e] at h3; cases h3
  | some b =>
    cases b with
    | true => rfl
    | false => exact absurd e h4
theorem way_v (t : T) (n : Int) (y : Bool) : (t.vote n y).2.state = t.state ∨ (¬ (t.vote n y).2.state = t.state ∧ t.state = 0) ∨ (¬ (t.vote n y).2.state = t.state ∧ t.state = 1 ∧ (t.vote n y).2.state = 3) := by
  by_cases h : (t.vote n y).2.state = t.state
  · exact .inl h
  · by_cases h0 : t.state = 0
    · exact .inr (.inl ⟨h, h0⟩)
    · rw [vote_stay h0] at h; exact absurd rfl h
theorem way_e (t : T) (n c : Int) : (t.exit n c).2.state = t.state ∨ (¬ (t.exit n c).2.state = t.state ∧ t.state = 0) ∨ (¬ (t.exit n c).2.state = t.state ∧ t.state = 1 ∧ (t.exit n c).2.state = 3) := by
  by_cases h : (t.exit n c).2.state = t.state
  · exact .inl h
  · by_cases h1 : t.state = 1
    · refine .inr (.inr ⟨h, h1, ?_⟩)
      obtain ⟨g1, g2, _⟩ := state1 h1
      have e := exit_vs t n c
      have := state_of (t := (t.exit n c).2) (by rw [e.1]; exact g1)
      rw [e.1, e.2, if_neg (by omega)] at this
      rw [h1] at h
      rw [this] at h ⊢
      split at h
      · exact absurd rfl h
      · rename_i h9; rw [if_neg h9]
    · rw [exit_stay h1] at h; exact absurd rfl h
theorem St_front {W w : World} {F : Snap} {p cs : List Res} {r : Res} (h : St W F (p ++ (r :: cs)) w) : St W F (r :: (p ++ cs)) w := h.perm List.perm_middle.symm
theorem St_mid {W w : World} {F : Snap} {p cs : List Res} {r : Res} (h : St W F (r :: (p ++ cs)) w) : St W F (p ++ (r :: cs)) w := h.perm List.perm_middle
theorem ys_at (ys : List Bool) {k : Nat} (hk : k < ys.length) : (ys.map Value.bool ++ []).toArray[k]? = some (.bool (ys.getD k false)) := by
  rw [List.getElem?_toArray, List.append_nil]
  simp [List.getD_eq_getElem?_getD, List.getElem?_eq_getElem hk]
theorem vcase (c : Int) (y : Bool) : (c = 0 ∧ y = true) ∨ (c = 0 ∧ y = false) ∨ c ≠ 0 := by
  by_cases h : c = 0
  · cases y
    · exact .inr (.inl ⟨h, rfl⟩)
    · exact .inl ⟨h, rfl⟩
  · exact .inr (.inr h)
theorem yes_new (ns : List Int) (ys : List Bool) : Yes (T.new ns).ns ys (T.new ns) := fun k hk hs => by
  simp only [T.new, List.getD_eq_getElem?_getD, List.getElem?_map] at hs
  cases h : ns[k]? with
  | none => rw [h] at hs; simp at hs
  | some x => rw [h] at hs; simp at hs
theorem new_state {ns : List Int} (h : okN ns) : (T.new ns).state = 0 := by
  have h1 : some false ∉ (T.new ns).vs := by simp [T.new]
  rw [state_of h1, if_pos]
  have h0 := h.1
  cases ns with
  | nil => simp at h0
  | cons a l => simp [T.new, miss]
set_option maxRecDepth 100000 in
set_option maxHeartbeats 8000000 in
theorem oneway_law {W : World} {F : Snap} {cs : List Res} (w : World) {A B : Option Addr} {cap cap2 : Nat} {ns : List Int} {os : List Op'} (h : St W F cs w) (hA : RdS (Kd.one Vi) F A ns) (hB : RdS KOp F B os) : Calls Try.prog 4 #[.slice A ns.length cap, .slice B os.length cap2] w fun e w' => e = .returned (.bool true) ∧ St W F cs w'  := by
  refine enter (P := Try.prog) (args := [.slice A ns.length cap, .slice B os.length cap2]) Try.func4 rfl rfl rfl ?_
  refine WC.seq ?_
  refine WC.reg ?_
  refine WL.v (Runs.assign rfl) rfl ?_
  refine WL.nil ?_
  refine WN.thn ?_
  refine WC.seq ?_
  refine WC.seq ?_
  rcases cases4 (okN ns) os.length ns.length 100 16 with hA1 | hB1 | ⟨hC1, hok⟩ | ⟨hC1, hok⟩
  · skip
    refine WC.reg ?_
    refine WL.v (Runs.move rfl) rfl ?_
    refine WL.v (Runs.llen Try.underlying23 rfl rfl) rfl ?_
    refine WL.v (Runs.boolT (c := true) (Runs.gtr rfl rfl) (by rw [decide_eq_true_eq]; omega)) rfl ?_
    refine WL.v (Runs.move rfl) rfl ?_
    refine WL.goff rfl rfl rfl rfl ?_
    refine WL.goff rfl rfl rfl rfl ?_
    refine WL.goff rfl rfl rfl rfl ?_
    refine WL.v (Runs.pick rfl rfl rfl) rfl ?_
    refine WL.v (Runs.move rfl) rfl ?_
    refine WL.goff rfl rfl rfl rfl ?_
    refine WL.goff rfl rfl rfl rfl ?_
    refine WL.goff rfl rfl rfl rfl ?_
    refine WL.v (Runs.pick rfl rfl rfl) rfl ?_
    refine WL.nil ?_
    refine WN.thn ?_
    refine WC.condT rfl (rfl) ?_
    refine WC.seq ?_
    refine WC.reg ?_
    refine WL.call can9 rfl rfl (live_c _ h) ?_
    rintro _ w1 ⟨rfl, h1⟩
    refine ⟨_, rfl, ?_⟩
    refine WL.v (Runs.assign rfl) rfl ?_
    refine WL.nil ?_
    refine WN.thn ?_
    refine WC.ret ?_
    exact ret1 rfl rfl ⟨rfl, h1⟩
  · skip
    refine WC.reg ?_
    refine WL.v (Runs.move rfl) rfl ?_
    refine WL.v (Runs.llen Try.underlying23 rfl rfl) rfl ?_
    refine WL.v (Runs.boolT (c := false) (Runs.gtr rfl rfl) (by rw [decide_eq_false_iff_not]; omega)) rfl ?_
    refine WL.v (Runs.move rfl) rfl ?_
    refine WL.gon rfl rfl rfl ?_
    refine WL.v (Runs.move rfl) rfl ?_
    refine WL.gon rfl rfl rfl ?_
    refine WL.v (Runs.llen Try.underlying22 rfl rfl) rfl ?_
    refine WL.gon rfl rfl rfl ?_
    refine WL.v (Runs.boolT (c := true) (Runs.gtr rfl rfl) (by rw [decide_eq_true_eq]; omega)) rfl ?_
    refine WL.v (Runs.pick rfl rfl rfl) rfl ?_
    refine WL.v (Runs.move rfl) rfl ?_
    refine WL.goff rfl rfl rfl rfl ?_
    refine WL.goff rfl rfl rfl rfl ?_
    refine WL.goff rfl rfl rfl rfl ?_
    refine WL.v (Runs.pick rfl rfl rfl) rfl ?_
    refine WL.nil ?_
    refine WN.thn ?_
    refine WC.condT rfl (rfl) ?_
    refine WC.seq ?_
    refine WC.reg ?_
    refine WL.call can9 rfl rfl (live_c _ h) ?_
    rintro _ w2 ⟨rfl, h2⟩
    refine ⟨_, rfl, ?_⟩
    refine WL.v (Runs.assign rfl) rfl ?_
    refine WL.nil ?_
    refine WN.thn ?_
    refine WC.ret ?_
    exact ret1 rfl rfl ⟨rfl, h2⟩
  · skip
    refine WC.reg ?_
    refine WL.v (Runs.move rfl) rfl ?_
    refine WL.v (Runs.llen Try.underlying23 rfl rfl) rfl ?_
    refine WL.v (Runs.boolT (c := false) (Runs.gtr rfl rfl) (by rw [decide_eq_false_iff_not]; omega)) rfl ?_
    refine WL.v (Runs.move rfl) rfl ?_
    refine WL.gon rfl rfl rfl ?_
    refine WL.v (Runs.move rfl) rfl ?_
    refine WL.gon rfl rfl rfl ?_
    refine WL.v (Runs.llen Try.underlying22 rfl rfl) rfl ?_
    refine WL.gon rfl rfl rfl ?_
    refine WL.v (Runs.boolT (c := false) (Runs.gtr rfl rfl) (by rw [decide_eq_false_iff_not]; omega)) rfl ?_
    refine WL.v (Runs.pick rfl rfl rfl) rfl ?_
    refine WL.v (Runs.move rfl) rfl ?_
    refine WL.gon rfl rfl rfl ?_
    refine WL.v (Runs.move rfl) rfl ?_
    refine WL.gon rfl rfl rfl ?_
    refine WL.call can11 rfl rfl (rnew_no _ h hA hok) ?_
    rintro _ w3 ⟨rfl, h3⟩
    refine ⟨_, rfl, ?_⟩
    refine WL.gon rfl rfl rfl ?_
    refine WL.v (Runs.peql Try.underlying27 rfl rfl) rfl ?_
    refine WL.v (Runs.pick rfl rfl rfl) rfl ?_
    refine WL.nil ?_
    refine WN.thn ?_
    refine WC.condT rfl (rfl) ?_
    refine WC.seq ?_
    refine WC.reg ?_
    refine WL.call can9 rfl rfl (live_c _ h3) ?_
    rintro _ w4 ⟨rfl, h4⟩
    refine ⟨_, rfl, ?_⟩
    refine WL.v (Runs.assign rfl) rfl ?_
    refine WL.nil ?_
    refine WN.thn ?_
    refine WC.ret ?_
    exact ret1 rfl rfl ⟨rfl, h4⟩
  · obtain ⟨ad, rfl, hrd⟩ := rd1 hA hok.1
    refine WC.reg ?_
    refine WL.v (Runs.move rfl) rfl ?_
    refine WL.v (Runs.llen Try.underlying23 rfl rfl) rfl ?_
    refine WL.v (Runs.boolT (c := false) (Runs.gtr rfl rfl) (by rw [decide_eq_false_iff_not]; omega)) rfl ?_
    refine WL.v (Runs.move rfl) rfl ?_
    refine WL.gon rfl rfl rfl ?_
    refine WL.v (Runs.move rfl) rfl ?_
    refine WL.gon rfl rfl rfl ?_
    refine WL.v (Runs.llen Try.underlying22 rfl rfl) rfl ?_
    refine WL.gon rfl rfl rfl ?_
    refine WL.v (Runs.boolT (c := false) (Runs.gtr rfl rfl) (by rw [decide_eq_false_iff_not]; omega)) rfl ?_
    refine WL.v (Runs.pick rfl rfl rfl) rfl ?_
    refine WL.v (Runs.move rfl) rfl ?_
    refine WL.gon rfl rfl rfl ?_
    refine WL.v (Runs.move rfl) rfl ?_
    refine WL.gon rfl rfl rfl ?_
    refine WL.call can11 rfl rfl (rnew_y _ h hA hok) ?_
    rintro _ w5 ⟨G0, b0, bv0, bc0, zv0, zc0, fv0, fc0, hle0, rfl, h5, _⟩
    refine ⟨_, rfl, ?_⟩
    have hS0 := (h5.drop 0).drop 0
    replace h5 := hS0
    simp only [List.eraseIdx_cons_zero] at h5
    refine WL.gon rfl rfl rfl ?_
    refine WL.v (Runs.peql Try.underlying27 rfl rfl) rfl ?_
    refine WL.v (Runs.pick rfl rfl rfl) rfl ?_
    refine WL.nil ?_
    refine WN.thn ?_
    refine WC.condF rfl (rfl) ?_
    refine WC.skip ?_
    refine WN.thn ?_
    refine WC.seq ?_
    refine WC.reg ?_
    refine WL.v (Runs.move rfl) rfl ?_
    refine WL.call can10 rfl rfl (new_c _ h5 (hA.mono hle0) (by omega) hok.2 hok.1) ?_
    rintro _ w6 ⟨G1, a, mva, mca, lva, lca, rfl, hle1, h6, hta⟩
    refine ⟨_, rfl, ?_⟩
    have hpt := PT.mk (W := W) (w := W) hta
    have hG0 := Le.trans hle0 hle1
    refine WL.v (Runs.assign rfl) rfl ?_
    refine WL.nil ?_
    refine WN.thn ?_
    refine WC.seq ?_
    refine WC.seq ?_
    refine WC.reg ?_
    refine WL.v (Runs.move rfl) rfl ?_
    refine WL.v (Runs.peql Try.underlying25 rfl rfl) rfl ?_
    refine WL.nil ?_
    refine WN.thn ?_
    refine WC.condF rfl (rfl) ?_
    refine WC.skip ?_
    refine WN.thn ?_
    refine WC.seq ?_
    refine WC.reg ?_
    refine WL.make1 (l := 16) (c := 16) rfl h6 Try.underlying37 inf4 rfl rfl rfl (by omega) (by omega) (by omega) ?_
    intro yb w7 h7
    try simp only [List.set_cons_zero, List.set_cons_succ, List.eraseIdx_cons_zero, List.eraseIdx_cons_succ] at h7
    replace h7 := St_mid (p := [[(mva, mobj lva)], [(mca, mobj lca)]]) h7
    refine WL.v (Runs.assign rfl) rfl ?_
    refine WL.nil ?_
    refine WN.thn ?_
    refine WC.seq ?_
    refine WC.reg ?_
    refine WL.v (Runs.assign rfl) rfl ?_
    refine WL.nil ?_
    refine WN.thn ?_
    refine WC.seq ?_
    refine WC.seq ?_
    refine WC.reg ?_
    refine WL.v (Runs.assign rfl) rfl ?_
    refine WL.nil ?_
    refine WN.thn ?_
    refine WC.block ?_
    refine WC.loop (σ := Nat × Snap × List Res × T × List Bool) (fun q_ => [(0, .slice (some ad) ns.length cap), (1, .slice B os.length cap2), (5, .pointer (some ⟨a, 0, none⟩)), (6, .slice (some ⟨yb, 0, none⟩) 16 16), (7, Vi q_.2.2.2.1.state), (8, .int .i64 (q_.1 : Int))]) (fun q_ w => q_.1 ≤ os.length ∧ Le F q_.2.1 ∧ PT q_.2.1 q_.2.2.1 a q_.2.2.2.1 ∧ q_.2.2.2.1.ns = ns ∧ q_.2.2.2.2.length = 16 ∧ Yes ns q_.2.2.2.2 q_.2.2.2.1 ∧ St W q_.2.1 (q_.2.2.1 ++ ([(yb, .cells (q_.2.2.2.2.map Value.bool ++ []).toArray 4 (0, 0))] :: cs)) w) (fun q_ => os.length - q_.1) (⟨0, _, _, T.new ns, List.replicate 16 false⟩) ⟨rfl, rfl, rfl, rfl, congrArg (fun x => some (Vi x)) (new_state hok).symm, rfl, trivial⟩ (⟨by omega, hG0, hpt, rfl, rfl, yes_new _ _, h7⟩) ?_
    rintro ⟨i, G, p, t, ys⟩ w8 ⟨hk, hG, hp, htn, hy, hyes, hL⟩
    try dsimp only at hk hG hp htn hy hyes hL
    refine WC.sub (s := [(0, .slice (some ad) ns.length cap), (1, .slice B os.length cap2), (5, .pointer (some ⟨a, 0, none⟩)), (6, .slice (some ⟨yb, 0, none⟩) 16 16), (7, Vi t.state), (8, .int .i64 (i : Int))]) (by repeat (first | exact trivial | refine ⟨rfl, ?_⟩)) ?_
    obtain ⟨hlv, hlc, hnd, hpos0, hsm⟩ := hp.facts
    refine WC.seq ?_
    refine WC.seq ?_
    refine WC.reg ?_
    refine WL.v (Runs.move rfl) rfl ?_
    refine WL.v (Runs.move rfl) rfl ?_
    refine WL.v (Runs.llen Try.underlying23 rfl rfl) rfl ?_
    refine WL.v (Runs.lss rfl rfl) rfl ?_
    refine WL.nil ?_
    refine WN.thn ?_
    refine WC.cond rfl (fun c9 => ?_) (fun c9 => ?_)
    · try simp only [decide_eq_true_eq, decide_eq_false_iff_not, Bool.not_eq_true', Bool.not_eq_false', Bool.and_eq_true, Int.not_lt, Int.not_le] at c9
      first
      | (exfalso; omega)
      | skip
        refine WC.skip ?_
        refine WN.thn ?_
        refine WC.seq ?_
        refine WC.block ?_
        refine WC.seq ?_
        obtain ⟨bd, rfl⟩ := rdA hB (by omega)
        refine WC.reg ?_
        refine WL.v (Runs.move rfl) rfl ?_
        refine WL.v (Runs.move rfl) rfl ?_
        refine WL.v (Runs.lidxK Try.underlying23 inf31 rfl rfl (n := i) rfl (by omega)) rfl ?_
        refine WL.v (Runs.loadRows o0 hL (hB.mono hG) rfl (by omega) Try.underlying31 rfl inf31 rfl) rfl ?_
        refine WL.alloc' rfl hL inf31 ?_
        intro b9 w10 h10
        refine WL.store' h10 0 rfl rfl rfl inf31 rfl rfl (Free.zero _) (Nat.le_of_ble_eq_true rfl) ?_
        intro  w11 h11
        try simp only [List.set_cons_zero, List.set_cons_succ, List.eraseIdx_cons_zero, List.eraseIdx_cons_succ] at h11
        refine WL.nil ?_
        refine WN.thn ?_
        refine WC.seq ?_
        refine WC.seq ?_
        obtain ⟨Gb, hgb, g0, S0⟩ := h11.freeze (i := 0) rfl
        have hk0 : cellF Gb ⟨b9, 0, none⟩ = some (.bool (os.getD i o0).v) := by unfold cellF; simp only [g0 _ List.mem_cons_self]; rfl
        have hk1 : cellF Gb ⟨b9, 1, none⟩ = some (Vi (os.getD i o0).n) := by unfold cellF; simp only [g0 _ List.mem_cons_self]; rfl
        have hk2 : cellF Gb ⟨b9, 2, none⟩ = some (.bool (os.getD i o0).y) := by unfold cellF; simp only [g0 _ List.mem_cons_self]; rfl
        have hk3 : cellF Gb ⟨b9, 3, none⟩ = some (Vi (os.getD i o0).c) := by unfold cellF; simp only [g0 _ List.mem_cons_self]; rfl
        replace S0 : St W Gb (p ++ ([(yb, .cells (ys.map Value.bool ++ []).toArray 4 (0, 0))] :: cs)) w11 := S0
        refine WC.reg ?_
        refine WL.v (Runs.fld fld31_0 rfl) rfl ?_
        refine WL.v (Runs.load1 Try.underlying4 rfl rfl (S0.cell hk0)) rfl ?_
        refine WL.nil ?_
        refine WN.thn ?_
        refine WC.cond rfl (fun c12 => ?_) (fun c12 => ?_)
        · try simp only [decide_eq_true_eq, decide_eq_false_iff_not, Bool.not_eq_true', Bool.not_eq_false', Bool.and_eq_true, Int.not_lt, Int.not_le] at c12
          first
          | (exfalso; omega)
          | skip
            refine WC.seq ?_
            
            refine WC.reg ?_
            refine WL.v (Runs.move rfl) rfl ?_
            refine WL.v (Runs.fld fld31_1 rfl) rfl ?_
            refine WL.v (Runs.load1 Try.underlying3 rfl rfl (S0.cell hk1)) rfl ?_
            refine WL.v (Runs.fld fld31_2 rfl) rfl ?_
            refine WL.v (Runs.load1 Try.underlying4 rfl rfl (S0.cell hk2)) rfl ?_
            refine WL.call can22 rfl rfl (tvote_t _ (os.getD i o0).n (os.getD i o0).y S0 (hp.mono hgb)) ?_
            rintro _ w13 ⟨G3, p3, hl3, rfl, hp3, h13⟩
            refine ⟨_, rfl, ?_⟩
            refine WL.v (Runs.assign rfl) rfl ?_
            refine WL.nil ?_
            refine WN.thn ?_
            refine WC.seq ?_
            rcases vcase (t.vote (os.getD i o0).n (os.getD i o0).y).1 (os.getD i o0).y with hv | hv | hv
            · have hin := vote_in hv.1
              rw [htn] at hin
              obtain ⟨jn, hjn, ejn⟩ := List.getElem_of_mem hin
              have hnr : 0 ≤ (os.getD i o0).n ∧ (os.getD i o0).n < 16 := by
                have := hok.2.1 jn hjn
                rw [List.getD_eq_getElem?_getD, List.getElem?_eq_getElem hjn] at this
                simp only [Option.getD_some, ejn] at this
                exact this
              refine WC.reg ?_
              refine WL.v (Runs.move rfl) rfl ?_
              refine WL.v (Runs.boolT (c := true) (Runs.eql rfl rfl) (decide_eq_true hv.1)) rfl ?_
              refine WL.v (Runs.move rfl) rfl ?_
              refine WL.gon rfl rfl rfl ?_
              refine WL.v (Runs.fld fld31_2 rfl) rfl ?_
              refine WL.gon rfl rfl rfl ?_
              refine WL.v (Runs.boolT (c := true) (Runs.load1 Try.underlying4 rfl rfl (h13.cell (cellF_le hl3 hk2))) hv.2) rfl ?_
              refine WL.v (Runs.pick rfl rfl rfl) rfl ?_
              refine WL.nil ?_
              refine WN.thn ?_
              refine WC.condT rfl (rfl) ?_
              refine WC.reg ?_
              refine WL.v (Runs.move rfl) rfl ?_
              refine WL.v (Runs.fld fld31_1 rfl) rfl ?_
              refine WL.v (Runs.load1 Try.underlying3 rfl rfl (h13.cell (cellF_le hl3 hk1))) rfl ?_
              refine WL.v (Runs.valT (u := .pointer (some ⟨yb, (os.getD i o0).n.toNat, none⟩)) (Runs.lidx Try.underlying37 inf4 rfl rfl ⟨hnr.1, by omega⟩) (by rw [add_mk, Nat.mul_one, Nat.zero_add])) rfl ?_
              refine WL.storeRow (St_front h13) 0 (f := Value.bool) (xs := ys) (u := true) (zs := []) rfl rfl rfl inf4 rfl (Free.zero _) (by omega) ?_
              intro  w14 h14
              try simp only [List.set_cons_zero, List.set_cons_succ, List.eraseIdx_cons_zero, List.eraseIdx_cons_succ] at h14
              replace h14 := St_mid h14
              refine WL.nil ?_
              refine WN.thn ?_
              refine WC.seq ?_
              refine WC.reg ?_
              refine WL.v (Runs.move rfl) rfl ?_
              refine WL.call can13 rfl rfl (tstate_t _ h14 hp3) ?_
              rintro _ w15 ⟨rfl, h15⟩
              refine ⟨_, rfl, ?_⟩
              refine WL.v (Runs.assign rfl) rfl ?_
              refine WL.nil ?_
              refine WN.thn ?_
              refine WC.seq ?_
              refine WC.seq ?_
              rcases way_v t (os.getD i o0).n (os.getD i o0).y with hW | ⟨hW0, hW⟩ | ⟨hW0, hW1, hW⟩
              · skip
                refine WC.reg ?_
                refine WL.v (Runs.move rfl) rfl ?_
                refine WL.v (Runs.move rfl) rfl ?_
                refine WL.v (Runs.boolT (c := false) (Runs.neq rfl rfl) (by rw [decide_eq_true hW]; rfl)) rfl ?_
                refine WL.v (Runs.move rfl) rfl ?_
                refine WL.goff rfl rfl rfl rfl ?_
                refine WL.goff rfl rfl rfl rfl ?_
                refine WL.v (Runs.pick rfl rfl rfl) rfl ?_
                refine WL.v (Runs.move rfl) rfl ?_
                refine WL.goff rfl rfl rfl rfl ?_
                refine WL.goff rfl rfl rfl rfl ?_
                refine WL.goff rfl rfl rfl rfl ?_
                refine WL.goffU rfl rfl rfl ?_
                refine WL.goffU rfl rfl rfl ?_
                refine WL.goff rfl rfl rfl rfl ?_
                refine WL.v (Runs.pick rfl rfl rfl) rfl ?_
                refine WL.nil ?_
                refine WN.thn ?_
                refine WC.condF rfl (rfl) ?_
                refine WC.skip ?_
                refine WN.thn ?_
                refine WC.seq ?_
                refine WC.seq ?_
                refine WC.reg ?_
                refine WL.v (Runs.assign rfl) rfl ?_
                refine WL.nil ?_
                refine WN.thn ?_
                refine WC.block ?_
                have htn2 : (t.vote (os.getD i o0).n (os.getD i o0).y).2.ns = ns := htn
                have hl2 : (t.vote (os.getD i o0).n (os.getD i o0).y).2.vs.length = (t.vote (os.getD i o0).n (os.getD i o0).y).2.ns.length := hp3.facts.1
                replace hyes : Yes t.ns ys t := by rw [htn]; exact hyes
                replace hyes : Yes ns (ys.set (os.getD i o0).n.toNat true) (t.vote (os.getD i o0).n (os.getD i o0).y).2 := by have := Yes.set (n := (os.getD i o0).n) (y := (os.getD i o0).y) hnd hlv hyes (by omega); rw [htn] at this; exact this
                have hyl : (ys.set (os.getD i o0).n.toNat true).length = 16 := by simp [hy]
                refine WC.loop (σ := Nat) (fun q_ => [(0, .slice (some ad) ns.length cap), (1, .slice (some bd) os.length cap2), (5, .pointer (some ⟨a, 0, none⟩)), (6, .slice (some ⟨yb, 0, none⟩) 16 16), (7, Vi t.state), (8, .int .i64 (i : Int)), (11, Vi (t.vote (os.getD i o0).n (os.getD i o0).y).2.state), (12, .int .i64 (q_ : Int))]) (fun q_ w => q_ ≤ ns.length ∧ St W G3 (p3 ++ ([(yb, .cells ((ys.set (os.getD i o0).n.toNat true).map Value.bool ++ []).toArray 4 (0, 0))] :: cs)) w) (fun q_ => ns.length - q_) (0) (by repeat (first | exact trivial | refine ⟨rfl, ?_⟩)) (⟨by omega, h15⟩) ?_
                rintro k w16 ⟨hkk, hL⟩
                try dsimp only at hkk hL
                refine WC.sub (s := [(0, .slice (some ad) ns.length cap), (1, .slice (some bd) os.length cap2), (5, .pointer (some ⟨a, 0, none⟩)), (6, .slice (some ⟨yb, 0, none⟩) 16 16), (7, Vi t.state), (8, .int .i64 (i : Int)), (11, Vi (t.vote (os.getD i o0).n (os.getD i o0).y).2.state), (12, .int .i64 (k : Int))]) (by repeat (first | exact trivial | refine ⟨rfl, ?_⟩)) ?_
                refine WC.seq ?_
                refine WC.seq ?_
                have hcase : (¬ k < ns.length) ∨ (k < ns.length ∧ (t.vote (os.getD i o0).n (os.getD i o0).y).2.state = 1) ∨ (k < ns.length ∧ (t.vote (os.getD i o0).n (os.getD i o0).y).2.state ≠ 1 ∧ (t.vote (os.getD i o0).n (os.getD i o0).y).2.state = 3) ∨ (k < ns.length ∧ (t.vote (os.getD i o0).n (os.getD i o0).y).2.state ≠ 1 ∧ (t.vote (os.getD i o0).n (os.getD i o0).y).2.state ≠ 3) := by omega
                rcases hcase with hc | ⟨hkn, hs1⟩ | ⟨hkn, hs1, hs3⟩ | ⟨hkn, hs1, hs3⟩
                · skip
                  refine WC.reg ?_
                  refine WL.v (Runs.move rfl) rfl ?_
                  refine WL.v (Runs.move rfl) rfl ?_
                  refine WL.v (Runs.llen Try.underlying22 rfl rfl) rfl ?_
                  refine WL.v (Runs.boolT (c := false) (Runs.lss rfl rfl) (by rw [decide_eq_false_iff_not]; omega)) rfl ?_
                  refine WL.v (Runs.move rfl) rfl ?_
                  refine WL.goff rfl rfl rfl rfl ?_
                  refine WL.goff rfl rfl rfl rfl ?_
                  refine WL.goff rfl rfl rfl rfl ?_
                  refine WL.goffU rfl rfl rfl ?_
                  refine WL.goffU rfl rfl rfl ?_
                  refine WL.goff rfl rfl rfl rfl ?_
                  refine WL.v (Runs.pick rfl rfl rfl) rfl ?_
                  refine WL.nil ?_
                  refine WN.thn ?_
                  refine WC.condF rfl (rfl) ?_
                  refine WC.exit ?_
                  refine WX.thn ?_
                  refine WX.cut ?_
                  refine WX.hit ?_
                  refine WN.thn ?_
                  refine WC.reg ?_
                  refine WL.v (Runs.move rfl) rfl ?_
                  refine WL.v (Runs.assign rfl) rfl ?_
                  refine WL.nil ?_
                  refine WN.blk ?_
                  refine WN.thn ?_
                  refine WC.reg ?_
                  refine WL.v (Runs.move rfl) rfl ?_
                  refine WL.v (Runs.addn rfl rfl (by omega)) rfl ?_
                  refine WL.v (Runs.assign rfl) rfl ?_
                  refine WL.nil ?_
                  exact WN.again (⟨i + 1, _, p3, (t.vote (os.getD i o0).n (os.getD i o0).y).2, (ys.set (os.getD i o0).n.toNat true)⟩ : Nat × Snap × List Res × T × List Bool) (by show os.length - (i + 1) < os.length - i; omega) ⟨rfl, rfl, rfl, rfl, rfl, rfl, trivial⟩ ⟨by show i + 1 ≤ _; omega, Le.trans hG (Le.trans hgb hl3), hp3, htn2, by simpa using hy, hyes, hL⟩
                · have hst : (t.vote (os.getD i o0).n (os.getD i o0).y).2.state = 1 ∨ (t.vote (os.getD i o0).n (os.getD i o0).y).2.state = 3 := .inl hs1
                  refine WC.reg ?_
                  refine WL.v (Runs.move rfl) rfl ?_
                  refine WL.v (Runs.move rfl) rfl ?_
                  refine WL.v (Runs.llen Try.underlying22 rfl rfl) rfl ?_
                  refine WL.v (Runs.boolT (c := true) (Runs.lss rfl rfl) (by rw [decide_eq_true_eq]; omega)) rfl ?_
                  refine WL.v (Runs.move rfl) rfl ?_
                  refine WL.gon rfl rfl rfl ?_
                  refine WL.v (Runs.move rfl) rfl ?_
                  refine WL.gon rfl rfl rfl ?_
                  refine WL.v (Runs.boolT (c := true) (Runs.eql rfl rfl) (decide_eq_true hs1)) rfl ?_
                  refine WL.gon rfl rfl rfl ?_
                  refine WL.v (Runs.move rfl) rfl ?_
                  refine WL.goff rfl rfl rfl rfl ?_
                  refine WL.goff rfl rfl rfl rfl ?_
                  refine WL.gon rfl rfl rfl ?_
                  refine WL.v (Runs.pick rfl rfl rfl) rfl ?_
                  refine WL.v (Runs.pick rfl rfl rfl) rfl ?_
                  refine WL.nil ?_
                  refine WN.thn ?_
                  refine WC.condT rfl (rfl) ?_
                  refine WC.skip ?_
                  refine WN.thn ?_
                  refine WC.seq ?_
                  refine WC.block ?_
                  refine WC.seq ?_
                  have hkn2 : k < (t.vote (os.getD i o0).n (os.getD i o0).y).2.ns.length := by rw [htn2]; exact hkn
                  have hkr : (ns.getD k 0).toNat < (ys.set (os.getD i o0).n.toNat true).length := by rw [hyl]; have := hok.2.1 k hkn; omega
                  refine WC.reg ?_
                  refine WL.v (Runs.move rfl) rfl ?_
                  refine WL.v (Runs.move rfl) rfl ?_
                  refine WL.v (Runs.move rfl) rfl ?_
                  refine WL.v (Runs.lidxN Try.underlying22 inf3 rfl rfl (n := k) rfl (by omega)) rfl ?_
                  refine WL.v (Runs.loadR (f := Vi) (0 : Int) (hL.weak (Le.trans hG (Le.trans hgb hl3))) hrd (n := k) (by omega) Try.underlying3 rfl rfl) rfl ?_
                  refine WL.v (Runs.valT (u := .pointer (some ⟨yb, (ns.getD k 0).toNat, none⟩)) (Runs.lidx Try.underlying37 inf4 rfl rfl ⟨(hok.2.1 k hkn).1, by have := (hok.2.1 k hkn).2; omega⟩) (by rw [add_mk, Nat.mul_one, Nat.zero_add])) rfl ?_
                  refine WL.v (Runs.boolT (c := true) (Runs.load1 Try.underlying4 rfl rfl ((St_front hL).ocell (i := 0) rfl (ys_at _ hkr))) (hyes k hkn (all_yes hl2 hst hkn2))) rfl ?_
                  refine WL.v (Runs.not rfl) rfl ?_
                  refine WL.nil ?_
                  refine WN.thn ?_
                  refine WC.condF rfl (rfl) ?_
                  refine WC.skip ?_
                  refine WN.blk ?_
                  refine WN.thn ?_
                  refine WC.reg ?_
                  refine WL.v (Runs.move rfl) rfl ?_
                  refine WL.v (Runs.addn rfl rfl (by omega)) rfl ?_
                  refine WL.v (Runs.assign rfl) rfl ?_
                  refine WL.nil ?_
                  exact WN.again (k + 1) (by omega) ⟨rfl, rfl, rfl, rfl, rfl, rfl, rfl, rfl, trivial⟩ ⟨by omega, hL⟩
                · have hst : (t.vote (os.getD i o0).n (os.getD i o0).y).2.state = 1 ∨ (t.vote (os.getD i o0).n (os.getD i o0).y).2.state = 3 := .inr hs3
                  refine WC.reg ?_
                  refine WL.v (Runs.move rfl) rfl ?_
                  refine WL.v (Runs.move rfl) rfl ?_
                  refine WL.v (Runs.llen Try.underlying22 rfl rfl) rfl ?_
                  refine WL.v (Runs.boolT (c := true) (Runs.lss rfl rfl) (by rw [decide_eq_true_eq]; omega)) rfl ?_
                  refine WL.v (Runs.move rfl) rfl ?_
                  refine WL.gon rfl rfl rfl ?_
                  refine WL.v (Runs.move rfl) rfl ?_
                  refine WL.gon rfl rfl rfl ?_
                  refine WL.v (Runs.boolT (c := false) (Runs.eql rfl rfl) (decide_eq_false hs1)) rfl ?_
                  refine WL.gon rfl rfl rfl ?_
                  refine WL.v (Runs.move rfl) rfl ?_
                  refine WL.gon rfl rfl rfl ?_
                  refine WL.v (Runs.move rfl) rfl ?_
                  refine WL.gon rfl rfl rfl ?_
                  refine WL.v (Runs.boolT (c := true) (Runs.eql rfl rfl) (decide_eq_true hs3)) rfl ?_
                  refine WL.gon rfl rfl rfl ?_
                  refine WL.v (Runs.pick rfl rfl rfl) rfl ?_
                  refine WL.v (Runs.pick rfl rfl rfl) rfl ?_
                  refine WL.nil ?_
                  refine WN.thn ?_
                  refine WC.condT rfl (rfl) ?_
                  refine WC.skip ?_
                  refine WN.thn ?_
                  refine WC.seq ?_
                  refine WC.block ?_
                  refine WC.seq ?_
                  have hkn2 : k < (t.vote (os.getD i o0).n (os.getD i o0).y).2.ns.length := by rw [htn2]; exact hkn
                  have hkr : (ns.getD k 0).toNat < (ys.set (os.getD i o0).n.toNat true).length := by rw [hyl]; have := hok.2.1 k hkn; omega
                  refine WC.reg ?_
                  refine WL.v (Runs.move rfl) rfl ?_
                  refine WL.v (Runs.move rfl) rfl ?_
                  refine WL.v (Runs.move rfl) rfl ?_
                  refine WL.v (Runs.lidxN Try.underlying22 inf3 rfl rfl (n := k) rfl (by omega)) rfl ?_
                  refine WL.v (Runs.loadR (f := Vi) (0 : Int) (hL.weak (Le.trans hG (Le.trans hgb hl3))) hrd (n := k) (by omega) Try.underlying3 rfl rfl) rfl ?_
                  refine WL.v (Runs.valT (u := .pointer (some ⟨yb, (ns.getD k 0).toNat, none⟩)) (Runs.lidx Try.underlying37 inf4 rfl rfl ⟨(hok.2.1 k hkn).1, by have := (hok.2.1 k hkn).2; omega⟩) (by rw [add_mk, Nat.mul_one, Nat.zero_add])) rfl ?_
                  refine WL.v (Runs.boolT (c := true) (Runs.load1 Try.underlying4 rfl rfl ((St_front hL).ocell (i := 0) rfl (ys_at _ hkr))) (hyes k hkn (all_yes hl2 hst hkn2))) rfl ?_
                  refine WL.v (Runs.not rfl) rfl ?_
                  refine WL.nil ?_
                  refine WN.thn ?_
                  refine WC.condF rfl (rfl) ?_
                  refine WC.skip ?_
                  refine WN.blk ?_
                  refine WN.thn ?_
                  refine WC.reg ?_
                  refine WL.v (Runs.move rfl) rfl ?_
                  refine WL.v (Runs.addn rfl rfl (by omega)) rfl ?_
                  refine WL.v (Runs.assign rfl) rfl ?_
                  refine WL.nil ?_
                  exact WN.again (k + 1) (by omega) ⟨rfl, rfl, rfl, rfl, rfl, rfl, rfl, rfl, trivial⟩ ⟨by omega, hL⟩
                · skip
                  refine WC.reg ?_
                  refine WL.v (Runs.move rfl) rfl ?_
                  refine WL.v (Runs.move rfl) rfl ?_
                  refine WL.v (Runs.llen Try.underlying22 rfl rfl) rfl ?_
                  refine WL.v (Runs.boolT (c := true) (Runs.lss rfl rfl) (by rw [decide_eq_true_eq]; omega)) rfl ?_
                  refine WL.v (Runs.move rfl) rfl ?_
                  refine WL.gon rfl rfl rfl ?_
                  refine WL.v (Runs.move rfl) rfl ?_
                  refine WL.gon rfl rfl rfl ?_
                  refine WL.v (Runs.boolT (c := false) (Runs.eql rfl rfl) (decide_eq_false hs1)) rfl ?_
                  refine WL.gon rfl rfl rfl ?_
                  refine WL.v (Runs.move rfl) rfl ?_
                  refine WL.gon rfl rfl rfl ?_
                  refine WL.v (Runs.move rfl) rfl ?_
                  refine WL.gon rfl rfl rfl ?_
                  refine WL.v (Runs.boolT (c := false) (Runs.eql rfl rfl) (decide_eq_false hs3)) rfl ?_
                  refine WL.gon rfl rfl rfl ?_
                  refine WL.v (Runs.pick rfl rfl rfl) rfl ?_
                  refine WL.v (Runs.pick rfl rfl rfl) rfl ?_
                  refine WL.nil ?_
                  refine WN.thn ?_
                  refine WC.condF rfl (rfl) ?_
                  refine WC.exit ?_
                  refine WX.thn ?_
                  refine WX.cut ?_
                  refine WX.hit ?_
                  refine WN.thn ?_
                  refine WC.reg ?_
                  refine WL.v (Runs.move rfl) rfl ?_
                  refine WL.v (Runs.assign rfl) rfl ?_
                  refine WL.nil ?_
                  refine WN.blk ?_
                  refine WN.thn ?_
                  refine WC.reg ?_
                  refine WL.v (Runs.move rfl) rfl ?_
                  refine WL.v (Runs.addn rfl rfl (by omega)) rfl ?_
                  refine WL.v (Runs.assign rfl) rfl ?_
                  refine WL.nil ?_
                  exact WN.again (⟨i + 1, _, p3, (t.vote (os.getD i o0).n (os.getD i o0).y).2, (ys.set (os.getD i o0).n.toNat true)⟩ : Nat × Snap × List Res × T × List Bool) (by show os.length - (i + 1) < os.length - i; omega) ⟨rfl, rfl, rfl, rfl, rfl, rfl, trivial⟩ ⟨by show i + 1 ≤ _; omega, Le.trans hG (Le.trans hgb hl3), hp3, htn2, by simpa using hy, hyes, hL⟩
              · skip
                refine WC.reg ?_
                refine WL.v (Runs.move rfl) rfl ?_
                refine WL.v (Runs.move rfl) rfl ?_
                refine WL.v (Runs.boolT (c := true) (Runs.neq rfl rfl) (by rw [decide_eq_false hW0]; rfl)) rfl ?_
                refine WL.v (Runs.move rfl) rfl ?_
                refine WL.gon rfl rfl rfl ?_
                refine WL.v (Runs.move rfl) rfl ?_
                refine WL.gon rfl rfl rfl ?_
                refine WL.v (Runs.boolT (c := false) (Runs.neq rfl rfl) (by rw [decide_eq_true hW]; rfl)) rfl ?_
                refine WL.v (Runs.pick rfl rfl rfl) rfl ?_
                refine WL.v (Runs.move rfl) rfl ?_
                refine WL.goff rfl rfl rfl rfl ?_
                refine WL.goff rfl rfl rfl rfl ?_
                refine WL.goff rfl rfl rfl rfl ?_
                refine WL.goffU rfl rfl rfl ?_
                refine WL.goffU rfl rfl rfl ?_
                refine WL.goff rfl rfl rfl rfl ?_
                refine WL.v (Runs.pick rfl rfl rfl) rfl ?_
                refine WL.nil ?_
                refine WN.thn ?_
                refine WC.condF rfl (rfl) ?_
                refine WC.skip ?_
                refine WN.thn ?_
                refine WC.seq ?_
                refine WC.seq ?_
                refine WC.reg ?_
                refine WL.v (Runs.assign rfl) rfl ?_
                refine WL.nil ?_
                refine WN.thn ?_
                refine WC.block ?_
                have htn2 : (t.vote (os.getD i o0).n (os.getD i o0).y).2.ns = ns := htn
                have hl2 : (t.vote (os.getD i o0).n (os.getD i o0).y).2.vs.length = (t.vote (os.getD i o0).n (os.getD i o0).y).2.ns.length := hp3.facts.1
                replace hyes : Yes t.ns ys t := by rw [htn]; exact hyes
                replace hyes : Yes ns (ys.set (os.getD i o0).n.toNat true) (t.vote (os.getD i o0).n (os.getD i o0).y).2 := by have := Yes.set (n := (os.getD i o0).n) (y := (os.getD i o0).y) hnd hlv hyes (by omega); rw [htn] at this; exact this
                have hyl : (ys.set (os.getD i o0).n.toNat true).length = 16 := by simp [hy]
                refine WC.loop (σ := Nat) (fun q_ => [(0, .slice (some ad) ns.length cap), (1, .slice (some bd) os.length cap2), (5, .pointer (some ⟨a, 0, none⟩)), (6, .slice (some ⟨yb, 0, none⟩) 16 16), (7, Vi t.state), (8, .int .i64 (i : Int)), (11, Vi (t.vote (os.getD i o0).n (os.getD i o0).y).2.state), (12, .int .i64 (q_ : Int))]) (fun q_ w => q_ ≤ ns.length ∧ St W G3 (p3 ++ ([(yb, .cells ((ys.set (os.getD i o0).n.toNat true).map Value.bool ++ []).toArray 4 (0, 0))] :: cs)) w) (fun q_ => ns.length - q_) (0) (by repeat (first | exact trivial | refine ⟨rfl, ?_⟩)) (⟨by omega, h15⟩) ?_
                rintro k w17 ⟨hkk, hL⟩
                try dsimp only at hkk hL
                refine WC.sub (s := [(0, .slice (some ad) ns.length cap), (1, .slice (some bd) os.length cap2), (5, .pointer (some ⟨a, 0, none⟩)), (6, .slice (some ⟨yb, 0, none⟩) 16 16), (7, Vi t.state), (8, .int .i64 (i : Int)), (11, Vi (t.vote (os.getD i o0).n (os.getD i o0).y).2.state), (12, .int .i64 (k : Int))]) (by repeat (first | exact trivial | refine ⟨rfl, ?_⟩)) ?_
                refine WC.seq ?_
                refine WC.seq ?_
                have hcase : (¬ k < ns.length) ∨ (k < ns.length ∧ (t.vote (os.getD i o0).n (os.getD i o0).y).2.state = 1) ∨ (k < ns.length ∧ (t.vote (os.getD i o0).n (os.getD i o0).y).2.state ≠ 1 ∧ (t.vote (os.getD i o0).n (os.getD i o0).y).2.state = 3) ∨ (k < ns.length ∧ (t.vote (os.getD i o0).n (os.getD i o0).y).2.state ≠ 1 ∧ (t.vote (os.getD i o0).n (os.getD i o0).y).2.state ≠ 3) := by omega
                rcases hcase with hc | ⟨hkn, hs1⟩ | ⟨hkn, hs1, hs3⟩ | ⟨hkn, hs1, hs3⟩
                · skip
                  refine WC.reg ?_
                  refine WL.v (Runs.move rfl) rfl ?_
                  refine WL.v (Runs.move rfl) rfl ?_
                  refine WL.v (Runs.llen Try.underlying22 rfl rfl) rfl ?_
                  refine WL.v (Runs.boolT (c := false) (Runs.lss rfl rfl) (by rw [decide_eq_false_iff_not]; omega)) rfl ?_
                  refine WL.v (Runs.move rfl) rfl ?_
                  refine WL.goff rfl rfl rfl rfl ?_
                  refine WL.goff rfl rfl rfl rfl ?_
                  refine WL.goff rfl rfl rfl rfl ?_
                  refine WL.goffU rfl rfl rfl ?_
                  refine WL.goffU rfl rfl rfl ?_
                  refine WL.goff rfl rfl rfl rfl ?_
                  refine WL.v (Runs.pick rfl rfl rfl) rfl ?_
                  refine WL.nil ?_
                  refine WN.thn ?_
                  refine WC.condF rfl (rfl) ?_
                  refine WC.exit ?_
                  refine WX.thn ?_
                  refine WX.cut ?_
                  refine WX.hit ?_
                  refine WN.thn ?_
                  refine WC.reg ?_
                  refine WL.v (Runs.move rfl) rfl ?_
                  refine WL.v (Runs.assign rfl) rfl ?_
                  refine WL.nil ?_
                  refine WN.blk ?_
                  refine WN.thn ?_
                  refine WC.reg ?_
                  refine WL.v (Runs.move rfl) rfl ?_
                  refine WL.v (Runs.addn rfl rfl (by omega)) rfl ?_
                  refine WL.v (Runs.assign rfl) rfl ?_
                  refine WL.nil ?_
                  exact WN.again (⟨i + 1, _, p3, (t.vote (os.getD i o0).n (os.getD i o0).y).2, (ys.set (os.getD i o0).n.toNat true)⟩ : Nat × Snap × List Res × T × List Bool) (by show os.length - (i + 1) < os.length - i; omega) ⟨rfl, rfl, rfl, rfl, rfl, rfl, trivial⟩ ⟨by show i + 1 ≤ _; omega, Le.trans hG (Le.trans hgb hl3), hp3, htn2, by simpa using hy, hyes, hL⟩
                · have hst : (t.vote (os.getD i o0).n (os.getD i o0).y).2.state = 1 ∨ (t.vote (os.getD i o0).n (os.getD i o0).y).2.state = 3 := .inl hs1
                  refine WC.reg ?_
                  refine WL.v (Runs.move rfl) rfl ?_
                  refine WL.v (Runs.move rfl) rfl ?_
                  refine WL.v (Runs.llen Try.underlying22 rfl rfl) rfl ?_
                  refine WL.v (Runs.boolT (c := true) (Runs.lss rfl rfl) (by rw [decide_eq_true_eq]; omega)) rfl ?_
                  refine WL.v (Runs.move rfl) rfl ?_
                  refine WL.gon rfl rfl rfl ?_
                  refine WL.v (Runs.move rfl) rfl ?_
                  refine WL.gon rfl rfl rfl ?_
                  refine WL.v (Runs.boolT (c := true) (Runs.eql rfl rfl) (decide_eq_true hs1)) rfl ?_
                  refine WL.gon rfl rfl rfl ?_
                  refine WL.v (Runs.move rfl) rfl ?_
                  refine WL.goff rfl rfl rfl rfl ?_
                  refine WL.goff rfl rfl rfl rfl ?_
                  refine WL.gon rfl rfl rfl ?_
                  refine WL.v (Runs.pick rfl rfl rfl) rfl ?_
                  refine WL.v (Runs.pick rfl rfl rfl) rfl ?_
                  refine WL.nil ?_
                  refine WN.thn ?_
                  refine WC.condT rfl (rfl) ?_
                  refine WC.skip ?_
                  refine WN.thn ?_
                  refine WC.seq ?_
                  refine WC.block ?_
                  refine WC.seq ?_
                  have hkn2 : k < (t.vote (os.getD i o0).n (os.getD i o0).y).2.ns.length := by rw [htn2]; exact hkn
                  have hkr : (ns.getD k 0).toNat < (ys.set (os.getD i o0).n.toNat true).length := by rw [hyl]; have := hok.2.1 k hkn; omega
                  refine WC.reg ?_
                  refine WL.v (Runs.move rfl) rfl ?_
                  refine WL.v (Runs.move rfl) rfl ?_
                  refine WL.v (Runs.move rfl) rfl ?_
                  refine WL.v (Runs.lidxN Try.underlying22 inf3 rfl rfl (n := k) rfl (by omega)) rfl ?_
                  refine WL.v (Runs.loadR (f := Vi) (0 : Int) (hL.weak (Le.trans hG (Le.trans hgb hl3))) hrd (n := k) (by omega) Try.underlying3 rfl rfl) rfl ?_
                  refine WL.v (Runs.valT (u := .pointer (some ⟨yb, (ns.getD k 0).toNat, none⟩)) (Runs.lidx Try.underlying37 inf4 rfl rfl ⟨(hok.2.1 k hkn).1, by have := (hok.2.1 k hkn).2; omega⟩) (by rw [add_mk, Nat.mul_one, Nat.zero_add])) rfl ?_
                  refine WL.v (Runs.boolT (c := true) (Runs.load1 Try.underlying4 rfl rfl ((St_front hL).ocell (i := 0) rfl (ys_at _ hkr))) (hyes k hkn (all_yes hl2 hst hkn2))) rfl ?_
                  refine WL.v (Runs.not rfl) rfl ?_
                  refine WL.nil ?_
                  refine WN.thn ?_
                  refine WC.condF rfl (rfl) ?_
                  refine WC.skip ?_
                  refine WN.blk ?_
                  refine WN.thn ?_
                  refine WC.reg ?_
                  refine WL.v (Runs.move rfl) rfl ?_
                  refine WL.v (Runs.addn rfl rfl (by omega)) rfl ?_
                  refine WL.v (Runs.assign rfl) rfl ?_
                  refine WL.nil ?_
                  exact WN.again (k + 1) (by omega) ⟨rfl, rfl, rfl, rfl, rfl, rfl, rfl, rfl, trivial⟩ ⟨by omega, hL⟩
                · have hst : (t.vote (os.getD i o0).n (os.getD i o0).y).2.state = 1 ∨ (t.vote (os.getD i o0).n (os.getD i o0).y).2.state = 3 := .inr hs3
                  refine WC.reg ?_
                  refine WL.v (Runs.move rfl) rfl ?_
                  refine WL.v (Runs.move rfl) rfl ?_
                  refine WL.v (Runs.llen Try.underlying22 rfl rfl) rfl ?_
                  refine WL.v (Runs.boolT (c := true) (Runs.lss rfl rfl) (by rw [decide_eq_true_eq]; omega)) rfl ?_
                  refine WL.v (Runs.move rfl) rfl ?_
                  refine WL.gon rfl rfl rfl ?_
                  refine WL.v (Runs.move rfl) rfl ?_
                  refine WL.gon rfl rfl rfl ?_
                  refine WL.v (Runs.boolT (c := false) (Runs.eql rfl rfl) (decide_eq_false hs1)) rfl ?_
                  refine WL.gon rfl rfl rfl ?_
                  refine WL.v (Runs.move rfl) rfl ?_
                  refine WL.gon rfl rfl rfl ?_
                  refine WL.v (Runs.move rfl) rfl ?_
                  refine WL.gon rfl rfl rfl ?_
                  refine WL.v (Runs.boolT (c := true) (Runs.eql rfl rfl) (decide_eq_true hs3)) rfl ?_
                  refine WL.gon rfl rfl rfl ?_
                  refine WL.v (Runs.pick rfl rfl rfl) rfl ?_
                  refine WL.v (Runs.pick rfl rfl rfl) rfl ?_
                  refine WL.nil ?_
                  refine WN.thn ?_
                  refine WC.condT rfl (rfl) ?_
                  refine WC.skip ?_
                  refine WN.thn ?_
                  refine WC.seq ?_
                  refine WC.block ?_
                  refine WC.seq ?_
                  have hkn2 : k < (t.vote (os.getD i o0).n (os.getD i o0).y).2.ns.length := by rw [htn2]; exact hkn
                  have hkr : (ns.getD k 0).toNat < (ys.set (os.getD i o0).n.toNat true).length := by rw [hyl]; have := hok.2.1 k hkn; omega
                  refine WC.reg ?_
                  refine WL.v (Runs.move rfl) rfl ?_
                  refine WL.v (Runs.move rfl) rfl ?_
                  refine WL.v (Runs.move rfl) rfl ?_
                  refine WL.v (Runs.lidxN Try.underlying22 inf3 rfl rfl (n := k) rfl (by omega)) rfl ?_
                  refine WL.v (Runs.loadR (f := Vi) (0 : Int) (hL.weak (Le.trans hG (Le.trans hgb hl3))) hrd (n := k) (by omega) Try.underlying3 rfl rfl) rfl ?_
                  refine WL.v (Runs.valT (u := .pointer (some ⟨yb, (ns.getD k 0).toNat, none⟩)) (Runs.lidx Try.underlying37 inf4 rfl rfl ⟨(hok.2.1 k hkn).1, by have := (hok.2.1 k hkn).2; omega⟩) (by rw [add_mk, Nat.mul_one, Nat.zero_add])) rfl ?_
                  refine WL.v (Runs.boolT (c := true) (Runs.load1 Try.underlying4 rfl rfl ((St_front hL).ocell (i := 0) rfl (ys_at _ hkr))) (hyes k hkn (all_yes hl2 hst hkn2))) rfl ?_
                  refine WL.v (Runs.not rfl) rfl ?_
                  refine WL.nil ?_
                  refine WN.thn ?_
                  refine WC.condF rfl (rfl) ?_
                  refine WC.skip ?_
                  refine WN.blk ?_
                  refine WN.thn ?_
                  refine WC.reg ?_
                  refine WL.v (Runs.move rfl) rfl ?_
                  refine WL.v (Runs.addn rfl rfl (by omega)) rfl ?_
                  refine WL.v (Runs.assign rfl) rfl ?_
                  refine WL.nil ?_
                  exact WN.again (k + 1) (by omega) ⟨rfl, rfl, rfl, rfl, rfl, rfl, rfl, rfl, trivial⟩ ⟨by omega, hL⟩
                · skip
                  refine WC.reg ?_
                  refine WL.v (Runs.move rfl) rfl ?_
                  refine WL.v (Runs.move rfl) rfl ?_
                  refine WL.v (Runs.llen Try.underlying22 rfl rfl) rfl ?_
                  refine WL.v (Runs.boolT (c := true) (Runs.lss rfl rfl) (by rw [decide_eq_true_eq]; omega)) rfl ?_
                  refine WL.v (Runs.move rfl) rfl ?_
                  refine WL.gon rfl rfl rfl ?_
                  refine WL.v (Runs.move rfl) rfl ?_
                  refine WL.gon rfl rfl rfl ?_
                  refine WL.v (Runs.boolT (c := false) (Runs.eql rfl rfl) (decide_eq_false hs1)) rfl ?_
                  refine WL.gon rfl rfl rfl ?_
                  refine WL.v (Runs.move rfl) rfl ?_
                  refine WL.gon rfl rfl rfl ?_
                  refine WL.v (Runs.move rfl) rfl ?_
                  refine WL.gon rfl rfl rfl ?_
                  refine WL.v (Runs.boolT (c := false) (Runs.eql rfl rfl) (decide_eq_false hs3)) rfl ?_
                  refine WL.gon rfl rfl rfl ?_
                  refine WL.v (Runs.pick rfl rfl rfl) rfl ?_
                  refine WL.v (Runs.pick rfl rfl rfl) rfl ?_
                  refine WL.nil ?_
                  refine WN.thn ?_
                  refine WC.condF rfl (rfl) ?_
                  refine WC.exit ?_
                  refine WX.thn ?_
                  refine WX.cut ?_
                  refine WX.hit ?_
                  refine WN.thn ?_
                  refine WC.reg ?_
                  refine WL.v (Runs.move rfl) rfl ?_
                  refine WL.v (Runs.assign rfl) rfl ?_
                  refine WL.nil ?_
                  refine WN.blk ?_
                  refine WN.thn ?_
                  refine WC.reg ?_
                  refine WL.v (Runs.move rfl) rfl ?_
                  refine WL.v (Runs.addn rfl rfl (by omega)) rfl ?_
                  refine WL.v (Runs.assign rfl) rfl ?_
                  refine WL.nil ?_
                  exact WN.again (⟨i + 1, _, p3, (t.vote (os.getD i o0).n (os.getD i o0).y).2, (ys.set (os.getD i o0).n.toNat true)⟩ : Nat × Snap × List Res × T × List Bool) (by show os.length - (i + 1) < os.length - i; omega) ⟨rfl, rfl, rfl, rfl, rfl, rfl, trivial⟩ ⟨by show i + 1 ≤ _; omega, Le.trans hG (Le.trans hgb hl3), hp3, htn2, by simpa using hy, hyes, hL⟩
              · skip
                refine WC.reg ?_
                refine WL.v (Runs.move rfl) rfl ?_
                refine WL.v (Runs.move rfl) rfl ?_
                refine WL.v (Runs.boolT (c := true) (Runs.neq rfl rfl) (by rw [decide_eq_false hW0]; rfl)) rfl ?_
                refine WL.v (Runs.move rfl) rfl ?_
                refine WL.gon rfl rfl rfl ?_
                refine WL.v (Runs.move rfl) rfl ?_
                refine WL.gon rfl rfl rfl ?_
                refine WL.v (Runs.boolT (c := true) (Runs.neq rfl rfl) (by rw [hW1]; rfl)) rfl ?_
                refine WL.v (Runs.pick rfl rfl rfl) rfl ?_
                refine WL.v (Runs.move rfl) rfl ?_
                refine WL.gon rfl rfl rfl ?_
                refine WL.v (Runs.move rfl) rfl ?_
                refine WL.gon rfl rfl rfl ?_
                refine WL.v (Runs.boolT (c := false) (Runs.neq rfl rfl) (by rw [decide_eq_true hW1]; rfl)) rfl ?_
                refine WL.gon rfl rfl rfl ?_
                refine WL.v (Runs.move rfl) rfl ?_
                refine WL.gon rfl rfl rfl ?_
                refine WL.v (Runs.move rfl) rfl ?_
                refine WL.gon rfl rfl rfl ?_
                refine WL.v (Runs.boolT (c := false) (Runs.neq rfl rfl) (by rw [decide_eq_true hW]; rfl)) rfl ?_
                refine WL.gon rfl rfl rfl ?_
                refine WL.v (Runs.pick rfl rfl rfl) rfl ?_
                refine WL.v (Runs.pick rfl rfl rfl) rfl ?_
                refine WL.nil ?_
                refine WN.thn ?_
                refine WC.condF rfl (rfl) ?_
                refine WC.skip ?_
                refine WN.thn ?_
                refine WC.seq ?_
                refine WC.seq ?_
                refine WC.reg ?_
                refine WL.v (Runs.assign rfl) rfl ?_
                refine WL.nil ?_
                refine WN.thn ?_
                refine WC.block ?_
                have htn2 : (t.vote (os.getD i o0).n (os.getD i o0).y).2.ns = ns := htn
                have hl2 : (t.vote (os.getD i o0).n (os.getD i o0).y).2.vs.length = (t.vote (os.getD i o0).n (os.getD i o0).y).2.ns.length := hp3.facts.1
                replace hyes : Yes t.ns ys t := by rw [htn]; exact hyes
                replace hyes : Yes ns (ys.set (os.getD i o0).n.toNat true) (t.vote (os.getD i o0).n (os.getD i o0).y).2 := by have := Yes.set (n := (os.getD i o0).n) (y := (os.getD i o0).y) hnd hlv hyes (by omega); rw [htn] at this; exact this
                have hyl : (ys.set (os.getD i o0).n.toNat true).length = 16 := by simp [hy]
                refine WC.loop (σ := Nat) (fun q_ => [(0, .slice (some ad) ns.length cap), (1, .slice (some bd) os.length cap2), (5, .pointer (some ⟨a, 0, none⟩)), (6, .slice (some ⟨yb, 0, none⟩) 16 16), (7, Vi t.state), (8, .int .i64 (i : Int)), (11, Vi (t.vote (os.getD i o0).n (os.getD i o0).y).2.state), (12, .int .i64 (q_ : Int))]) (fun q_ w => q_ ≤ ns.length ∧ St W G3 (p3 ++ ([(yb, .cells ((ys.set (os.getD i o0).n.toNat true).map Value.bool ++ []).toArray 4 (0, 0))] :: cs)) w) (fun q_ => ns.length - q_) (0) (by repeat (first | exact trivial | refine ⟨rfl, ?_⟩)) (⟨by omega, h15⟩) ?_
                rintro k w18 ⟨hkk, hL⟩
                try dsimp only at hkk hL
                refine WC.sub (s := [(0, .slice (some ad) ns.length cap), (1, .slice (some bd) os.length cap2), (5, .pointer (some ⟨a, 0, none⟩)), (6, .slice (some ⟨yb, 0, none⟩) 16 16), (7, Vi t.state), (8, .int .i64 (i : Int)), (11, Vi (t.vote (os.getD i o0).n (os.getD i o0).y).2.state), (12, .int .i64 (k : Int))]) (by repeat (first | exact trivial | refine ⟨rfl, ?_⟩)) ?_
                refine WC.seq ?_
                refine WC.seq ?_
                have hcase : (¬ k < ns.length) ∨ (k < ns.length ∧ (t.vote (os.getD i o0).n (os.getD i o0).y).2.state = 1) ∨ (k < ns.length ∧ (t.vote (os.getD i o0).n (os.getD i o0).y).2.state ≠ 1 ∧ (t.vote (os.getD i o0).n (os.getD i o0).y).2.state = 3) ∨ (k < ns.length ∧ (t.vote (os.getD i o0).n (os.getD i o0).y).2.state ≠ 1 ∧ (t.vote (os.getD i o0).n (os.getD i o0).y).2.state ≠ 3) := by omega
                rcases hcase with hc | ⟨hkn, hs1⟩ | ⟨hkn, hs1, hs3⟩ | ⟨hkn, hs1, hs3⟩
                · skip
                  refine WC.reg ?_
                  refine WL.v (Runs.move rfl) rfl ?_
                  refine WL.v (Runs.move rfl) rfl ?_
                  refine WL.v (Runs.llen Try.underlying22 rfl rfl) rfl ?_
                  refine WL.v (Runs.boolT (c := false) (Runs.lss rfl rfl) (by rw [decide_eq_false_iff_not]; omega)) rfl ?_
                  refine WL.v (Runs.move rfl) rfl ?_
                  refine WL.goff rfl rfl rfl rfl ?_
                  refine WL.goff rfl rfl rfl rfl ?_
                  refine WL.goff rfl rfl rfl rfl ?_
                  refine WL.goffU rfl rfl rfl ?_
                  refine WL.goffU rfl rfl rfl ?_
                  refine WL.goff rfl rfl rfl rfl ?_
                  refine WL.v (Runs.pick rfl rfl rfl) rfl ?_
                  refine WL.nil ?_
                  refine WN.thn ?_
                  refine WC.condF rfl (rfl) ?_
                  refine WC.exit ?_
                  refine WX.thn ?_
                  refine WX.cut ?_
                  refine WX.hit ?_
                  refine WN.thn ?_
                  refine WC.reg ?_
                  refine WL.v (Runs.move rfl) rfl ?_
                  refine WL.v (Runs.assign rfl) rfl ?_
                  refine WL.nil ?_
                  refine WN.blk ?_
                  refine WN.thn ?_
                  refine WC.reg ?_
                  refine WL.v (Runs.move rfl) rfl ?_
                  refine WL.v (Runs.addn rfl rfl (by omega)) rfl ?_
                  refine WL.v (Runs.assign rfl) rfl ?_
                  refine WL.nil ?_
                  exact WN.again (⟨i + 1, _, p3, (t.vote (os.getD i o0).n (os.getD i o0).y).2, (ys.set (os.getD i o0).n.toNat true)⟩ : Nat × Snap × List Res × T × List Bool) (by show os.length - (i + 1) < os.length - i; omega) ⟨rfl, rfl, rfl, rfl, rfl, rfl, trivial⟩ ⟨by show i + 1 ≤ _; omega, Le.trans hG (Le.trans hgb hl3), hp3, htn2, by simpa using hy, hyes, hL⟩
                · have hst : (t.vote (os.getD i o0).n (os.getD i o0).y).2.state = 1 ∨ (t.vote (os.getD i o0).n (os.getD i o0).y).2.state = 3 := .inl hs1
                  refine WC.reg ?_
                  refine WL.v (Runs.move rfl) rfl ?_
                  refine WL.v (Runs.move rfl) rfl ?_
                  refine WL.v (Runs.llen Try.underlying22 rfl rfl) rfl ?_
                  refine WL.v (Runs.boolT (c := true) (Runs.lss rfl rfl) (by rw [decide_eq_true_eq]; omega)) rfl ?_
                  refine WL.v (Runs.move rfl) rfl ?_
                  refine WL.gon rfl rfl rfl ?_
                  refine WL.v (Runs.move rfl) rfl ?_
                  refine WL.gon rfl rfl rfl ?_
                  refine WL.v (Runs.boolT (c := true) (Runs.eql rfl rfl) (decide_eq_true hs1)) rfl ?_
                  refine WL.gon rfl rfl rfl ?_
                  refine WL.v (Runs.move rfl) rfl ?_
                  refine WL.goff rfl rfl rfl rfl ?_
                  refine WL.goff rfl rfl rfl rfl ?_
                  refine WL.gon rfl rfl rfl ?_
                  refine WL.v (Runs.pick rfl rfl rfl) rfl ?_
                  refine WL.v (Runs.pick rfl rfl rfl) rfl ?_
                  refine WL.nil ?_
                  refine WN.thn ?_
                  refine WC.condT rfl (rfl) ?_
                  refine WC.skip ?_
                  refine WN.thn ?_
                  refine WC.seq ?_
                  refine WC.block ?_
                  refine WC.seq ?_
                  have hkn2 : k < (t.vote (os.getD i o0).n (os.getD i o0).y).2.ns.length := by rw [htn2]; exact hkn
                  have hkr : (ns.getD k 0).toNat < (ys.set (os.getD i o0).n.toNat true).length := by rw [hyl]; have := hok.2.1 k hkn; omega
                  refine WC.reg ?_
                  refine WL.v (Runs.move rfl) rfl ?_
                  refine WL.v (Runs.move rfl) rfl ?_
                  refine WL.v (Runs.move rfl) rfl ?_
                  refine WL.v (Runs.lidxN Try.underlying22 inf3 rfl rfl (n := k) rfl (by omega)) rfl ?_
                  refine WL.v (Runs.loadR (f := Vi) (0 : Int) (hL.weak (Le.trans hG (Le.trans hgb hl3))) hrd (n := k) (by omega) Try.underlying3 rfl rfl) rfl ?_
                  refine WL.v (Runs.valT (u := .pointer (some ⟨yb, (ns.getD k 0).toNat, none⟩)) (Runs.lidx Try.underlying37 inf4 rfl rfl ⟨(hok.2.1 k hkn).1, by have := (hok.2.1 k hkn).2; omega⟩) (by rw [add_mk, Nat.mul_one, Nat.zero_add])) rfl ?_
                  refine WL.v (Runs.boolT (c := true) (Runs.load1 Try.underlying4 rfl rfl ((St_front hL).ocell (i := 0) rfl (ys_at _ hkr))) (hyes k hkn (all_yes hl2 hst hkn2))) rfl ?_
                  refine WL.v (Runs.not rfl) rfl ?_
                  refine WL.nil ?_
                  refine WN.thn ?_
                  refine WC.condF rfl (rfl) ?_
                  refine WC.skip ?_
                  refine WN.blk ?_
                  refine WN.thn ?_
                  refine WC.reg ?_
                  refine WL.v (Runs.move rfl) rfl ?_
                  refine WL.v (Runs.addn rfl rfl (by omega)) rfl ?_
                  refine WL.v (Runs.assign rfl) rfl ?_
                  refine WL.nil ?_
                  exact WN.again (k + 1) (by omega) ⟨rfl, rfl, rfl, rfl, rfl, rfl, rfl, rfl, trivial⟩ ⟨by omega, hL⟩
                · have hst : (t.vote (os.getD i o0).n (os.getD i o0).y).2.state = 1 ∨ (t.vote (os.getD i o0).n (os.getD i o0).y).2.state = 3 := .inr hs3
                  refine WC.reg ?_
                  refine WL.v (Runs.move rfl) rfl ?_
                  refine WL.v (Runs.move rfl) rfl ?_
                  refine WL.v (Runs.llen Try.underlying22 rfl rfl) rfl ?_
                  refine WL.v (Runs.boolT (c := true) (Runs.lss rfl rfl) (by rw [decide_eq_true_eq]; omega)) rfl ?_
                  refine WL.v (Runs.move rfl) rfl ?_
                  refine WL.gon rfl rfl rfl ?_
                  refine WL.v (Runs.move rfl) rfl ?_
                  refine WL.gon rfl rfl rfl ?_
                  refine WL.v (Runs.boolT (c := false) (Runs.eql rfl rfl) (decide_eq_false hs1)) rfl ?_
                  refine WL.gon rfl rfl rfl ?_
                  refine WL.v (Runs.move rfl) rfl ?_
                  refine WL.gon rfl rfl rfl ?_
                  refine WL.v (Runs.move rfl) rfl ?_
                  refine WL.gon rfl rfl rfl ?_
                  refine WL.v (Runs.boolT (c := true) (Runs.eql rfl rfl) (decide_eq_true hs3)) rfl ?_
                  refine WL.gon rfl rfl rfl ?_
                  refine WL.v (Runs.pick rfl rfl rfl) rfl ?_
                  refine WL.v (Runs.pick rfl rfl rfl) rfl ?_
                  refine WL.nil ?_
                  refine WN.thn ?_
                  refine WC.condT rfl (rfl) ?_
                  refine WC.skip ?_
                  refine WN.thn ?_
                  refine WC.seq ?_
                  refine WC.block ?_
                  refine WC.seq ?_
                  have hkn2 : k < (t.vote (os.getD i o0).n (os.getD i o0).y).2.ns.length := by rw [htn2]; exact hkn
                  have hkr : (ns.getD k 0).toNat < (ys.set (os.getD i o0).n.toNat true).length := by rw [hyl]; have := hok.2.1 k hkn; omega
                  refine WC.reg ?_
                  refine WL.v (Runs.move rfl) rfl ?_
                  refine WL.v (Runs.move rfl) rfl ?_
                  refine WL.v (Runs.move rfl) rfl ?_
                  refine WL.v (Runs.lidxN Try.underlying22 inf3 rfl rfl (n := k) rfl (by omega)) rfl ?_
                  refine WL.v (Runs.loadR (f := Vi) (0 : Int) (hL.weak (Le.trans hG (Le.trans hgb hl3))) hrd (n := k) (by omega) Try.underlying3 rfl rfl) rfl ?_
                  refine WL.v (Runs.valT (u := .pointer (some ⟨yb, (ns.getD k 0).toNat, none⟩)) (Runs.lidx Try.underlying37 inf4 rfl rfl ⟨(hok.2.1 k hkn).1, by have := (hok.2.1 k hkn).2; omega⟩) (by rw [add_mk, Nat.mul_one, Nat.zero_add])) rfl ?_
                  refine WL.v (Runs.boolT (c := true) (Runs.load1 Try.underlying4 rfl rfl ((St_front hL).ocell (i := 0) rfl (ys_at _ hkr))) (hyes k hkn (all_yes hl2 hst hkn2))) rfl ?_
                  refine WL.v (Runs.not rfl) rfl ?_
                  refine WL.nil ?_
                  refine WN.thn ?_
                  refine WC.condF rfl (rfl) ?_
                  refine WC.skip ?_
                  refine WN.blk ?_
                  refine WN.thn ?_
                  refine WC.reg ?_
                  refine WL.v (Runs.move rfl) rfl ?_
                  refine WL.v (Runs.addn rfl rfl (by omega)) rfl ?_
                  refine WL.v (Runs.assign rfl) rfl ?_
                  refine WL.nil ?_
                  exact WN.again (k + 1) (by omega) ⟨rfl, rfl, rfl, rfl, rfl, rfl, rfl, rfl, trivial⟩ ⟨by omega, hL⟩
                · skip
                  refine WC.reg ?_
                  refine WL.v (Runs.move rfl) rfl ?_
                  refine WL.v (Runs.move rfl) rfl ?_
                  refine WL.v (Runs.llen Try.underlying22 rfl rfl) rfl ?_
                  refine WL.v (Runs.boolT (c := true) (Runs.lss rfl rfl) (by rw [decide_eq_true_eq]; omega)) rfl ?_
                  refine WL.v (Runs.move rfl) rfl ?_
                  refine WL.gon rfl rfl rfl ?_
                  refine WL.v (Runs.move rfl) rfl ?_
                  refine WL.gon rfl rfl rfl ?_
                  refine WL.v (Runs.boolT (c := false) (Runs.eql rfl rfl) (decide_eq_false hs1)) rfl ?_
                  refine WL.gon rfl rfl rfl ?_
                  refine WL.v (Runs.move rfl) rfl ?_
                  refine WL.gon rfl rfl rfl ?_
                  refine WL.v (Runs.move rfl) rfl ?_
                  refine WL.gon rfl rfl rfl ?_
                  refine WL.v (Runs.boolT (c := false) (Runs.eql rfl rfl) (decide_eq_false hs3)) rfl ?_
                  refine WL.gon rfl rfl rfl ?_
                  refine WL.v (Runs.pick rfl rfl rfl) rfl ?_
                  refine WL.v (Runs.pick rfl rfl rfl) rfl ?_
                  refine WL.nil ?_
                  refine WN.thn ?_
                  refine WC.condF rfl (rfl) ?_
                  refine WC.exit ?_
                  refine WX.thn ?_
                  refine WX.cut ?_
                  refine WX.hit ?_
                  refine WN.thn ?_
                  refine WC.reg ?_
                  refine WL.v (Runs.move rfl) rfl ?_
                  refine WL.v (Runs.assign rfl) rfl ?_
                  refine WL.nil ?_
                  refine WN.blk ?_
                  refine WN.thn ?_
                  refine WC.reg ?_
                  refine WL.v (Runs.move rfl) rfl ?_
                  refine WL.v (Runs.addn rfl rfl (by omega)) rfl ?_
                  refine WL.v (Runs.assign rfl) rfl ?_
                  refine WL.nil ?_
                  exact WN.again (⟨i + 1, _, p3, (t.vote (os.getD i o0).n (os.getD i o0).y).2, (ys.set (os.getD i o0).n.toNat true)⟩ : Nat × Snap × List Res × T × List Bool) (by show os.length - (i + 1) < os.length - i; omega) ⟨rfl, rfl, rfl, rfl, rfl, rfl, trivial⟩ ⟨by show i + 1 ≤ _; omega, Le.trans hG (Le.trans hgb hl3), hp3, htn2, by simpa using hy, hyes, hL⟩
            · have hvno : ¬ ((t.vote (os.getD i o0).n (os.getD i o0).y).1 = 0 ∧ (os.getD i o0).y = true) := fun h => by have h2 := h.2; rw [hv.2] at h2; cases h2
              refine WC.reg ?_
              refine WL.v (Runs.move rfl) rfl ?_
              refine WL.v (Runs.boolT (c := true) (Runs.eql rfl rfl) (decide_eq_true hv.1)) rfl ?_
              refine WL.v (Runs.move rfl) rfl ?_
              refine WL.gon rfl rfl rfl ?_
              refine WL.v (Runs.fld fld31_2 rfl) rfl ?_
              refine WL.gon rfl rfl rfl ?_
              refine WL.v (Runs.boolT (c := false) (Runs.load1 Try.underlying4 rfl rfl (h13.cell (cellF_le hl3 hk2))) hv.2) rfl ?_
              refine WL.v (Runs.pick rfl rfl rfl) rfl ?_
              refine WL.nil ?_
              refine WN.thn ?_
              refine WC.condF rfl (rfl) ?_
              refine WC.skip ?_
              refine WN.thn ?_
              refine WC.seq ?_
              refine WC.reg ?_
              refine WL.v (Runs.move rfl) rfl ?_
              refine WL.call can13 rfl rfl (tstate_t _ h13 hp3) ?_
              rintro _ w19 ⟨rfl, h19⟩
              refine ⟨_, rfl, ?_⟩
              refine WL.v (Runs.assign rfl) rfl ?_
              refine WL.nil ?_
              refine WN.thn ?_
              refine WC.seq ?_
              refine WC.seq ?_
              rcases way_v t (os.getD i o0).n (os.getD i o0).y with hW | ⟨hW0, hW⟩ | ⟨hW0, hW1, hW⟩
              · skip
                refine WC.reg ?_
                refine WL.v (Runs.move rfl) rfl ?_
                refine WL.v (Runs.move rfl) rfl ?_
                refine WL.v (Runs.boolT (c := false) (Runs.neq rfl rfl) (by rw [decide_eq_true hW]; rfl)) rfl ?_
                refine WL.v (Runs.move rfl) rfl ?_
                refine WL.goff rfl rfl rfl rfl ?_
                refine WL.goff rfl rfl rfl rfl ?_
                refine WL.v (Runs.pick rfl rfl rfl) rfl ?_
                refine WL.v (Runs.move rfl) rfl ?_
                refine WL.goff rfl rfl rfl rfl ?_
                refine WL.goff rfl rfl rfl rfl ?_
                refine WL.goff rfl rfl rfl rfl ?_
                refine WL.goffU rfl rfl rfl ?_
                refine WL.goffU rfl rfl rfl ?_
                refine WL.goff rfl rfl rfl rfl ?_
                refine WL.v (Runs.pick rfl rfl rfl) rfl ?_
                refine WL.nil ?_
                refine WN.thn ?_
                refine WC.condF rfl (rfl) ?_
                refine WC.skip ?_
                refine WN.thn ?_
                refine WC.seq ?_
                refine WC.seq ?_
                refine WC.reg ?_
                refine WL.v (Runs.assign rfl) rfl ?_
                refine WL.nil ?_
                refine WN.thn ?_
                refine WC.block ?_
                have htn2 : (t.vote (os.getD i o0).n (os.getD i o0).y).2.ns = ns := htn
                have hl2 : (t.vote (os.getD i o0).n (os.getD i o0).y).2.vs.length = (t.vote (os.getD i o0).n (os.getD i o0).y).2.ns.length := hp3.facts.1
                replace hyes : Yes t.ns ys t := by rw [htn]; exact hyes
                replace hyes : Yes ns ys (t.vote (os.getD i o0).n (os.getD i o0).y).2 := by have := Yes.vote (n := (os.getD i o0).n) (y := (os.getD i o0).y) hnd hlv hyes hvno; rw [htn] at this; exact this
                have hyl : ys.length = 16 := by simp [hy]
                refine WC.loop (σ := Nat) (fun q_ => [(0, .slice (some ad) ns.length cap), (1, .slice (some bd) os.length cap2), (5, .pointer (some ⟨a, 0, none⟩)), (6, .slice (some ⟨yb, 0, none⟩) 16 16), (7, Vi t.state), (8, .int .i64 (i : Int)), (11, Vi (t.vote (os.getD i o0).n (os.getD i o0).y).2.state), (12, .int .i64 (q_ : Int))]) (fun q_ w => q_ ≤ ns.length ∧ St W G3 (p3 ++ ([(yb, .cells (ys.map Value.bool ++ []).toArray 4 (0, 0))] :: cs)) w) (fun q_ => ns.length - q_) (0) (by repeat (first | exact trivial | refine ⟨rfl, ?_⟩)) (⟨by omega, h19⟩) ?_
                rintro k w20 ⟨hkk, hL⟩
                try dsimp only at hkk hL
                refine WC.sub (s := [(0, .slice (some ad) ns.length cap), (1, .slice (some bd) os.length cap2), (5, .pointer (some ⟨a, 0, none⟩)), (6, .slice (some ⟨yb, 0, none⟩) 16 16), (7, Vi t.state), (8, .int .i64 (i : Int)), (11, Vi (t.vote (os.getD i o0).n (os.getD i o0).y).2.state), (12, .int .i64 (k : Int))]) (by repeat (first | exact trivial | refine ⟨rfl, ?_⟩)) ?_
                refine WC.seq ?_
                refine WC.seq ?_
                have hcase : (¬ k < ns.length) ∨ (k < ns.length ∧ (t.vote (os.getD i o0).n (os.getD i o0).y).2.state = 1) ∨ (k < ns.length ∧ (t.vote (os.getD i o0).n (os.getD i o0).y).2.state ≠ 1 ∧ (t.vote (os.getD i o0).n (os.getD i o0).y).2.state = 3) ∨ (k < ns.length ∧ (t.vote (os.getD i o0).n (os.getD i o0).y).2.state ≠ 1 ∧ (t.vote (os.getD i o0).n (os.getD i o0).y).2.state ≠ 3) := by omega
                rcases hcase with hc | ⟨hkn, hs1⟩ | ⟨hkn, hs1, hs3⟩ | ⟨hkn, hs1, hs3⟩
                · skip
                  refine WC.reg ?_
                  refine WL.v (Runs.move rfl) rfl ?_
                  refine WL.v (Runs.move rfl) rfl ?_
                  refine WL.v (Runs.llen Try.underlying22 rfl rfl) rfl ?_
                  refine WL.v (Runs.boolT (c := false) (Runs.lss rfl rfl) (by rw [decide_eq_false_iff_not]; omega)) rfl ?_
                  refine WL.v (Runs.move rfl) rfl ?_
                  refine WL.goff rfl rfl rfl rfl ?_
                  refine WL.goff rfl rfl rfl rfl ?_
                  refine WL.goff rfl rfl rfl rfl ?_
                  refine WL.goffU rfl rfl rfl ?_
                  refine WL.goffU rfl rfl rfl ?_
                  refine WL.goff rfl rfl rfl rfl ?_
                  refine WL.v (Runs.pick rfl rfl rfl) rfl ?_
                  refine WL.nil ?_
                  refine WN.thn ?_
                  refine WC.condF rfl (rfl) ?_
                  refine WC.exit ?_
                  refine WX.thn ?_
                  refine WX.cut ?_
                  refine WX.hit ?_
                  refine WN.thn ?_
                  refine WC.reg ?_
                  refine WL.v (Runs.move rfl) rfl ?_
                  refine WL.v (Runs.assign rfl) rfl ?_
                  refine WL.nil ?_
                  refine WN.blk ?_
                  refine WN.thn ?_
                  refine WC.reg ?_
                  refine WL.v (Runs.move rfl) rfl ?_
                  refine WL.v (Runs.addn rfl rfl (by omega)) rfl ?_
                  refine WL.v (Runs.assign rfl) rfl ?_
                  refine WL.nil ?_
                  exact WN.again (⟨i + 1, _, p3, (t.vote (os.getD i o0).n (os.getD i o0).y).2, ys⟩ : Nat × Snap × List Res × T × List Bool) (by show os.length - (i + 1) < os.length - i; omega) ⟨rfl, rfl, rfl, rfl, rfl, rfl, trivial⟩ ⟨by show i + 1 ≤ _; omega, Le.trans hG (Le.trans hgb hl3), hp3, htn2, by simpa using hy, hyes, hL⟩
                · have hst : (t.vote (os.getD i o0).n (os.getD i o0).y).2.state = 1 ∨ (t.vote (os.getD i o0).n (os.getD i o0).y).2.state = 3 := .inl hs1
                  refine WC.reg ?_
                  refine WL.v (Runs.move rfl) rfl ?_
                  refine WL.v (Runs.move rfl) rfl ?_
                  refine WL.v (Runs.llen Try.underlying22 rfl rfl) rfl ?_
                  refine WL.v (Runs.boolT (c := true) (Runs.lss rfl rfl) (by rw [decide_eq_true_eq]; omega)) rfl ?_
                  refine WL.v (Runs.move rfl) rfl ?_
                  refine WL.gon rfl rfl rfl ?_
                  refine WL.v (Runs.move rfl) rfl ?_
                  refine WL.gon rfl rfl rfl ?_
                  refine WL.v (Runs.boolT (c := true) (Runs.eql rfl rfl) (decide_eq_true hs1)) rfl ?_
                  refine WL.gon rfl rfl rfl ?_
                  refine WL.v (Runs.move rfl) rfl ?_
                  refine WL.goff rfl rfl rfl rfl ?_
                  refine WL.goff rfl rfl rfl rfl ?_
                  refine WL.gon rfl rfl rfl ?_
                  refine WL.v (Runs.pick rfl rfl rfl) rfl ?_
                  refine WL.v (Runs.pick rfl rfl rfl) rfl ?_
                  refine WL.nil ?_
                  refine WN.thn ?_
                  refine WC.condT rfl (rfl) ?_
                  refine WC.skip ?_
                  refine WN.thn ?_
                  refine WC.seq ?_
                  refine WC.block ?_
                  refine WC.seq ?_
                  have hkn2 : k < (t.vote (os.getD i o0).n (os.getD i o0).y).2.ns.length := by rw [htn2]; exact hkn
                  have hkr : (ns.getD k 0).toNat < ys.length := by rw [hyl]; have := hok.2.1 k hkn; omega
                  refine WC.reg ?_
                  refine WL.v (Runs.move rfl) rfl ?_
                  refine WL.v (Runs.move rfl) rfl ?_
                  refine WL.v (Runs.move rfl) rfl ?_
                  refine WL.v (Runs.lidxN Try.underlying22 inf3 rfl rfl (n := k) rfl (by omega)) rfl ?_
                  refine WL.v (Runs.loadR (f := Vi) (0 : Int) (hL.weak (Le.trans hG (Le.trans hgb hl3))) hrd (n := k) (by omega) Try.underlying3 rfl rfl) rfl ?_
                  refine WL.v (Runs.valT (u := .pointer (some ⟨yb, (ns.getD k 0).toNat, none⟩)) (Runs.lidx Try.underlying37 inf4 rfl rfl ⟨(hok.2.1 k hkn).1, by have := (hok.2.1 k hkn).2; omega⟩) (by rw [add_mk, Nat.mul_one, Nat.zero_add])) rfl ?_
                  refine WL.v (Runs.boolT (c := true) (Runs.load1 Try.underlying4 rfl rfl ((St_front hL).ocell (i := 0) rfl (ys_at _ hkr))) (hyes k hkn (all_yes hl2 hst hkn2))) rfl ?_
                  refine WL.v (Runs.not rfl) rfl ?_
                  refine WL.nil ?_
                  refine WN.thn ?_
                  refine WC.condF rfl (rfl) ?_
                  refine WC.skip ?_
                  refine WN.blk ?_
                  refine WN.thn ?_
                  refine WC.reg ?_
                  refine WL.v (Runs.move rfl) rfl ?_
                  refine WL.v (Runs.addn rfl rfl (by omega)) rfl ?_
                  refine WL.v (Runs.assign rfl) rfl ?_
                  refine WL.nil ?_
                  exact WN.again (k + 1) (by omega) ⟨rfl, rfl, rfl, rfl, rfl, rfl, rfl, rfl, trivial⟩ ⟨by omega, hL⟩
                · have hst : (t.vote (os.getD i o0).n (os.getD i o0).y).2.state = 1 ∨ (t.vote (os.getD i o0).n (os.getD i o0).y).2.state = 3 := .inr hs3
                  refine WC.reg ?_
                  refine WL.v (Runs.move rfl) rfl ?_
                  refine WL.v (Runs.move rfl) rfl ?_
                  refine WL.v (Runs.llen Try.underlying22 rfl rfl) rfl ?_
                  refine WL.v (Runs.boolT (c := true) (Runs.lss rfl rfl) (by rw [decide_eq_true_eq]; omega)) rfl ?_
                  refine WL.v (Runs.move rfl) rfl ?_
                  refine WL.gon rfl rfl rfl ?_
                  refine WL.v (Runs.move rfl) rfl ?_
                  refine WL.gon rfl rfl rfl ?_
                  refine WL.v (Runs.boolT (c := false) (Runs.eql rfl rfl) (decide_eq_false hs1)) rfl ?_
                  refine WL.gon rfl rfl rfl ?_
                  refine WL.v (Runs.move rfl) rfl ?_
                  refine WL.gon rfl rfl rfl ?_
                  refine WL.v (Runs.move rfl) rfl ?_
                  refine WL.gon rfl rfl rfl ?_
                  refine WL.v (Runs.boolT (c := true) (Runs.eql rfl rfl) (decide_eq_true hs3)) rfl ?_
                  refine WL.gon rfl rfl rfl ?_
                  refine WL.v (Runs.pick rfl rfl rfl) rfl ?_
                  refine WL.v (Runs.pick rfl rfl rfl) rfl ?_
                  refine WL.nil ?_
                  refine WN.thn ?_
                  refine WC.condT rfl (rfl) ?_
                  refine WC.skip ?_
                  refine WN.thn ?_
                  refine WC.seq ?_
                  refine WC.block ?_
                  refine WC.seq ?_
                  have hkn2 : k < (t.vote (os.getD i o0).n (os.getD i o0).y).2.ns.length := by rw [htn2]; exact hkn
                  have hkr : (ns.getD k 0).toNat < ys.length := by rw [hyl]; have := hok.2.1 k hkn; omega
                  refine WC.reg ?_
                  refine WL.v (Runs.move rfl) rfl ?_
                  refine WL.v (Runs.move rfl) rfl ?_
                  refine WL.v (Runs.move rfl) rfl ?_
                  refine WL.v (Runs.lidxN Try.underlying22 inf3 rfl rfl (n := k) rfl (by omega)) rfl ?_
                  refine WL.v (Runs.loadR (f := Vi) (0 : Int) (hL.weak (Le.trans hG (Le.trans hgb hl3))) hrd (n := k) (by omega) Try.underlying3 rfl rfl) rfl ?_
                  refine WL.v (Runs.valT (u := .pointer (some ⟨yb, (ns.getD k 0).toNat, none⟩)) (Runs.lidx Try.underlying37 inf4 rfl rfl ⟨(hok.2.1 k hkn).1, by have := (hok.2.1 k hkn).2; omega⟩) (by rw [add_mk, Nat.mul_one, Nat.zero_add])) rfl ?_
                  refine WL.v (Runs.boolT (c := true) (Runs.load1 Try.underlying4 rfl rfl ((St_front hL).ocell (i := 0) rfl (ys_at _ hkr))) (hyes k hkn (all_yes hl2 hst hkn2))) rfl ?_
                  refine WL.v (Runs.not rfl) rfl ?_
                  refine WL.nil ?_
                  refine WN.thn ?_
                  refine WC.condF rfl (rfl) ?_
                  refine WC.skip ?_
                  refine WN.blk ?_
                  refine WN.thn ?_
                  refine WC.reg ?_
                  refine WL.v (Runs.move rfl) rfl ?_
                  refine WL.v (Runs.addn rfl rfl (by omega)) rfl ?_
                  refine WL.v (Runs.assign rfl) rfl ?_
                  refine WL.nil ?_
                  exact WN.again (k + 1) (by omega) ⟨rfl, rfl, rfl, rfl, rfl, rfl, rfl, rfl, trivial⟩ ⟨by omega, hL⟩
                · skip
                  refine WC.reg ?_
                  refine WL.v (Runs.move rfl) rfl ?_
                  refine WL.v (Runs.move rfl) rfl ?_
                  refine WL.v (Runs.llen Try.underlying22 rfl rfl) rfl ?_
                  refine WL.v (Runs.boolT (c := true) (Runs.lss rfl rfl) (by rw [decide_eq_true_eq]; omega)) rfl ?_
                  refine WL.v (Runs.move rfl) rfl ?_
                  refine WL.gon rfl rfl rfl ?_
                  refine WL.v (Runs.move rfl) rfl ?_
                  refine WL.gon rfl rfl rfl ?_
                  refine WL.v (Runs.boolT (c := false) (Runs.eql rfl rfl) (decide_eq_false hs1)) rfl ?_
                  refine WL.gon rfl rfl rfl ?_
                  refine WL.v (Runs.move rfl) rfl ?_
                  refine WL.gon rfl rfl rfl ?_
                  refine WL.v (Runs.move rfl) rfl ?_
                  refine WL.gon rfl rfl rfl ?_
                  refine WL.v (Runs.boolT (c := false) (Runs.eql rfl rfl) (decide_eq_false hs3)) rfl ?_
                  refine WL.gon rfl rfl rfl ?_
                  refine WL.v (Runs.pick rfl rfl rfl) rfl ?_
                  refine WL.v (Runs.pick rfl rfl rfl) rfl ?_
                  refine WL.nil ?_
                  refine WN.thn ?_
                  refine WC.condF rfl (rfl) ?_
                  refine WC.exit ?_
                  refine WX.thn ?_
                  refine WX.cut ?_
                  refine WX.hit ?_
                  refine WN.thn ?_
                  refine WC.reg ?_
                  refine WL.v (Runs.move rfl) rfl ?_
                  refine WL.v (Runs.assign rfl) rfl ?_
                  refine WL.nil ?_
                  refine WN.blk ?_
                  refine WN.thn ?_
                  refine WC.reg ?_
                  refine WL.v (Runs.move rfl) rfl ?_
                  refine WL.v (Runs.addn rfl rfl (by omega)) rfl ?_
                  refine WL.v (Runs.assign rfl) rfl ?_
                  refine WL.nil ?_
                  exact WN.again (⟨i + 1, _, p3, (t.vote (os.getD i o0).n (os.getD i o0).y).2, ys⟩ : Nat × Snap × List Res × T × List Bool) (by show os.length - (i + 1) < os.length - i; omega) ⟨rfl, rfl, rfl, rfl, rfl, rfl, trivial⟩ ⟨by show i + 1 ≤ _; omega, Le.trans hG (Le.trans hgb hl3), hp3, htn2, by simpa using hy, hyes, hL⟩
              · skip
                refine WC.reg ?_
                refine WL.v (Runs.move rfl) rfl ?_
                refine WL.v (Runs.move rfl) rfl ?_
                refine WL.v (Runs.boolT (c := true) (Runs.neq rfl rfl) (by rw [decide_eq_false hW0]; rfl)) rfl ?_
                refine WL.v (Runs.move rfl) rfl ?_
                refine WL.gon rfl rfl rfl ?_
                refine WL.v (Runs.move rfl) rfl ?_
                refine WL.gon rfl rfl rfl ?_
                refine WL.v (Runs.boolT (c := false) (Runs.neq rfl rfl) (by rw [decide_eq_true hW]; rfl)) rfl ?_
                refine WL.v (Runs.pick rfl rfl rfl) rfl ?_
                refine WL.v (Runs.move rfl) rfl ?_
                refine WL.goff rfl rfl rfl rfl ?_
                refine WL.goff rfl rfl rfl rfl ?_
                refine WL.goff rfl rfl rfl rfl ?_
                refine WL.goffU rfl rfl rfl ?_
                refine WL.goffU rfl rfl rfl ?_
                refine WL.goff rfl rfl rfl rfl ?_
                refine WL.v (Runs.pick rfl rfl rfl) rfl ?_
                refine WL.nil ?_
                refine WN.thn ?_
                refine WC.condF rfl (rfl) ?_
                refine WC.skip ?_
                refine WN.thn ?_
                refine WC.seq ?_
                refine WC.seq ?_
                refine WC.reg ?_
                refine WL.v (Runs.assign rfl) rfl ?_
                refine WL.nil ?_
                refine WN.thn ?_
                refine WC.block ?_
                have htn2 : (t.vote (os.getD i o0).n (os.getD i o0).y).2.ns = ns := htn
                have hl2 : (t.vote (os.getD i o0).n (os.getD i o0).y).2.vs.length = (t.vote (os.getD i o0).n (os.getD i o0).y).2.ns.length := hp3.facts.1
                replace hyes : Yes t.ns ys t := by rw [htn]; exact hyes
                replace hyes : Yes ns ys (t.vote (os.getD i o0).n (os.getD i o0).y).2 := by have := Yes.vote (n := (os.getD i o0).n) (y := (os.getD i o0).y) hnd hlv hyes hvno; rw [htn] at this; exact this
                have hyl : ys.length = 16 := by simp [hy]
                refine WC.loop (σ := Nat) (fun q_ => [(0, .slice (some ad) ns.length cap), (1, .slice (some bd) os.length cap2), (5, .pointer (some ⟨a, 0, none⟩)), (6, .slice (some ⟨yb, 0, none⟩) 16 16), (7, Vi t.state), (8, .int .i64 (i : Int)), (11, Vi (t.vote (os.getD i o0).n (os.getD i o0).y).2.state), (12, .int .i64 (q_ : Int))]) (fun q_ w => q_ ≤ ns.length ∧ St W G3 (p3 ++ ([(yb, .cells (ys.map Value.bool ++ []).toArray 4 (0, 0))] :: cs)) w) (fun q_ => ns.length - q_) (0) (by repeat (first | exact trivial | refine ⟨rfl, ?_⟩)) (⟨by omega, h19⟩) ?_
                rintro k w21 ⟨hkk, hL⟩
                try dsimp only at hkk hL
                refine WC.sub (s := [(0, .slice (some ad) ns.length cap), (1, .slice (some bd) os.length cap2), (5, .pointer (some ⟨a, 0, none⟩)), (6, .slice (some ⟨yb, 0, none⟩) 16 16), (7, Vi t.state), (8, .int .i64 (i : Int)), (11, Vi (t.vote (os.getD i o0).n (os.getD i o0).y).2.state), (12, .int .i64 (k : Int))]) (by repeat (first | exact trivial | refine ⟨rfl, ?_⟩)) ?_
                refine WC.seq ?_
                refine WC.seq ?_
                have hcase : (¬ k < ns.length) ∨ (k < ns.length ∧ (t.vote (os.getD i o0).n (os.getD i o0).y).2.state = 1) ∨ (k < ns.length ∧ (t.vote (os.getD i o0).n (os.getD i o0).y).2.state ≠ 1 ∧ (t.vote (os.getD i o0).n (os.getD i o0).y).2.state = 3) ∨ (k < ns.length ∧ (t.vote (os.getD i o0).n (os.getD i o0).y).2.state ≠ 1 ∧ (t.vote (os.getD i o0).n (os.getD i o0).y).2.state ≠ 3) := by omega
                rcases hcase with hc | ⟨hkn, hs1⟩ | ⟨hkn, hs1, hs3⟩ | ⟨hkn, hs1, hs3⟩
                · skip
                  refine WC.reg ?_
                  refine WL.v (Runs.move rfl) rfl ?_
                  refine WL.v (Runs.move rfl) rfl ?_
                  refine WL.v (Runs.llen Try.underlying22 rfl rfl) rfl ?_
                  refine WL.v (Runs.boolT (c := false) (Runs.lss rfl rfl) (by rw [decide_eq_false_iff_not]; omega)) rfl ?_
                  refine WL.v (Runs.move rfl) rfl ?_
                  refine WL.goff rfl rfl rfl rfl ?_
                  refine WL.goff rfl rfl rfl rfl ?_
                  refine WL.goff rfl rfl rfl rfl ?_
                  refine WL.goffU rfl rfl rfl ?_
                  refine WL.goffU rfl rfl rfl ?_
                  refine WL.goff rfl rfl rfl rfl ?_
                  refine WL.v (Runs.pick rfl rfl rfl) rfl ?_
                  refine WL.nil ?_
                  refine WN.thn ?_
                  refine WC.condF rfl (rfl) ?_
                  refine WC.exit ?_
                  refine WX.thn ?_
                  refine WX.cut ?_
                  refine WX.hit ?_
                  refine WN.thn ?_
                  refine WC.reg ?_
                  refine WL.v (Runs.move rfl) rfl ?_
                  refine WL.v (Runs.assign rfl) rfl ?_
                  refine WL.nil ?_
                  refine WN.blk ?_
                  refine WN.thn ?_
                  refine WC.reg ?_
                  refine WL.v (Runs.move rfl) rfl ?_
                  refine WL.v (Runs.addn rfl rfl (by omega)) rfl ?_
                  refine WL.v (Runs.assign rfl) rfl ?_
                  refine WL.nil ?_
                  exact WN.again (⟨i + 1, _, p3, (t.vote (os.getD i o0).n (os.getD i o0).y).2, ys⟩ : Nat × Snap × List Res × T × List Bool) (by show os.length - (i + 1) < os.length - i; omega) ⟨rfl, rfl, rfl, rfl, rfl, rfl, trivial⟩ ⟨by show i + 1 ≤ _; omega, Le.trans hG (Le.trans hgb hl3), hp3, htn2, by simpa using hy, hyes, hL⟩
                · have hst : (t.vote (os.getD i o0).n (os.getD i o0).y).2.state = 1 ∨ (t.vote (os.getD i o0).n (os.getD i o0).y).2.state = 3 := .inl hs1
                  refine WC.reg ?_
                  refine WL.v (Runs.move rfl) rfl ?_
                  refine WL.v (Runs.move rfl) rfl ?_
                  refine WL.v (Runs.llen Try.underlying22 rfl rfl) rfl ?_
                  refine WL.v (Runs.boolT (c := true) (Runs.lss rfl rfl) (by rw [decide_eq_true_eq]; omega)) rfl ?_
                  refine WL.v (Runs.move rfl) rfl ?_
                  refine WL.gon rfl rfl rfl ?_
                  refine WL.v (Runs.move rfl) rfl ?_
                  refine WL.gon rfl rfl rfl ?_
                  refine WL.v (Runs.boolT (c := true) (Runs.eql rfl rfl) (decide_eq_true hs1)) rfl ?_
                  refine WL.gon rfl rfl rfl ?_
                  refine WL.v (Runs.move rfl) rfl ?_
                  refine WL.goff rfl rfl rfl rfl ?_
                  refine WL.goff rfl rfl rfl rfl ?_
                  refine WL.gon rfl rfl rfl ?_
                  refine WL.v (Runs.pick rfl rfl rfl) rfl ?_
                  refine WL.v (Runs.pick rfl rfl rfl) rfl ?_
                  refine WL.nil ?_
                  refine WN.thn ?_
                  refine WC.condT rfl (rfl) ?_
                  refine WC.skip ?_
                  refine WN.thn ?_
                  refine WC.seq ?_
                  refine WC.block ?_
                  refine WC.seq ?_
                  have hkn2 : k < (t.vote (os.getD i o0).n (os.getD i o0).y).2.ns.length := by rw [htn2]; exact hkn
                  have hkr : (ns.getD k 0).toNat < ys.length := by rw [hyl]; have := hok.2.1 k hkn; omega
                  refine WC.reg ?_
                  refine WL.v (Runs.move rfl) rfl ?_
                  refine WL.v (Runs.move rfl) rfl ?_
                  refine WL.v (Runs.move rfl) rfl ?_
                  refine WL.v (Runs.lidxN Try.underlying22 inf3 rfl rfl (n := k) rfl (by omega)) rfl ?_
                  refine WL.v (Runs.loadR (f := Vi) (0 : Int) (hL.weak (Le.trans hG (Le.trans hgb hl3))) hrd (n := k) (by omega) Try.underlying3 rfl rfl) rfl ?_
                  refine WL.v (Runs.valT (u := .pointer (some ⟨yb, (ns.getD k 0).toNat, none⟩)) (Runs.lidx Try.underlying37 inf4 rfl rfl ⟨(hok.2.1 k hkn).1, by have := (hok.2.1 k hkn).2; omega⟩) (by rw [add_mk, Nat.mul_one, Nat.zero_add])) rfl ?_
                  refine WL.v (Runs.boolT (c := true) (Runs.load1 Try.underlying4 rfl rfl ((St_front hL).ocell (i := 0) rfl (ys_at _ hkr))) (hyes k hkn (all_yes hl2 hst hkn2))) rfl ?_
                  refine WL.v (Runs.not rfl) rfl ?_
                  refine WL.nil ?_
                  refine WN.thn ?_
                  refine WC.condF rfl (rfl) ?_
                  refine WC.skip ?_
                  refine WN.blk ?_
                  refine WN.thn ?_
                  refine WC.reg ?_
                  refine WL.v (Runs.move rfl) rfl ?_
                  refine WL.v (Runs.addn rfl rfl (by omega)) rfl ?_
                  refine WL.v (Runs.assign rfl) rfl ?_
                  refine WL.nil ?_
                  exact WN.again (k + 1) (by omega) ⟨rfl, rfl, rfl, rfl, rfl, rfl, rfl, rfl, trivial⟩ ⟨by omega, hL⟩
                · have hst : (t.vote (os.getD i o0).n (os.getD i o0).y).2.state = 1 ∨ (t.vote (os.getD i o0).n (os.getD i o0).y).2.state = 3 := .inr hs3
                  refine WC.reg ?_
                  refine WL.v (Runs.move rfl) rfl ?_
                  refine WL.v (Runs.move rfl) rfl ?_
                  refine WL.v (Runs.llen Try.underlying22 rfl rfl) rfl ?_
                  refine WL.v (Runs.boolT (c := true) (Runs.lss rfl rfl) (by rw [decide_eq_true_eq]; omega)) rfl ?_
                  refine WL.v (Runs.move rfl) rfl ?_
                  refine WL.gon rfl rfl rfl ?_
                  refine WL.v (Runs.move rfl) rfl ?_
                  refine WL.gon rfl rfl rfl ?_
                  refine WL.v (Runs.boolT (c := false) (Runs.eql rfl rfl) (decide_eq_false hs1)) rfl ?_
                  refine WL.gon rfl rfl rfl ?_
                  refine WL.v (Runs.move rfl) rfl ?_
                  refine WL.gon rfl rfl rfl ?_
                  refine WL.v (Runs.move rfl) rfl ?_
                  refine WL.gon rfl rfl rfl ?_
                  refine WL.v (Runs.boolT (c := true) (Runs.eql rfl rfl) (decide_eq_true hs3)) rfl ?_
                  refine WL.gon rfl rfl rfl ?_
                  refine WL.v (Runs.pick rfl rfl rfl) rfl ?_
                  refine WL.v (Runs.pick rfl rfl rfl) rfl ?_
                  refine WL.nil ?_
                  refine WN.thn ?_
                  refine WC.condT rfl (rfl) ?_
                  refine WC.skip ?_
                  refine WN.thn ?_
                  refine WC.seq ?_
                  refine WC.block ?_
                  refine WC.seq ?_
                  have hkn2 : k < (t.vote (os.getD i o0).n (os.getD i o0).y).2.ns.length := by rw [htn2]; exact hkn
                  have hkr : (ns.getD k 0).toNat < ys.length := by rw [hyl]; have := hok.2.1 k hkn; omega
                  refine WC.reg ?_
                  refine WL.v (Runs.move rfl) rfl ?_
                  refine WL.v (Runs.move rfl) rfl ?_
                  refine WL.v (Runs.move rfl) rfl ?_
                  refine WL.v (Runs.lidxN Try.underlying22 inf3 rfl rfl (n := k) rfl (by omega)) rfl ?_
                  refine WL.v (Runs.loadR (f := Vi) (0 : Int) (hL.weak (Le.trans hG (Le.trans hgb hl3))) hrd (n := k) (by omega) Try.underlying3 rfl rfl) rfl ?_
                  refine WL.v (Runs.valT (u := .pointer (some ⟨yb, (ns.getD k 0).toNat, none⟩)) (Runs.lidx Try.underlying37 inf4 rfl rfl ⟨(hok.2.1 k hkn).1, by have := (hok.2.1 k hkn).2; omega⟩) (by rw [add_mk, Nat.mul_one, Nat.zero_add])) rfl ?_
                  refine WL.v (Runs.boolT (c := true) (Runs.load1 Try.underlying4 rfl rfl ((St_front hL).ocell (i := 0) rfl (ys_at _ hkr))) (hyes k hkn (all_yes hl2 hst hkn2))) rfl ?_
                  refine WL.v (Runs.not rfl) rfl ?_
                  refine WL.nil ?_
                  refine WN.thn ?_
                  refine WC.condF rfl (rfl) ?_
                  refine WC.skip ?_
                  refine WN.blk ?_
                  refine WN.thn ?_
                  refine WC.reg ?_
                  refine WL.v (Runs.move rfl) rfl ?_
                  refine WL.v (Runs.addn rfl rfl (by omega)) rfl ?_
                  refine WL.v (Runs.assign rfl) rfl ?_
                  refine WL.nil ?_
                  exact WN.again (k + 1) (by omega) ⟨rfl, rfl, rfl, rfl, rfl, rfl, rfl, rfl, trivial⟩ ⟨by omega, hL⟩
                · skip
                  refine WC.reg ?_
                  refine WL.v (Runs.move rfl) rfl ?_
                  refine WL.v (Runs.move rfl) rfl ?_
                  refine WL.v (Runs.llen Try.underlying22 rfl rfl) rfl ?_
                  refine WL.v (Runs.boolT (c := true) (Runs.lss rfl rfl) (by rw [decide_eq_true_eq]; omega)) rfl ?_
                  refine WL.v (Runs.move rfl) rfl ?_
                  refine WL.gon rfl rfl rfl ?_
                  refine WL.v (Runs.move rfl) rfl ?_
                  refine WL.gon rfl rfl rfl ?_
                  refine WL.v (Runs.boolT (c := false) (Runs.eql rfl rfl) (decide_eq_false hs1)) rfl ?_
                  refine WL.gon rfl rfl rfl ?_
                  refine WL.v (Runs.move rfl) rfl ?_
                  refine WL.gon rfl rfl rfl ?_
                  refine WL.v (Runs.move rfl) rfl ?_
                  refine WL.gon rfl rfl rfl ?_
                  refine WL.v (Runs.boolT (c := false) (Runs.eql rfl rfl) (decide_eq_false hs3)) rfl ?_
                  refine WL.gon rfl rfl rfl ?_
                  refine WL.v (Runs.pick rfl rfl rfl) rfl ?_
                  refine WL.v (Runs.pick rfl rfl rfl) rfl ?_
                  refine WL.nil ?_
                  refine WN.thn ?_
                  refine WC.condF rfl (rfl) ?_
                  refine WC.exit ?_
                  refine WX.thn ?_
                  refine WX.cut ?_
                  refine WX.hit ?_
                  refine WN.thn ?_
                  refine WC.reg ?_
                  refine WL.v (Runs.move rfl) rfl ?_
                  refine WL.v (Runs.assign rfl) rfl ?_
                  refine WL.nil ?_
                  refine WN.blk ?_
                  refine WN.thn ?_
                  refine WC.reg ?_
                  refine WL.v (Runs.move rfl) rfl ?_
                  refine WL.v (Runs.addn rfl rfl (by omega)) rfl ?_
                  refine WL.v (Runs.assign rfl) rfl ?_
                  refine WL.nil ?_
                  exact WN.again (⟨i + 1, _, p3, (t.vote (os.getD i o0).n (os.getD i o0).y).2, ys⟩ : Nat × Snap × List Res × T × List Bool) (by show os.length - (i + 1) < os.length - i; omega) ⟨rfl, rfl, rfl, rfl, rfl, rfl, trivial⟩ ⟨by show i + 1 ≤ _; omega, Le.trans hG (Le.trans hgb hl3), hp3, htn2, by simpa using hy, hyes, hL⟩
              · skip
                refine WC.reg ?_
                refine WL.v (Runs.move rfl) rfl ?_
                refine WL.v (Runs.move rfl) rfl ?_
                refine WL.v (Runs.boolT (c := true) (Runs.neq rfl rfl) (by rw [decide_eq_false hW0]; rfl)) rfl ?_
                refine WL.v (Runs.move rfl) rfl ?_
                refine WL.gon rfl rfl rfl ?_
                refine WL.v (Runs.move rfl) rfl ?_
                refine WL.gon rfl rfl rfl ?_
                refine WL.v (Runs.boolT (c := true) (Runs.neq rfl rfl) (by rw [hW1]; rfl)) rfl ?_
                refine WL.v (Runs.pick rfl rfl rfl) rfl ?_
                refine WL.v (Runs.move rfl) rfl ?_
                refine WL.gon rfl rfl rfl ?_
                refine WL.v (Runs.move rfl) rfl ?_
                refine WL.gon rfl rfl rfl ?_
                refine WL.v (Runs.boolT (c := false) (Runs.neq rfl rfl) (by rw [decide_eq_true hW1]; rfl)) rfl ?_
                refine WL.gon rfl rfl rfl ?_
                refine WL.v (Runs.move rfl) rfl ?_
                refine WL.gon rfl rfl rfl ?_
                refine WL.v (Runs.move rfl) rfl ?_
                refine WL.gon rfl rfl rfl ?_
                refine WL.v (Runs.boolT (c := false) (Runs.neq rfl rfl) (by rw [decide_eq_true hW]; rfl)) rfl ?_
                refine WL.gon rfl rfl rfl ?_
                refine WL.v (Runs.pick rfl rfl rfl) rfl ?_
                refine WL.v (Runs.pick rfl rfl rfl) rfl ?_
                refine WL.nil ?_
                refine WN.thn ?_
                refine WC.condF rfl (rfl) ?_
                refine WC.skip ?_
                refine WN.thn ?_
                refine WC.seq ?_
                refine WC.seq ?_
                refine WC.reg ?_
                refine WL.v (Runs.assign rfl) rfl ?_
                refine WL.nil ?_
                refine WN.thn ?_
                refine WC.block ?_
                have htn2 : (t.vote (os.getD i o0).n (os.getD i o0).y).2.ns = ns := htn
                have hl2 : (t.vote (os.getD i o0).n (os.getD i o0).y).2.vs.length = (t.vote (os.getD i o0).n (os.getD i o0).y).2.ns.length := hp3.facts.1
                replace hyes : Yes t.ns ys t := by rw [htn]; exact hyes
                replace hyes : Yes ns ys (t.vote (os.getD i o0).n (os.getD i o0).y).2 := by have := Yes.vote (n := (os.getD i o0).n) (y := (os.getD i o0).y) hnd hlv hyes hvno; rw [htn] at this; exact this
                have hyl : ys.length = 16 := by simp [hy]
                refine WC.loop (σ := Nat) (fun q_ => [(0, .slice (some ad) ns.length cap), (1, .slice (some bd) os.length cap2), (5, .pointer (some ⟨a, 0, none⟩)), (6, .slice (some ⟨yb, 0, none⟩) 16 16), (7, Vi t.state), (8, .int .i64 (i : Int)), (11, Vi (t.vote (os.getD i o0).n (os.getD i o0).y).2.state), (12, .int .i64 (q_ : Int))]) (fun q_ w => q_ ≤ ns.length ∧ St W G3 (p3 ++ ([(yb, .cells (ys.map Value.bool ++ []).toArray 4 (0, 0))] :: cs)) w) (fun q_ => ns.length - q_) (0) (by repeat (first | exact trivial | refine ⟨rfl, ?_⟩)) (⟨by omega, h19⟩) ?_
                rintro k w22 ⟨hkk, hL⟩
                try dsimp only at hkk hL
                refine WC.sub (s := [(0, .slice (some ad) ns.length cap), (1, .slice (some bd) os.length cap2), (5, .pointer (some ⟨a, 0, none⟩)), (6, .slice (some ⟨yb, 0, none⟩) 16 16), (7, Vi t.state), (8, .int .i64 (i : Int)), (11, Vi (t.vote (os.getD i o0).n (os.getD i o0).y).2.state), (12, .int .i64 (k : Int))]) (by repeat (first | exact trivial | refine ⟨rfl, ?_⟩)) ?_
                refine WC.seq ?_
                refine WC.seq ?_
                have hcase : (¬ k < ns.length) ∨ (k < ns.length ∧ (t.vote (os.getD i o0).n (os.getD i o0).y).2.state = 1) ∨ (k < ns.length ∧ (t.vote (os.getD i o0).n (os.getD i o0).y).2.state ≠ 1 ∧ (t.vote (os.getD i o0).n (os.getD i o0).y).2.state = 3) ∨ (k < ns.length ∧ (t.vote (os.getD i o0).n (os.getD i o0).y).2.state ≠ 1 ∧ (t.vote (os.getD i o0).n (os.getD i o0).y).2.state ≠ 3) := by omega
                rcases hcase with hc | ⟨hkn, hs1⟩ | ⟨hkn, hs1, hs3⟩ | ⟨hkn, hs1, hs3⟩
                · skip
                  refine WC.reg ?_
                  refine WL.v (Runs.move rfl) rfl ?_
                  refine WL.v (Runs.move rfl) rfl ?_
                  refine WL.v (Runs.llen Try.underlying22 rfl rfl) rfl ?_
                  refine WL.v (Runs.boolT (c := false) (Runs.lss rfl rfl) (by rw [decide_eq_false_iff_not]; omega)) rfl ?_
                  refine WL.v (Runs.move rfl) rfl ?_
                  refine WL.goff rfl rfl rfl rfl ?_
                  refine WL.goff rfl rfl rfl rfl ?_
                  refine WL.goff rfl rfl rfl rfl ?_
                  refine WL.goffU rfl rfl rfl ?_
                  refine WL.goffU rfl rfl rfl ?_
                  refine WL.goff rfl rfl rfl rfl ?_
                  refine WL.v (Runs.pick rfl rfl rfl) rfl ?_
                  refine WL.nil ?_
                  refine WN.thn ?_
                  refine WC.condF rfl (rfl) ?_
                  refine WC.exit ?_
                  refine WX.thn ?_
                  refine WX.cut ?_
                  refine WX.hit ?_
                  refine WN.thn ?_
                  refine WC.reg ?_
                  refine WL.v (Runs.move rfl) rfl ?_
                  refine WL.v (Runs.assign rfl) rfl ?_
                  refine WL.nil ?_
                  refine WN.blk ?_
                  refine WN.thn ?_
                  refine WC.reg ?_
                  refine WL.v (Runs.move rfl) rfl ?_
                  refine WL.v (Runs.addn rfl rfl (by omega)) rfl ?_
                  refine WL.v (Runs.assign rfl) rfl ?_
                  refine WL.nil ?_
                  exact WN.again (⟨i + 1, _, p3, (t.vote (os.getD i o0).n (os.getD i o0).y).2, ys⟩ : Nat × Snap × List Res × T × List Bool) (by show os.length - (i + 1) < os.length - i; omega) ⟨rfl, rfl, rfl, rfl, rfl, rfl, trivial⟩ ⟨by show i + 1 ≤ _; omega, Le.trans hG (Le.trans hgb hl3), hp3, htn2, by simpa using hy, hyes, hL⟩
                · have hst : (t.vote (os.getD i o0).n (os.getD i o0).y).2.state = 1 ∨ (t.vote (os.getD i o0).n (os.getD i o0).y).2.state = 3 := .inl hs1
                  refine WC.reg ?_
                  refine WL.v (Runs.move rfl) rfl ?_
                  refine WL.v (Runs.move rfl) rfl ?_
                  refine WL.v (Runs.llen Try.underlying22 rfl rfl) rfl ?_
                  refine WL.v (Runs.boolT (c := true) (Runs.lss rfl rfl) (by rw [decide_eq_true_eq]; omega)) rfl ?_
                  refine WL.v (Runs.move rfl) rfl ?_
                  refine WL.gon rfl rfl rfl ?_
                  refine WL.v (Runs.move rfl) rfl ?_
                  refine WL.gon rfl rfl rfl ?_
                  refine WL.v (Runs.boolT (c := true) (Runs.eql rfl rfl) (decide_eq_true hs1)) rfl ?_
                  refine WL.gon rfl rfl rfl ?_
                  refine WL.v (Runs.move rfl) rfl ?_
                  refine WL.goff rfl rfl rfl rfl ?_
                  refine WL.goff rfl rfl rfl rfl ?_
                  refine WL.gon rfl rfl rfl ?_
                  refine WL.v (Runs.pick rfl rfl rfl) rfl ?_
                  refine WL.v (Runs.pick rfl rfl rfl) rfl ?_
                  refine WL.nil ?_
                  refine WN.thn ?_
                  refine WC.condT rfl (rfl) ?_
                  refine WC.skip ?_
                  refine WN.thn ?_
                  refine WC.seq ?_
                  refine WC.block ?_
                  refine WC.seq ?_
                  have hkn2 : k < (t.vote (os.getD i o0).n (os.getD i o0).y).2.ns.length := by rw [htn2]; exact hkn
                  have hkr : (ns.getD k 0).toNat < ys.length := by rw [hyl]; have := hok.2.1 k hkn; omega
                  refine WC.reg ?_
                  refine WL.v (Runs.move rfl) rfl ?_
                  refine WL.v (Runs.move rfl) rfl ?_
                  refine WL.v (Runs.move rfl) rfl ?_
                  refine WL.v (Runs.lidxN Try.underlying22 inf3 rfl rfl (n := k) rfl (by omega)) rfl ?_
                  refine WL.v (Runs.loadR (f := Vi) (0 : Int) (hL.weak (Le.trans hG (Le.trans hgb hl3))) hrd (n := k) (by omega) Try.underlying3 rfl rfl) rfl ?_
                  refine WL.v (Runs.valT (u := .pointer (some ⟨yb, (ns.getD k 0).toNat, none⟩)) (Runs.lidx Try.underlying37 inf4 rfl rfl ⟨(hok.2.1 k hkn).1, by have := (hok.2.1 k hkn).2; omega⟩) (by rw [add_mk, Nat.mul_one, Nat.zero_add])) rfl ?_
                  refine WL.v (Runs.boolT (c := true) (Runs.load1 Try.underlying4 rfl rfl ((St_front hL).ocell (i := 0) rfl (ys_at _ hkr))) (hyes k hkn (all_yes hl2 hst hkn2))) rfl ?_
                  refine WL.v (Runs.not rfl) rfl ?_
                  refine WL.nil ?_
                  refine WN.thn ?_
                  refine WC.condF rfl (rfl) ?_
                  refine WC.skip ?_
                  refine WN.blk ?_
                  refine WN.thn ?_
                  refine WC.reg ?_
                  refine WL.v (Runs.move rfl) rfl ?_
                  refine WL.v (Runs.addn rfl rfl (by omega)) rfl ?_
                  refine WL.v (Runs.assign rfl) rfl ?_
                  refine WL.nil ?_
                  exact WN.again (k + 1) (by omega) ⟨rfl, rfl, rfl, rfl, rfl, rfl, rfl, rfl, trivial⟩ ⟨by omega, hL⟩
                · have hst : (t.vote (os.getD i o0).n (os.getD i o0).y).2.state = 1 ∨ (t.vote (os.getD i o0).n (os.getD i o0).y).2.state = 3 := .inr hs3
                  refine WC.reg ?_
                  refine WL.v (Runs.move rfl) rfl ?_
                  refine WL.v (Runs.move rfl) rfl ?_
                  refine WL.v (Runs.llen Try.underlying22 rfl rfl) rfl ?_
                  refine WL.v (Runs.boolT (c := true) (Runs.lss rfl rfl) (by rw [decide_eq_true_eq]; omega)) rfl ?_
                  refine WL.v (Runs.move rfl) rfl ?_
                  refine WL.gon rfl rfl rfl ?_
                  refine WL.v (Runs.move rfl) rfl ?_
                  refine WL.gon rfl rfl rfl ?_
                  refine WL.v (Runs.boolT (c := false) (Runs.eql rfl rfl) (decide_eq_false hs1)) rfl ?_
                  refine WL.gon rfl rfl rfl ?_
                  refine WL.v (Runs.move rfl) rfl ?_
                  refine WL.gon rfl rfl rfl ?_
                  refine WL.v (Runs.move rfl) rfl ?_
                  refine WL.gon rfl rfl rfl ?_
                  refine WL.v (Runs.boolT (c := true) (Runs.eql rfl rfl) (decide_eq_true hs3)) rfl ?_
                  refine WL.gon rfl rfl rfl ?_
                  refine WL.v (Runs.pick rfl rfl rfl) rfl ?_
                  refine WL.v (Runs.pick rfl rfl rfl) rfl ?_
                  refine WL.nil ?_
                  refine WN.thn ?_
                  refine WC.condT rfl (rfl) ?_
                  refine WC.skip ?_
                  refine WN.thn ?_
                  refine WC.seq ?_
                  refine WC.block ?_
                  refine WC.seq ?_
                  have hkn2 : k < (t.vote (os.getD i o0).n (os.getD i o0).y).2.ns.length := by rw [htn2]; exact hkn
                  have hkr : (ns.getD k 0).toNat < ys.length := by rw [hyl]; have := hok.2.1 k hkn; omega
                  refine WC.reg ?_
                  refine WL.v (Runs.move rfl) rfl ?_
                  refine WL.v (Runs.move rfl) rfl ?_
                  refine WL.v (Runs.move rfl) rfl ?_
                  refine WL.v (Runs.lidxN Try.underlying22 inf3 rfl rfl (n := k) rfl (by omega)) rfl ?_
                  refine WL.v (Runs.loadR (f := Vi) (0 : Int) (hL.weak (Le.trans hG (Le.trans hgb hl3))) hrd (n := k) (by omega) Try.underlying3 rfl rfl) rfl ?_
                  refine WL.v (Runs.valT (u := .pointer (some ⟨yb, (ns.getD k 0).toNat, none⟩)) (Runs.lidx Try.underlying37 inf4 rfl rfl ⟨(hok.2.1 k hkn).1, by have := (hok.2.1 k hkn).2; omega⟩) (by rw [add_mk, Nat.mul_one, Nat.zero_add])) rfl ?_
                  refine WL.v (Runs.boolT (c := true) (Runs.load1 Try.underlying4 rfl rfl ((St_front hL).ocell (i := 0) rfl (ys_at _ hkr))) (hyes k hkn (all_yes hl2 hst hkn2))) rfl ?_
                  refine WL.v (Runs.not rfl) rfl ?_
                  refine WL.nil ?_
                  refine WN.thn ?_
                  refine WC.condF rfl (rfl) ?_
                  refine WC.skip ?_
                  refine WN.blk ?_
                  refine WN.thn ?_
                  refine WC.reg ?_
                  refine WL.v (Runs.move rfl) rfl ?_
                  refine WL.v (Runs.addn rfl rfl (by omega)) rfl ?_
                  refine WL.v (Runs.assign rfl) rfl ?_
                  refine WL.nil ?_
                  exact WN.again (k + 1) (by omega) ⟨rfl, rfl, rfl, rfl, rfl, rfl, rfl, rfl, trivial⟩ ⟨by omega, hL⟩
                · skip
                  refine WC.reg ?_
                  refine WL.v (Runs.move rfl) rfl ?_
                  refine WL.v (Runs.move rfl) rfl ?_
                  refine WL.v (Runs.llen Try.underlying22 rfl rfl) rfl ?_
                  refine WL.v (Runs.boolT (c := true) (Runs.lss rfl rfl) (by rw [decide_eq_true_eq]; omega)) rfl ?_
                  refine WL.v (Runs.move rfl) rfl ?_
                  refine WL.gon rfl rfl rfl ?_
                  refine WL.v (Runs.move rfl) rfl ?_
                  refine WL.gon rfl rfl rfl ?_
                  refine WL.v (Runs.boolT (c := false) (Runs.eql rfl rfl) (decide_eq_false hs1)) rfl ?_
                  refine WL.gon rfl rfl rfl ?_
                  refine WL.v (Runs.move rfl) rfl ?_
                  refine WL.gon rfl rfl rfl ?_
                  refine WL.v (Runs.move rfl) rfl ?_
                  refine WL.gon rfl rfl rfl ?_
                  refine WL.v (Runs.boolT (c := false) (Runs.eql rfl rfl) (decide_eq_false hs3)) rfl ?_
                  refine WL.gon rfl rfl rfl ?_
                  refine WL.v (Runs.pick rfl rfl rfl) rfl ?_
                  refine WL.v (Runs.pick rfl rfl rfl) rfl ?_
                  refine WL.nil ?_
                  refine WN.thn ?_
                  refine WC.condF rfl (rfl) ?_
                  refine WC.exit ?_
                  refine WX.thn ?_
                  refine WX.cut ?_
                  refine WX.hit ?_
                  refine WN.thn ?_
                  refine WC.reg ?_
                  refine WL.v (Runs.move rfl) rfl ?_
                  refine WL.v (Runs.assign rfl) rfl ?_
                  refine WL.nil ?_
                  refine WN.blk ?_
                  refine WN.thn ?_
                  refine WC.reg ?_
                  refine WL.v (Runs.move rfl) rfl ?_
                  refine WL.v (Runs.addn rfl rfl (by omega)) rfl ?_
                  refine WL.v (Runs.assign rfl) rfl ?_
                  refine WL.nil ?_
                  exact WN.again (⟨i + 1, _, p3, (t.vote (os.getD i o0).n (os.getD i o0).y).2, ys⟩ : Nat × Snap × List Res × T × List Bool) (by show os.length - (i + 1) < os.length - i; omega) ⟨rfl, rfl, rfl, rfl, rfl, rfl, trivial⟩ ⟨by show i + 1 ≤ _; omega, Le.trans hG (Le.trans hgb hl3), hp3, htn2, by simpa using hy, hyes, hL⟩
            · have hvno : ¬ ((t.vote (os.getD i o0).n (os.getD i o0).y).1 = 0 ∧ (os.getD i o0).y = true) := fun h => hv h.1
              refine WC.reg ?_
              refine WL.v (Runs.move rfl) rfl ?_
              refine WL.v (Runs.boolT (c := false) (Runs.eql rfl rfl) (decide_eq_false hv)) rfl ?_
              refine WL.v (Runs.move rfl) rfl ?_
              refine WL.goff rfl rfl rfl rfl ?_
              refine WL.goff rfl rfl rfl rfl ?_
              refine WL.v (Runs.pick rfl rfl rfl) rfl ?_
              refine WL.nil ?_
              refine WN.thn ?_
              refine WC.condF rfl (rfl) ?_
              refine WC.skip ?_
              refine WN.thn ?_
              refine WC.seq ?_
              refine WC.reg ?_
              refine WL.v (Runs.move rfl) rfl ?_
              refine WL.call can13 rfl rfl (tstate_t _ h13 hp3) ?_
              rintro _ w23 ⟨rfl, h23⟩
              refine ⟨_, rfl, ?_⟩
              refine WL.v (Runs.assign rfl) rfl ?_
              refine WL.nil ?_
              refine WN.thn ?_
              refine WC.seq ?_
              refine WC.seq ?_
              rcases way_v t (os.getD i o0).n (os.getD i o0).y with hW | ⟨hW0, hW⟩ | ⟨hW0, hW1, hW⟩
              · skip
                refine WC.reg ?_
                refine WL.v (Runs.move rfl) rfl ?_
                refine WL.v (Runs.move rfl) rfl ?_
                refine WL.v (Runs.boolT (c := false) (Runs.neq rfl rfl) (by rw [decide_eq_true hW]; rfl)) rfl ?_
                refine WL.v (Runs.move rfl) rfl ?_
                refine WL.goff rfl rfl rfl rfl ?_
                refine WL.goff rfl rfl rfl rfl ?_
                refine WL.v (Runs.pick rfl rfl rfl) rfl ?_
                refine WL.v (Runs.move rfl) rfl ?_
                refine WL.goff rfl rfl rfl rfl ?_
                refine WL.goff rfl rfl rfl rfl ?_
                refine WL.goff rfl rfl rfl rfl ?_
                refine WL.goffU rfl rfl rfl ?_
                refine WL.goffU rfl rfl rfl ?_
                refine WL.goff rfl rfl rfl rfl ?_
                refine WL.v (Runs.pick rfl rfl rfl) rfl ?_
                refine WL.nil ?_
                refine WN.thn ?_
                refine WC.condF rfl (rfl) ?_
                refine WC.skip ?_
                refine WN.thn ?_
                refine WC.seq ?_
                refine WC.seq ?_
                refine WC.reg ?_
                refine WL.v (Runs.assign rfl) rfl ?_
                refine WL.nil ?_
                refine WN.thn ?_
                refine WC.block ?_
                have htn2 : (t.vote (os.getD i o0).n (os.getD i o0).y).2.ns = ns := htn
                have hl2 : (t.vote (os.getD i o0).n (os.getD i o0).y).2.vs.length = (t.vote (os.getD i o0).n (os.getD i o0).y).2.ns.length := hp3.facts.1
                replace hyes : Yes t.ns ys t := by rw [htn]; exact hyes
                replace hyes : Yes ns ys (t.vote (os.getD i o0).n (os.getD i o0).y).2 := by have := Yes.vote (n := (os.getD i o0).n) (y := (os.getD i o0).y) hnd hlv hyes hvno; rw [htn] at this; exact this
                have hyl : ys.length = 16 := by simp [hy]
                refine WC.loop (σ := Nat) (fun q_ => [(0, .slice (some ad) ns.length cap), (1, .slice (some bd) os.length cap2), (5, .pointer (some ⟨a, 0, none⟩)), (6, .slice (some ⟨yb, 0, none⟩) 16 16), (7, Vi t.state), (8, .int .i64 (i : Int)), (11, Vi (t.vote (os.getD i o0).n (os.getD i o0).y).2.state), (12, .int .i64 (q_ : Int))]) (fun q_ w => q_ ≤ ns.length ∧ St W G3 (p3 ++ ([(yb, .cells (ys.map Value.bool ++ []).toArray 4 (0, 0))] :: cs)) w) (fun q_ => ns.length - q_) (0) (by repeat (first | exact trivial | refine ⟨rfl, ?_⟩)) (⟨by omega, h23⟩) ?_
                rintro k w24 ⟨hkk, hL⟩
                try dsimp only at hkk hL
                refine WC.sub (s := [(0, .slice (some ad) ns.length cap), (1, .slice (some bd) os.length cap2), (5, .pointer (some ⟨a, 0, none⟩)), (6, .slice (some ⟨yb, 0, none⟩) 16 16), (7, Vi t.state), (8, .int .i64 (i : Int)), (11, Vi (t.vote (os.getD i o0).n (os.getD i o0).y).2.state), (12, .int .i64 (k : Int))]) (by repeat (first | exact trivial | refine ⟨rfl, ?_⟩)) ?_
                refine WC.seq ?_
                refine WC.seq ?_
                have hcase : (¬ k < ns.length) ∨ (k < ns.length ∧ (t.vote (os.getD i o0).n (os.getD i o0).y).2.state = 1) ∨ (k < ns.length ∧ (t.vote (os.getD i o0).n (os.getD i o0).y).2.state ≠ 1 ∧ (t.vote (os.getD i o0).n (os.getD i o0).y).2.state = 3) ∨ (k < ns.length ∧ (t.vote (os.getD i o0).n (os.getD i o0).y).2.state ≠ 1 ∧ (t.vote (os.getD i o0).n (os.getD i o0).y).2.state ≠ 3) := by omega
                rcases hcase with hc | ⟨hkn, hs1⟩ | ⟨hkn, hs1, hs3⟩ | ⟨hkn, hs1, hs3⟩
                · skip
                  refine WC.reg ?_
                  refine WL.v (Runs.move rfl) rfl ?_
                  refine WL.v (Runs.move rfl) rfl ?_
                  refine WL.v (Runs.llen Try.underlying22 rfl rfl) rfl ?_
                  refine WL.v (Runs.boolT (c := false) (Runs.lss rfl rfl) (by rw [decide_eq_false_iff_not]; omega)) rfl ?_
                  refine WL.v (Runs.move rfl) rfl ?_
                  refine WL.goff rfl rfl rfl rfl ?_
                  refine WL.goff rfl rfl rfl rfl ?_
                  refine WL.goff rfl rfl rfl rfl ?_
                  refine WL.goffU rfl rfl rfl ?_
                  refine WL.goffU rfl rfl rfl ?_
                  refine WL.goff rfl rfl rfl rfl ?_
                  refine WL.v (Runs.pick rfl rfl rfl) rfl ?_
                  refine WL.nil ?_
                  refine WN.thn ?_
                  refine WC.condF rfl (rfl) ?_
                  refine WC.exit ?_
                  refine WX.thn ?_
                  refine WX.cut ?_
                  refine WX.hit ?_
                  refine WN.thn ?_
                  refine WC.reg ?_
                  refine WL.v (Runs.move rfl) rfl ?_
                  refine WL.v (Runs.assign rfl) rfl ?_
                  refine WL.nil ?_
                  refine WN.blk ?_
                  refine WN.thn ?_
                  refine WC.reg ?_
                  refine WL.v (Runs.move rfl) rfl ?_
                  refine WL.v (Runs.addn rfl rfl (by omega)) rfl ?_
                  refine WL.v (Runs.assign rfl) rfl ?_
                  refine WL.nil ?_
                  exact WN.again (⟨i + 1, _, p3, (t.vote (os.getD i o0).n (os.getD i o0).y).2, ys⟩ : Nat × Snap × List Res × T × List Bool) (by show os.length - (i + 1) < os.length - i; omega) ⟨rfl, rfl, rfl, rfl, rfl, rfl, trivial⟩ ⟨by show i + 1 ≤ _; omega, Le.trans hG (Le.trans hgb hl3), hp3, htn2, by simpa using hy, hyes, hL⟩
                · have hst : (t.vote (os.getD i o0).n (os.getD i o0).y).2.state = 1 ∨ (t.vote (os.getD i o0).n (os.getD i o0).y).2.state = 3 := .inl hs1
                  refine WC.reg ?_
                  refine WL.v (Runs.move rfl) rfl ?_
                  refine WL.v (Runs.move rfl) rfl ?_
                  refine WL.v (Runs.llen Try.underlying22 rfl rfl) rfl ?_
                  refine WL.v (Runs.boolT (c := true) (Runs.lss rfl rfl) (by rw [decide_eq_true_eq]; omega)) rfl ?_
                  refine WL.v (Runs.move rfl) rfl ?_
                  refine WL.gon rfl rfl rfl ?_
                  refine WL.v (Runs.move rfl) rfl ?_
                  refine WL.gon rfl rfl rfl ?_
                  refine WL.v (Runs.boolT (c := true) (Runs.eql rfl rfl) (decide_eq_true hs1)) rfl ?_
                  refine WL.gon rfl rfl rfl ?_
                  refine WL.v (Runs.move rfl) rfl ?_
                  refine WL.goff rfl rfl rfl rfl ?_
                  refine WL.goff rfl rfl rfl rfl ?_
                  refine WL.gon rfl rfl rfl ?_
                  refine WL.v (Runs.pick rfl rfl rfl) rfl ?_
                  refine WL.v (Runs.pick rfl rfl rfl) rfl ?_
                  refine WL.nil ?_
                  refine WN.thn ?_
                  refine WC.condT rfl (rfl) ?_
                  refine WC.skip ?_
                  refine WN.thn ?_
                  refine WC.seq ?_
                  refine WC.block ?_
                  refine WC.seq ?_
                  have hkn2 : k < (t.vote (os.getD i o0).n (os.getD i o0).y).2.ns.length := by rw [htn2]; exact hkn
                  have hkr : (ns.getD k 0).toNat < ys.length := by rw [hyl]; have := hok.2.1 k hkn; omega
                  refine WC.reg ?_
                  refine WL.v (Runs.move rfl) rfl ?_
                  refine WL.v (Runs.move rfl) rfl ?_
                  refine WL.v (Runs.move rfl) rfl ?_
                  refine WL.v (Runs.lidxN Try.underlying22 inf3 rfl rfl (n := k) rfl (by omega)) rfl ?_
                  refine WL.v (Runs.loadR (f := Vi) (0 : Int) (hL.weak (Le.trans hG (Le.trans hgb hl3))) hrd (n := k) (by omega) Try.underlying3 rfl rfl) rfl ?_
                  refine WL.v (Runs.valT (u := .pointer (some ⟨yb, (ns.getD k 0).toNat, none⟩)) (Runs.lidx Try.underlying37 inf4 rfl rfl ⟨(hok.2.1 k hkn).1, by have := (hok.2.1 k hkn).2; omega⟩) (by rw [add_mk, Nat.mul_one, Nat.zero_add])) rfl ?_
                  refine WL.v (Runs.boolT (c := true) (Runs.load1 Try.underlying4 rfl rfl ((St_front hL).ocell (i := 0) rfl (ys_at _ hkr))) (hyes k hkn (all_yes hl2 hst hkn2))) rfl ?_
                  refine WL.v (Runs.not rfl) rfl ?_
                  refine WL.nil ?_
                  refine WN.thn ?_
                  refine WC.condF rfl (rfl) ?_
                  refine WC.skip ?_
                  refine WN.blk ?_
                  refine WN.thn ?_
                  refine WC.reg ?_
                  refine WL.v (Runs.move rfl) rfl ?_
                  refine WL.v (Runs.addn rfl rfl (by omega)) rfl ?_
                  refine WL.v (Runs.assign rfl) rfl ?_
                  refine WL.nil ?_
                  exact WN.again (k + 1) (by omega) ⟨rfl, rfl, rfl, rfl, rfl, rfl, rfl, rfl, trivial⟩ ⟨by omega, hL⟩
                · have hst : (t.vote (os.getD i o0).n (os.getD i o0).y).2.state = 1 ∨ (t.vote (os.getD i o0).n (os.getD i o0).y).2.state = 3 := .inr hs3
                  refine WC.reg ?_
                  refine WL.v (Runs.move rfl) rfl ?_
                  refine WL.v (Runs.move rfl) rfl ?_
                  refine WL.v (Runs.llen Try.underlying22 rfl rfl) rfl ?_
                  refine WL.v (Runs.boolT (c := true) (Runs.lss rfl rfl) (by rw [decide_eq_true_eq]; omega)) rfl ?_
                  refine WL.v (Runs.move rfl) rfl ?_
                  refine WL.gon rfl rfl rfl ?_
                  refine WL.v (Runs.move rfl) rfl ?_
                  refine WL.gon rfl rfl rfl ?_
                  refine WL.v (Runs.boolT (c := false) (Runs.eql rfl rfl) (decide_eq_false hs1)) rfl ?_
                  refine WL.gon rfl rfl rfl ?_
                  refine WL.v (Runs.move rfl) rfl ?_
                  refine WL.gon rfl rfl rfl ?_
                  refine WL.v (Runs.move rfl) rfl ?_
                  refine WL.gon rfl rfl rfl ?_
                  refine WL.v (Runs.boolT (c := true) (Runs.eql rfl rfl) (decide_eq_true hs3)) rfl ?_
                  refine WL.gon rfl rfl rfl ?_
                  refine WL.v (Runs.pick rfl rfl rfl) rfl ?_
                  refine WL.v (Runs.pick rfl rfl rfl) rfl ?_
                  refine WL.nil ?_
                  refine WN.thn ?_
                  refine WC.condT rfl (rfl) ?_
                  refine WC.skip ?_
                  refine WN.thn ?_
                  refine WC.seq ?_
                  refine WC.block ?_
                  refine WC.seq ?_
                  have hkn2 : k < (t.vote (os.getD i o0).n (os.getD i o0).y).2.ns.length := by rw [htn2]; exact hkn
                  have hkr : (ns.getD k 0).toNat < ys.length := by rw [hyl]; have := hok.2.1 k hkn; omega
                  refine WC.reg ?_
                  refine WL.v (Runs.move rfl) rfl ?_
                  refine WL.v (Runs.move rfl) rfl ?_
                  refine WL.v (Runs.move rfl) rfl ?_
                  refine WL.v (Runs.lidxN Try.underlying22 inf3 rfl rfl (n := k) rfl (by omega)) rfl ?_
                  refine WL.v (Runs.loadR (f := Vi) (0 : Int) (hL.weak (Le.trans hG (Le.trans hgb hl3))) hrd (n := k) (by omega) Try.underlying3 rfl rfl) rfl ?_
                  refine WL.v (Runs.valT (u := .pointer (some ⟨yb, (ns.getD k 0).toNat, none⟩)) (Runs.lidx Try.underlying37 inf4 rfl rfl ⟨(hok.2.1 k hkn).1, by have := (hok.2.1 k hkn).2; omega⟩) (by rw [add_mk, Nat.mul_one, Nat.zero_add])) rfl ?_
                  refine WL.v (Runs.boolT (c := true) (Runs.load1 Try.underlying4 rfl rfl ((St_front hL).ocell (i := 0) rfl (ys_at _ hkr))) (hyes k hkn (all_yes hl2 hst hkn2))) rfl ?_
                  refine WL.v (Runs.not rfl) rfl ?_
                  refine WL.nil ?_
                  refine WN.thn ?_
                  refine WC.condF rfl (rfl) ?_
                  refine WC.skip ?_
                  refine WN.blk ?_
                  refine WN.thn ?_
                  refine WC.reg ?_
                  refine WL.v (Runs.move rfl) rfl ?_
                  refine WL.v (Runs.addn rfl rfl (by omega)) rfl ?_
                  refine WL.v (Runs.assign rfl) rfl ?_
                  refine WL.nil ?_
                  exact WN.again (k + 1) (by omega) ⟨rfl, rfl, rfl, rfl, rfl, rfl, rfl, rfl, trivial⟩ ⟨by omega, hL⟩
                · skip
                  refine WC.reg ?_
                  refine WL.v (Runs.move rfl) rfl ?_
                  refine WL.v (Runs.move rfl) rfl ?_
                  refine WL.v (Runs.llen Try.underlying22 rfl rfl) rfl ?_
                  refine WL.v (Runs.boolT (c := true) (Runs.lss rfl rfl) (by rw [decide_eq_true_eq]; omega)) rfl ?_
                  refine WL.v (Runs.move rfl) rfl ?_
                  refine WL.gon rfl rfl rfl ?_
                  refine WL.v (Runs.move rfl) rfl ?_
                  refine WL.gon rfl rfl rfl ?_
                  refine WL.v (Runs.boolT (c := false) (Runs.eql rfl rfl) (decide_eq_false hs1)) rfl ?_
                  refine WL.gon rfl rfl rfl ?_
                  refine WL.v (Runs.move rfl) rfl ?_
                  refine WL.gon rfl rfl rfl ?_
                  refine WL.v (Runs.move rfl) rfl ?_
                  refine WL.gon rfl rfl rfl ?_
                  refine WL.v (Runs.boolT (c := false) (Runs.eql rfl rfl) (decide_eq_false hs3)) rfl ?_
                  refine WL.gon rfl rfl rfl ?_
                  refine WL.v (Runs.pick rfl rfl rfl) rfl ?_
                  refine WL.v (Runs.pick rfl rfl rfl) rfl ?_
                  refine WL.nil ?_
                  refine WN.thn ?_
                  refine WC.condF rfl (rfl) ?_
                  refine WC.exit ?_
                  refine WX.thn ?_
                  refine WX.cut ?_
                  refine WX.hit ?_
                  refine WN.thn ?_
                  refine WC.reg ?_
                  refine WL.v (Runs.move rfl) rfl ?_
                  refine WL.v (Runs.assign rfl) rfl ?_
                  refine WL.nil ?_
                  refine WN.blk ?_
                  refine WN.thn ?_
                  refine WC.reg ?_
                  refine WL.v (Runs.move rfl) rfl ?_
                  refine WL.v (Runs.addn rfl rfl (by omega)) rfl ?_
                  refine WL.v (Runs.assign rfl) rfl ?_
                  refine WL.nil ?_
                  exact WN.again (⟨i + 1, _, p3, (t.vote (os.getD i o0).n (os.getD i o0).y).2, ys⟩ : Nat × Snap × List Res × T × List Bool) (by show os.length - (i + 1) < os.length - i; omega) ⟨rfl, rfl, rfl, rfl, rfl, rfl, trivial⟩ ⟨by show i + 1 ≤ _; omega, Le.trans hG (Le.trans hgb hl3), hp3, htn2, by simpa using hy, hyes, hL⟩
              · skip
                refine WC.reg ?_
                refine WL.v (Runs.move rfl) rfl ?_
                refine WL.v (Runs.move rfl) rfl ?_
                refine WL.v (Runs.boolT (c := true) (Runs.neq rfl rfl) (by rw [decide_eq_false hW0]; rfl)) rfl ?_
                refine WL.v (Runs.move rfl) rfl ?_
                refine WL.gon rfl rfl rfl ?_
                refine WL.v (Runs.move rfl) rfl ?_
                refine WL.gon rfl rfl rfl ?_
                refine WL.v (Runs.boolT (c := false) (Runs.neq rfl rfl) (by rw [decide_eq_true hW]; rfl)) rfl ?_
                refine WL.v (Runs.pick rfl rfl rfl) rfl ?_
                refine WL.v (Runs.move rfl) rfl ?_
                refine WL.goff rfl rfl rfl rfl ?_
                refine WL.goff rfl rfl rfl rfl ?_
                refine WL.goff rfl rfl rfl rfl ?_
                refine WL.goffU rfl rfl rfl ?_
                refine WL.goffU rfl rfl rfl ?_
                refine WL.goff rfl rfl rfl rfl ?_
                refine WL.v (Runs.pick rfl rfl rfl) rfl ?_
                refine WL.nil ?_
                refine WN.thn ?_
                refine WC.condF rfl (rfl) ?_
                refine WC.skip ?_
                refine WN.thn ?_
                refine WC.seq ?_
                refine WC.seq ?_
                refine WC.reg ?_
                refine WL.v (Runs.assign rfl) rfl ?_
                refine WL.nil ?_
                refine WN.thn ?_
                refine WC.block ?_
                have htn2 : (t.vote (os.getD i o0).n (os.getD i o0).y).2.ns = ns := htn
                have hl2 : (t.vote (os.getD i o0).n (os.getD i o0).y).2.vs.length = (t.vote (os.getD i o0).n (os.getD i o0).y).2.ns.length := hp3.facts.1
                replace hyes : Yes t.ns ys t := by rw [htn]; exact hyes
                replace hyes : Yes ns ys (t.vote (os.getD i o0).n (os.getD i o0).y).2 := by have := Yes.vote (n := (os.getD i o0).n) (y := (os.getD i o0).y) hnd hlv hyes hvno; rw [htn] at this; exact this
                have hyl : ys.length = 16 := by simp [hy]
                refine WC.loop (σ := Nat) (fun q_ => [(0, .slice (some ad) ns.length cap), (1, .slice (some bd) os.length cap2), (5, .pointer (some ⟨a, 0, none⟩)), (6, .slice (some ⟨yb, 0, none⟩) 16 16), (7, Vi t.state), (8, .int .i64 (i : Int)), (11, Vi (t.vote (os.getD i o0).n (os.getD i o0).y).2.state), (12, .int .i64 (q_ : Int))]) (fun q_ w => q_ ≤ ns.length ∧ St W G3 (p3 ++ ([(yb, .cells (ys.map Value.bool ++ []).toArray 4 (0, 0))] :: cs)) w) (fun q_ => ns.length - q_) (0) (by repeat (first | exact trivial | refine ⟨rfl, ?_⟩)) (⟨by omega, h23⟩) ?_
                rintro k w25 ⟨hkk, hL⟩
                try dsimp only at hkk hL
                refine WC.sub (s := [(0, .slice (some ad) ns.length cap), (1, .slice (some bd) os.length cap2), (5, .pointer (some ⟨a, 0, none⟩)), (6, .slice (some ⟨yb, 0, none⟩) 16 16), (7, Vi t.state), (8, .int .i64 (i : Int)), (11, Vi (t.vote (os.getD i o0).n (os.getD i o0).y).2.state), (12, .int .i64 (k : Int))]) (by repeat (first | exact trivial | refine ⟨rfl, ?_⟩)) ?_
                refine WC.seq ?_
                refine WC.seq ?_
                have hcase : (¬ k < ns.length) ∨ (k < ns.length ∧ (t.vote (os.getD i o0).n (os.getD i o0).y).2.state = 1) ∨ (k < ns.length ∧ (t.vote (os.getD i o0).n (os.getD i o0).y).2.state ≠ 1 ∧ (t.vote (os.getD i o0).n (os.getD i o0).y).2.state = 3) ∨ (k < ns.length ∧ (t.vote (os.getD i o0).n (os.getD i o0).y).2.state ≠ 1 ∧ (t.vote (os.getD i o0).n (os.getD i o0).y).2.state ≠ 3) := by omega
                rcases hcase with hc | ⟨hkn, hs1⟩ | ⟨hkn, hs1, hs3⟩ | ⟨hkn, hs1, hs3⟩
                · skip
                  refine WC.reg ?_
                  refine WL.v (Runs.move rfl) rfl ?_
                  refine WL.v (Runs.move rfl) rfl ?_
                  refine WL.v (Runs.llen Try.underlying22 rfl rfl) rfl ?_
                  refine WL.v (Runs.boolT (c := false) (Runs.lss rfl rfl) (by rw [decide_eq_false_iff_not]; omega)) rfl ?_
                  refine WL.v (Runs.move rfl) rfl ?_
                  refine WL.goff rfl rfl rfl rfl ?_
                  refine WL.goff rfl rfl rfl rfl ?_
                  refine WL.goff rfl rfl rfl rfl ?_
                  refine WL.goffU rfl rfl rfl ?_
                  refine WL.goffU rfl rfl rfl ?_
                  refine WL.goff rfl rfl rfl rfl ?_
                  refine WL.v (Runs.pick rfl rfl rfl) rfl ?_
                  refine WL.nil ?_
                  refine WN.thn ?_
                  refine WC.condF rfl (rfl) ?_
                  refine WC.exit ?_
                  refine WX.thn ?_
                  refine WX.cut ?_
                  refine WX.hit ?_
                  refine WN.thn ?_
                  refine WC.reg ?_
                  refine WL.v (Runs.move rfl) rfl ?_
                  refine WL.v (Runs.assign rfl) rfl ?_
                  refine WL.nil ?_
                  refine WN.blk ?_
                  refine WN.thn ?_
                  refine WC.reg ?_
                  refine WL.v (Runs.move rfl) rfl ?_
                  refine WL.v (Runs.addn rfl rfl (by omega)) rfl ?_
                  refine WL.v (Runs.assign rfl) rfl ?_
                  refine WL.nil ?_
                  exact WN.again (⟨i + 1, _, p3, (t.vote (os.getD i o0).n (os.getD i o0).y).2, ys⟩ : Nat × Snap × List Res × T × List Bool) (by show os.length - (i + 1) < os.length - i; omega) ⟨rfl, rfl, rfl, rfl, rfl, rfl, trivial⟩ ⟨by show i + 1 ≤ _; omega, Le.trans hG (Le.trans hgb hl3), hp3, htn2, by simpa using hy, hyes, hL⟩
                · have hst : (t.vote (os.getD i o0).n (os.getD i o0).y).2.state = 1 ∨ (t.vote (os.getD i o0).n (os.getD i o0).y).2.state = 3 := .inl hs1
                  refine WC.reg ?_
                  refine WL.v (Runs.move rfl) rfl ?_
                  refine WL.v (Runs.move rfl) rfl ?_
                  refine WL.v (Runs.llen Try.underlying22 rfl rfl) rfl ?_
                  refine WL.v (Runs.boolT (c := true) (Runs.lss rfl rfl) (by rw [decide_eq_true_eq]; omega)) rfl ?_
                  refine WL.v (Runs.move rfl) rfl ?_
                  refine WL.gon rfl rfl rfl ?_
                  refine WL.v (Runs.move rfl) rfl ?_
                  refine WL.gon rfl rfl rfl ?_
                  refine WL.v (Runs.boolT (c := true) (Runs.eql rfl rfl) (decide_eq_true hs1)) rfl ?_
                  refine WL.gon rfl rfl rfl ?_
                  refine WL.v (Runs.move rfl) rfl ?_
                  refine WL.goff rfl rfl rfl rfl ?_
                  refine WL.goff rfl rfl rfl rfl ?_
                  refine WL.gon rfl rfl rfl ?_
                  refine WL.v (Runs.pick rfl rfl rfl) rfl ?_
                  refine WL.v (Runs.pick rfl rfl rfl) rfl ?_
                  refine WL.nil ?_
                  refine WN.thn ?_
                  refine WC.condT rfl (rfl) ?_
                  refine WC.skip ?_
                  refine WN.thn ?_
                  refine WC.seq ?_
                  refine WC.block ?_
                  refine WC.seq ?_
                  have hkn2 : k < (t.vote (os.getD i o0).n (os.getD i o0).y).2.ns.length := by rw [htn2]; exact hkn
                  have hkr : (ns.getD k 0).toNat < ys.length := by rw [hyl]; have := hok.2.1 k hkn; omega
                  refine WC.reg ?_
                  refine WL.v (Runs.move rfl) rfl ?_
                  refine WL.v (Runs.move rfl) rfl ?_
                  refine WL.v (Runs.move rfl) rfl ?_
                  refine WL.v (Runs.lidxN Try.underlying22 inf3 rfl rfl (n := k) rfl (by omega)) rfl ?_
                  refine WL.v (Runs.loadR (f := Vi) (0 : Int) (hL.weak (Le.trans hG (Le.trans hgb hl3))) hrd (n := k) (by omega) Try.underlying3 rfl rfl) rfl ?_
                  refine WL.v (Runs.valT (u := .pointer (some ⟨yb, (ns.getD k 0).toNat, none⟩)) (Runs.lidx Try.underlying37 inf4 rfl rfl ⟨(hok.2.1 k hkn).1, by have := (hok.2.1 k hkn).2; omega⟩) (by rw [add_mk, Nat.mul_one, Nat.zero_add])) rfl ?_
                  refine WL.v (Runs.boolT (c := true) (Runs.load1 Try.underlying4 rfl rfl ((St_front hL).ocell (i := 0) rfl (ys_at _ hkr))) (hyes k hkn (all_yes hl2 hst hkn2))) rfl ?_
                  refine WL.v (Runs.not rfl) rfl ?_
                  refine WL.nil ?_
                  refine WN.thn ?_
                  refine WC.condF rfl (rfl) ?_
                  refine WC.skip ?_
                  refine WN.blk ?_
                  refine WN.thn ?_
                  refine WC.reg ?_
                  refine WL.v (Runs.move rfl) rfl ?_
                  refine WL.v (Runs.addn rfl rfl (by omega)) rfl ?_
                  refine WL.v (Runs.assign rfl) rfl ?_
                  refine WL.nil ?_
                  exact WN.again (k + 1) (by omega) ⟨rfl, rfl, rfl, rfl, rfl, rfl, rfl, rfl, trivial⟩ ⟨by omega, hL⟩
                · have hst : (t.vote (os.getD i o0).n (os.getD i o0).y).2.state = 1 ∨ (t.vote (os.getD i o0).n (os.getD i o0).y).2.state = 3 := .inr hs3
                  refine WC.reg ?_
                  refine WL.v (Runs.move rfl) rfl ?_
                  refine WL.v (Runs.move rfl) rfl ?_
                  refine WL.v (Runs.llen Try.underlying22 rfl rfl) rfl ?_
                  refine WL.v (Runs.boolT (c := true) (Runs.lss rfl rfl) (by rw [decide_eq_true_eq]; omega)) rfl ?_
                  refine WL.v (Runs.move rfl) rfl ?_
                  refine WL.gon rfl rfl rfl ?_
                  refine WL.v (Runs.move rfl) rfl ?_
                  refine WL.gon rfl rfl rfl ?_
                  refine WL.v (Runs.boolT (c := false) (Runs.eql rfl rfl) (decide_eq_false hs1)) rfl ?_
                  refine WL.gon rfl rfl rfl ?_
                  refine WL.v (Runs.move rfl) rfl ?_
                  refine WL.gon rfl rfl rfl ?_
                  refine WL.v (Runs.move rfl) rfl ?_
                  refine WL.gon rfl rfl rfl ?_
                  refine WL.v (Runs.boolT (c := true) (Runs.eql rfl rfl) (decide_eq_true hs3)) rfl ?_
                  refine WL.gon rfl rfl rfl ?_
                  refine WL.v (Runs.pick rfl rfl rfl) rfl ?_
                  refine WL.v (Runs.pick rfl rfl rfl) rfl ?_
                  refine WL.nil ?_
                  refine WN.thn ?_
                  refine WC.condT rfl (rfl) ?_
                  refine WC.skip ?_
                  refine WN.thn ?_
                  refine WC.seq ?_
                  refine WC.block ?_
                  refine WC.seq ?_
                  have hkn2 : k < (t.vote (os.getD i o0).n (os.getD i o0).y).2.ns.length := by rw [htn2]; exact hkn
                  have hkr : (ns.getD k 0).toNat < ys.length := by rw [hyl]; have := hok.2.1 k hkn; omega
                  refine WC.reg ?_
                  refine WL.v (Runs.move rfl) rfl ?_
                  refine WL.v (Runs.move rfl) rfl ?_
                  refine WL.v (Runs.move rfl) rfl ?_
                  refine WL.v (Runs.lidxN Try.underlying22 inf3 rfl rfl (n := k) rfl (by omega)) rfl ?_
                  refine WL.v (Runs.loadR (f := Vi) (0 : Int) (hL.weak (Le.trans hG (Le.trans hgb hl3))) hrd (n := k) (by omega) Try.underlying3 rfl rfl) rfl ?_
                  refine WL.v (Runs.valT (u := .pointer (some ⟨yb, (ns.getD k 0).toNat, none⟩)) (Runs.lidx Try.underlying37 inf4 rfl rfl ⟨(hok.2.1 k hkn).1, by have := (hok.2.1 k hkn).2; omega⟩) (by rw [add_mk, Nat.mul_one, Nat.zero_add])) rfl ?_
                  refine WL.v (Runs.boolT (c := true) (Runs.load1 Try.underlying4 rfl rfl ((St_front hL).ocell (i := 0) rfl (ys_at _ hkr))) (hyes k hkn (all_yes hl2 hst hkn2))) rfl ?_
                  refine WL.v (Runs.not rfl) rfl ?_
                  refine WL.nil ?_
                  refine WN.thn ?_
                  refine WC.condF rfl (rfl) ?_
                  refine WC.skip ?_
                  refine WN.blk ?_
                  refine WN.thn ?_
                  refine WC.reg ?_
                  refine WL.v (Runs.move rfl) rfl ?_
                  refine WL.v (Runs.addn rfl rfl (by omega)) rfl ?_
                  refine WL.v (Runs.assign rfl) rfl ?_
                  refine WL.nil ?_
                  exact WN.again (k + 1) (by omega) ⟨rfl, rfl, rfl, rfl, rfl, rfl, rfl, rfl, trivial⟩ ⟨by omega, hL⟩
                · skip
                  refine WC.reg ?_
                  refine WL.v (Runs.move rfl) rfl ?_
                  refine WL.v (Runs.move rfl) rfl ?_
                  refine WL.v (Runs.llen Try.underlying22 rfl rfl) rfl ?_
                  refine WL.v (Runs.boolT (c := true) (Runs.lss rfl rfl) (by rw [decide_eq_true_eq]; omega)) rfl ?_
                  refine WL.v (Runs.move rfl) rfl ?_
                  refine WL.gon rfl rfl rfl ?_
                  refine WL.v (Runs.move rfl) rfl ?_
                  refine WL.gon rfl rfl rfl ?_
                  refine WL.v (Runs.boolT (c := false) (Runs.eql rfl rfl) (decide_eq_false hs1)) rfl ?_
                  refine WL.gon rfl rfl rfl ?_
                  refine WL.v (Runs.move rfl) rfl ?_
                  refine WL.gon rfl rfl rfl ?_
                  refine WL.v (Runs.move rfl) rfl ?_
                  refine WL.gon rfl rfl rfl ?_
                  refine WL.v (Runs.boolT (c := false) (Runs.eql rfl rfl) (decide_eq_false hs3)) rfl ?_
                  refine WL.gon rfl rfl rfl ?_
                  refine WL.v (Runs.pick rfl rfl rfl) rfl ?_
                  refine WL.v (Runs.pick rfl rfl rfl) rfl ?_
                  refine WL.nil ?_
                  refine WN.thn ?_
                  refine WC.condF rfl (rfl) ?_
                  refine WC.exit ?_
                  refine WX.thn ?_
                  refine WX.cut ?_
                  refine WX.hit ?_
                  refine WN.thn ?_
                  refine WC.reg ?_
                  refine WL.v (Runs.move rfl) rfl ?_
                  refine WL.v (Runs.assign rfl) rfl ?_
                  refine WL.nil ?_
                  refine WN.blk ?_
                  refine WN.thn ?_
                  refine WC.reg ?_
                  refine WL.v (Runs.move rfl) rfl ?_
                  refine WL.v (Runs.addn rfl rfl (by omega)) rfl ?_
                  refine WL.v (Runs.assign rfl) rfl ?_
                  refine WL.nil ?_
                  exact WN.again (⟨i + 1, _, p3, (t.vote (os.getD i o0).n (os.getD i o0).y).2, ys⟩ : Nat × Snap × List Res × T × List Bool) (by show os.length - (i + 1) < os.length - i; omega) ⟨rfl, rfl, rfl, rfl, rfl, rfl, trivial⟩ ⟨by show i + 1 ≤ _; omega, Le.trans hG (Le.trans hgb hl3), hp3, htn2, by simpa using hy, hyes, hL⟩
              · skip
                refine WC.reg ?_
                refine WL.v (Runs.move rfl) rfl ?_
                refine WL.v (Runs.move rfl) rfl ?_
                refine WL.v (Runs.boolT (c := true) (Runs.neq rfl rfl) (by rw [decide_eq_false hW0]; rfl)) rfl ?_
                refine WL.v (Runs.move rfl) rfl ?_
                refine WL.gon rfl rfl rfl ?_
                refine WL.v (Runs.move rfl) rfl ?_
                refine WL.gon rfl rfl rfl ?_
                refine WL.v (Runs.boolT (c := true) (Runs.neq rfl rfl) (by rw [hW1]; rfl)) rfl ?_
                refine WL.v (Runs.pick rfl rfl rfl) rfl ?_
                refine WL.v (Runs.move rfl) rfl ?_
                refine WL.gon rfl rfl rfl ?_
                refine WL.v (Runs.move rfl) rfl ?_
                refine WL.gon rfl rfl rfl ?_
                refine WL.v (Runs.boolT (c := false) (Runs.neq rfl rfl) (by rw [decide_eq_true hW1]; rfl)) rfl ?_
                refine WL.gon rfl rfl rfl ?_
                refine WL.v (Runs.move rfl) rfl ?_
                refine WL.gon rfl rfl rfl ?_
                refine WL.v (Runs.move rfl) rfl ?_
                refine WL.gon rfl rfl rfl ?_
                refine WL.v (Runs.boolT (c := false) (Runs.neq rfl rfl) (by rw [decide_eq_true hW]; rfl)) rfl ?_
                refine WL.gon rfl rfl rfl ?_
                refine WL.v (Runs.pick rfl rfl rfl) rfl ?_
                refine WL.v (Runs.pick rfl rfl rfl) rfl ?_
                refine WL.nil ?_
                refine WN.thn ?_
                refine WC.condF rfl (rfl) ?_
                refine WC.skip ?_
                refine WN.thn ?_
                refine WC.seq ?_
                refine WC.seq ?_
                refine WC.reg ?_
                refine WL.v (Runs.assign rfl) rfl ?_
                refine WL.nil ?_
                refine WN.thn ?_
                refine WC.block ?_
                have htn2 : (t.vote (os.getD i o0).n (os.getD i o0).y).2.ns = ns := htn
                have hl2 : (t.vote (os.getD i o0).n (os.getD i o0).y).2.vs.length = (t.vote (os.getD i o0).n (os.getD i o0).y).2.ns.length := hp3.facts.1
                replace hyes : Yes t.ns ys t := by rw [htn]; exact hyes
                replace hyes : Yes ns ys (t.vote (os.getD i o0).n (os.getD i o0).y).2 := by have := Yes.vote (n := (os.getD i o0).n) (y := (os.getD i o0).y) hnd hlv hyes hvno; rw [htn] at this; exact this
                have hyl : ys.length = 16 := by simp [hy]
                refine WC.loop (σ := Nat) (fun q_ => [(0, .slice (some ad) ns.length cap), (1, .slice (some bd) os.length cap2), (5, .pointer (some ⟨a, 0, none⟩)), (6, .slice (some ⟨yb, 0, none⟩) 16 16), (7, Vi t.state), (8, .int .i64 (i : Int)), (11, Vi (t.vote (os.getD i o0).n (os.getD i o0).y).2.state), (12, .int .i64 (q_ : Int))]) (fun q_ w => q_ ≤ ns.length ∧ St W G3 (p3 ++ ([(yb, .cells (ys.map Value.bool ++ []).toArray 4 (0, 0))] :: cs)) w) (fun q_ => ns.length - q_) (0) (by repeat (first | exact trivial | refine ⟨rfl, ?_⟩)) (⟨by omega, h23⟩) ?_
                rintro k w26 ⟨hkk, hL⟩
                try dsimp only at hkk hL
                refine WC.sub (s := [(0, .slice (some ad) ns.length cap), (1, .slice (some bd) os.length cap2), (5, .pointer (some ⟨a, 0, none⟩)), (6, .slice (some ⟨yb, 0, none⟩) 16 16), (7, Vi t.state), (8, .int .i64 (i : Int)), (11, Vi (t.vote (os.getD i o0).n (os.getD i o0).y).2.state), (12, .int .i64 (k : Int))]) (by repeat (first | exact trivial | refine ⟨rfl, ?_⟩)) ?_
                refine WC.seq ?_
                refine WC.seq ?_
                have hcase : (¬ k < ns.length) ∨ (k < ns.length ∧ (t.vote (os.getD i o0).n (os.getD i o0).y).2.state = 1) ∨ (k < ns.length ∧ (t.vote (os.getD i o0).n (os.getD i o0).y).2.state ≠ 1 ∧ (t.vote (os.getD i o0).n (os.getD i o0).y).2.state = 3) ∨ (k < ns.length ∧ (t.vote (os.getD i o0).n (os.getD i o0).y).2.state ≠ 1 ∧ (t.vote (os.getD i o0).n (os.getD i o0).y).2.state ≠ 3) := by omega
                rcases hcase with hc | ⟨hkn, hs1⟩ | ⟨hkn, hs1, hs3⟩ | ⟨hkn, hs1, hs3⟩
                · skip
                  refine WC.reg ?_
                  refine WL.v (Runs.move rfl) rfl ?_
                  refine WL.v (Runs.move rfl) rfl ?_
                  refine WL.v (Runs.llen Try.underlying22 rfl rfl) rfl ?_
                  refine WL.v (Runs.boolT (c := false) (Runs.lss rfl rfl) (by rw [decide_eq_false_iff_not]; omega)) rfl ?_
                  refine WL.v (Runs.move rfl) rfl ?_
                  refine WL.goff rfl rfl rfl rfl ?_
                  refine WL.goff rfl rfl rfl rfl ?_
                  refine WL.goff rfl rfl rfl rfl ?_
                  refine WL.goffU rfl rfl rfl ?_
                  refine WL.goffU rfl rfl rfl ?_
                  refine WL.goff rfl rfl rfl rfl ?_
                  refine WL.v (Runs.pick rfl rfl rfl) rfl ?_
                  refine WL.nil ?_
                  refine WN.thn ?_
                  refine WC.condF rfl (rfl) ?_
                  refine WC.exit ?_
                  refine WX.thn ?_
                  refine WX.cut ?_
                  refine WX.hit ?_
                  refine WN.thn ?_
                  refine WC.reg ?_
                  refine WL.v (Runs.move rfl) rfl ?_
                  refine WL.v (Runs.assign rfl) rfl ?_
                  refine WL.nil ?_
                  refine WN.blk ?_
                  refine WN.thn ?_
                  refine WC.reg ?_
                  refine WL.v (Runs.move rfl) rfl ?_
                  refine WL.v (Runs.addn rfl rfl (by omega)) rfl ?_
                  refine WL.v (Runs.assign rfl) rfl ?_
                  refine WL.nil ?_
                  exact WN.again (⟨i + 1, _, p3, (t.vote (os.getD i o0).n (os.getD i o0).y).2, ys⟩ : Nat × Snap × List Res × T × List Bool) (by show os.length - (i + 1) < os.length - i; omega) ⟨rfl, rfl, rfl, rfl, rfl, rfl, trivial⟩ ⟨by show i + 1 ≤ _; omega, Le.trans hG (Le.trans hgb hl3), hp3, htn2, by simpa using hy, hyes, hL⟩
                · have hst : (t.vote (os.getD i o0).n (os.getD i o0).y).2.state = 1 ∨ (t.vote (os.getD i o0).n (os.getD i o0).y).2.state = 3 := .inl hs1
                  refine WC.reg ?_
                  refine WL.v (Runs.move rfl) rfl ?_
                  refine WL.v (Runs.move rfl) rfl ?_
                  refine WL.v (Runs.llen Try.underlying22 rfl rfl) rfl ?_
                  refine WL.v (Runs.boolT (c := true) (Runs.lss rfl rfl) (by rw [decide_eq_true_eq]; omega)) rfl ?_
                  refine WL.v (Runs.move rfl) rfl ?_
                  refine WL.gon rfl rfl rfl ?_
                  refine WL.v (Runs.move rfl) rfl ?_
                  refine WL.gon rfl rfl rfl ?_
                  refine WL.v (Runs.boolT (c := true) (Runs.eql rfl rfl) (decide_eq_true hs1)) rfl ?_
                  refine WL.gon rfl rfl rfl ?_
                  refine WL.v (Runs.move rfl) rfl ?_
                  refine WL.goff rfl rfl rfl rfl ?_
                  refine WL.goff rfl rfl rfl rfl ?_
                  refine WL.gon rfl rfl rfl ?_
                  refine WL.v (Runs.pick rfl rfl rfl) rfl ?_
                  refine WL.v (Runs.pick rfl rfl rfl) rfl ?_
                  refine WL.nil ?_
                  refine WN.thn ?_
                  refine WC.condT rfl (rfl) ?_
                  refine WC.skip ?_
                  refine WN.thn ?_
                  refine WC.seq ?_
                  refine WC.block ?_
                  refine WC.seq ?_
                  have hkn2 : k < (t.vote (os.getD i o0).n (os.getD i o0).y).2.ns.length := by rw [htn2]; exact hkn
                  have hkr : (ns.getD k 0).toNat < ys.length := by rw [hyl]; have := hok.2.1 k hkn; omega
                  refine WC.reg ?_
                  refine WL.v (Runs.move rfl) rfl ?_
                  refine WL.v (Runs.move rfl) rfl ?_
                  refine WL.v (Runs.move rfl) rfl ?_
                  refine WL.v (Runs.lidxN Try.underlying22 inf3 rfl rfl (n := k) rfl (by omega)) rfl ?_
                  refine WL.v (Runs.loadR (f := Vi) (0 : Int) (hL.weak (Le.trans hG (Le.trans hgb hl3))) hrd (n := k) (by omega) Try.underlying3 rfl rfl) rfl ?_
                  refine WL.v (Runs.valT (u := .pointer (some ⟨yb, (ns.getD k 0).toNat, none⟩)) (Runs.lidx Try.underlying37 inf4 rfl rfl ⟨(hok.2.1 k hkn).1, by have := (hok.2.1 k hkn).2; omega⟩) (by rw [add_mk, Nat.mul_one, Nat.zero_add])) rfl ?_
                  refine WL.v (Runs.boolT (c := true) (Runs.load1 Try.underlying4 rfl rfl ((St_front hL).ocell (i := 0) rfl (ys_at _ hkr))) (hyes k hkn (all_yes hl2 hst hkn2))) rfl ?_
                  refine WL.v (Runs.not rfl) rfl ?_
                  refine WL.nil ?_
                  refine WN.thn ?_
                  refine WC.condF rfl (rfl) ?_
                  refine WC.skip ?_
                  refine WN.blk ?_
                  refine WN.thn ?_
                  refine WC.reg ?_
                  refine WL.v (Runs.move rfl) rfl ?_
                  refine WL.v (Runs.addn rfl rfl (by omega)) rfl ?_
                  refine WL.v (Runs.assign rfl) rfl ?_
                  refine WL.nil ?_
                  exact WN.again (k + 1) (by omega) ⟨rfl, rfl, rfl, rfl, rfl, rfl, rfl, rfl, trivial⟩ ⟨by omega, hL⟩
                · have hst : (t.vote (os.getD i o0).n (os.getD i o0).y).2.state = 1 ∨ (t.vote (os.getD i o0).n (os.getD i o0).y).2.state = 3 := .inr hs3
                  refine WC.reg ?_
                  refine WL.v (Runs.move rfl) rfl ?_
                  refine WL.v (Runs.move rfl) rfl ?_
                  refine WL.v (Runs.llen Try.underlying22 rfl rfl) rfl ?_
                  refine WL.v (Runs.boolT (c := true) (Runs.lss rfl rfl) (by rw [decide_eq_true_eq]; omega)) rfl ?_
                  refine WL.v (Runs.move rfl) rfl ?_
                  refine WL.gon rfl rfl rfl ?_
                  refine WL.v (Runs.move rfl) rfl ?_
                  refine WL.gon rfl rfl rfl ?_
                  refine WL.v (Runs.boolT (c := false) (Runs.eql rfl rfl) (decide_eq_false hs1)) rfl ?_
                  refine WL.gon rfl rfl rfl ?_
                  refine WL.v (Runs.move rfl) rfl ?_
                  refine WL.gon rfl rfl rfl ?_
                  refine WL.v (Runs.move rfl) rfl ?_
                  refine WL.gon rfl rfl rfl ?_
                  refine WL.v (Runs.boolT (c := true) (Runs.eql rfl rfl) (decide_eq_true hs3)) rfl ?_
                  refine WL.gon rfl rfl rfl ?_
                  refine WL.v (Runs.pick rfl rfl rfl) rfl ?_
                  refine WL.v (Runs.pick rfl rfl rfl) rfl ?_
                  refine WL.nil ?_
                  refine WN.thn ?_
                  refine WC.condT rfl (rfl) ?_
                  refine WC.skip ?_
                  refine WN.thn ?_
                  refine WC.seq ?_
                  refine WC.block ?_
                  refine WC.seq ?_
                  have hkn2 : k < (t.vote (os.getD i o0).n (os.getD i o0).y).2.ns.length := by rw [htn2]; exact hkn
                  have hkr : (ns.getD k 0).toNat < ys.length := by rw [hyl]; have := hok.2.1 k hkn; omega
                  refine WC.reg ?_
                  refine WL.v (Runs.move rfl) rfl ?_
                  refine WL.v (Runs.move rfl) rfl ?_
                  refine WL.v (Runs.move rfl) rfl ?_
                  refine WL.v (Runs.lidxN Try.underlying22 inf3 rfl rfl (n := k) rfl (by omega)) rfl ?_
                  refine WL.v (Runs.loadR (f := Vi) (0 : Int) (hL.weak (Le.trans hG (Le.trans hgb hl3))) hrd (n := k) (by omega) Try.underlying3 rfl rfl) rfl ?_
                  refine WL.v (Runs.valT (u := .pointer (some ⟨yb, (ns.getD k 0).toNat, none⟩)) (Runs.lidx Try.underlying37 inf4 rfl rfl ⟨(hok.2.1 k hkn).1, by have := (hok.2.1 k hkn).2; omega⟩) (by rw [add_mk, Nat.mul_one, Nat.zero_add])) rfl ?_
                  refine WL.v (Runs.boolT (c := true) (Runs.load1 Try.underlying4 rfl rfl ((St_front hL).ocell (i := 0) rfl (ys_at _ hkr))) (hyes k hkn (all_yes hl2 hst hkn2))) rfl ?_
                  refine WL.v (Runs.not rfl) rfl ?_
                  refine WL.nil ?_
                  refine WN.thn ?_
                  refine WC.condF rfl (rfl) ?_
                  refine WC.skip ?_
                  refine WN.blk ?_
                  refine WN.thn ?_
                  refine WC.reg ?_
                  refine WL.v (Runs.move rfl) rfl ?_
                  refine WL.v (Runs.addn rfl rfl (by omega)) rfl ?_
                  refine WL.v (Runs.assign rfl) rfl ?_
                  refine WL.nil ?_
                  exact WN.again (k + 1) (by omega) ⟨rfl, rfl, rfl, rfl, rfl, rfl, rfl, rfl, trivial⟩ ⟨by omega, hL⟩
                · skip
                  refine WC.reg ?_
                  refine WL.v (Runs.move rfl) rfl ?_
                  refine WL.v (Runs.move rfl) rfl ?_
                  refine WL.v (Runs.llen Try.underlying22 rfl rfl) rfl ?_
                  refine WL.v (Runs.boolT (c := true) (Runs.lss rfl rfl) (by rw [decide_eq_true_eq]; omega)) rfl ?_
                  refine WL.v (Runs.move rfl) rfl ?_
                  refine WL.gon rfl rfl rfl ?_
                  refine WL.v (Runs.move rfl) rfl ?_
                  refine WL.gon rfl rfl rfl ?_
                  refine WL.v (Runs.boolT (c := false) (Runs.eql rfl rfl) (decide_eq_false hs1)) rfl ?_
                  refine WL.gon rfl rfl rfl ?_
                  refine WL.v (Runs.move rfl) rfl ?_
                  refine WL.gon rfl rfl rfl ?_
                  refine WL.v (Runs.move rfl) rfl ?_
                  refine WL.gon rfl rfl rfl ?_
                  refine WL.v (Runs.boolT (c := false) (Runs.eql rfl rfl) (decide_eq_false hs3)) rfl ?_
                  refine WL.gon rfl rfl rfl ?_
                  refine WL.v (Runs.pick rfl rfl rfl) rfl ?_
                  refine WL.v (Runs.pick rfl rfl rfl) rfl ?_
                  refine WL.nil ?_
                  refine WN.thn ?_
                  refine WC.condF rfl (rfl) ?_
                  refine WC.exit ?_
                  refine WX.thn ?_
                  refine WX.cut ?_
                  refine WX.hit ?_
                  refine WN.thn ?_
                  refine WC.reg ?_
                  refine WL.v (Runs.move rfl) rfl ?_
                  refine WL.v (Runs.assign rfl) rfl ?_
                  refine WL.nil ?_
                  refine WN.blk ?_
                  refine WN.thn ?_
                  refine WC.reg ?_
                  refine WL.v (Runs.move rfl) rfl ?_
                  refine WL.v (Runs.addn rfl rfl (by omega)) rfl ?_
                  refine WL.v (Runs.assign rfl) rfl ?_
                  refine WL.nil ?_
                  exact WN.again (⟨i + 1, _, p3, (t.vote (os.getD i o0).n (os.getD i o0).y).2, ys⟩ : Nat × Snap × List Res × T × List Bool) (by show os.length - (i + 1) < os.length - i; omega) ⟨rfl, rfl, rfl, rfl, rfl, rfl, trivial⟩ ⟨by show i + 1 ≤ _; omega, Le.trans hG (Le.trans hgb hl3), hp3, htn2, by simpa using hy, hyes, hL⟩
        · try simp only [decide_eq_true_eq, decide_eq_false_iff_not, Bool.not_eq_true', Bool.not_eq_false', Bool.and_eq_true, Int.not_lt, Int.not_le] at c12
          first
          | (exfalso; omega)
          | skip
            
            refine WC.reg ?_
            refine WL.v (Runs.move rfl) rfl ?_
            refine WL.v (Runs.fld fld31_1 rfl) rfl ?_
            refine WL.v (Runs.load1 Try.underlying3 rfl rfl (S0.cell hk1)) rfl ?_
            refine WL.v (Runs.fld fld31_3 rfl) rfl ?_
            refine WL.v (Runs.load1 Try.underlying3 rfl rfl (S0.cell hk3)) rfl ?_
            refine WL.call can23 rfl rfl (texit_t _ (os.getD i o0).n (os.getD i o0).c S0 (hp.mono hgb)) ?_
            rintro _ w27 ⟨G3, p3, hl3, rfl, hp3, h27⟩
            refine ⟨_, rfl, ?_⟩
            refine WL.nil ?_
            refine WN.thn ?_
            refine WC.seq ?_
            refine WC.reg ?_
            refine WL.v (Runs.move rfl) rfl ?_
            refine WL.call can13 rfl rfl (tstate_t _ h27 hp3) ?_
            rintro _ w28 ⟨rfl, h28⟩
            refine ⟨_, rfl, ?_⟩
            refine WL.v (Runs.assign rfl) rfl ?_
            refine WL.nil ?_
            refine WN.thn ?_
            refine WC.seq ?_
            refine WC.seq ?_
            rcases way_e t (os.getD i o0).n (os.getD i o0).c with hW | ⟨hW0, hW⟩ | ⟨hW0, hW1, hW⟩
            · skip
              refine WC.reg ?_
              refine WL.v (Runs.move rfl) rfl ?_
              refine WL.v (Runs.move rfl) rfl ?_
              refine WL.v (Runs.boolT (c := false) (Runs.neq rfl rfl) (by rw [decide_eq_true hW]; rfl)) rfl ?_
              refine WL.v (Runs.move rfl) rfl ?_
              refine WL.goff rfl rfl rfl rfl ?_
              refine WL.goff rfl rfl rfl rfl ?_
              refine WL.v (Runs.pick rfl rfl rfl) rfl ?_
              refine WL.v (Runs.move rfl) rfl ?_
              refine WL.goff rfl rfl rfl rfl ?_
              refine WL.goff rfl rfl rfl rfl ?_
              refine WL.goff rfl rfl rfl rfl ?_
              refine WL.goffU rfl rfl rfl ?_
              refine WL.goffU rfl rfl rfl ?_
              refine WL.goff rfl rfl rfl rfl ?_
              refine WL.v (Runs.pick rfl rfl rfl) rfl ?_
              refine WL.nil ?_
              refine WN.thn ?_
              refine WC.condF rfl (rfl) ?_
              refine WC.skip ?_
              refine WN.thn ?_
              refine WC.seq ?_
              refine WC.seq ?_
              refine WC.reg ?_
              refine WL.v (Runs.assign rfl) rfl ?_
              refine WL.nil ?_
              refine WN.thn ?_
              refine WC.block ?_
              have htn2 : (t.exit (os.getD i o0).n (os.getD i o0).c).2.ns = ns := (exit_vs _ _ _).2.trans htn
              have hl2 : (t.exit (os.getD i o0).n (os.getD i o0).c).2.vs.length = (t.exit (os.getD i o0).n (os.getD i o0).c).2.ns.length := hp3.facts.1
              replace hyes : Yes t.ns ys t := by rw [htn]; exact hyes
              replace hyes : Yes ns ys (t.exit (os.getD i o0).n (os.getD i o0).c).2 := by have := Yes.exit (n := (os.getD i o0).n) (c := (os.getD i o0).c) hyes; rw [htn] at this; exact this
              have hyl : ys.length = 16 := by simp [hy]
              refine WC.loop (σ := Nat) (fun q_ => [(0, .slice (some ad) ns.length cap), (1, .slice (some bd) os.length cap2), (5, .pointer (some ⟨a, 0, none⟩)), (6, .slice (some ⟨yb, 0, none⟩) 16 16), (7, Vi t.state), (8, .int .i64 (i : Int)), (11, Vi (t.exit (os.getD i o0).n (os.getD i o0).c).2.state), (12, .int .i64 (q_ : Int))]) (fun q_ w => q_ ≤ ns.length ∧ St W G3 (p3 ++ ([(yb, .cells (ys.map Value.bool ++ []).toArray 4 (0, 0))] :: cs)) w) (fun q_ => ns.length - q_) (0) (by repeat (first | exact trivial | refine ⟨rfl, ?_⟩)) (⟨by omega, h28⟩) ?_
              rintro k w29 ⟨hkk, hL⟩
              try dsimp only at hkk hL
              refine WC.sub (s := [(0, .slice (some ad) ns.length cap), (1, .slice (some bd) os.length cap2), (5, .pointer (some ⟨a, 0, none⟩)), (6, .slice (some ⟨yb, 0, none⟩) 16 16), (7, Vi t.state), (8, .int .i64 (i : Int)), (11, Vi (t.exit (os.getD i o0).n (os.getD i o0).c).2.state), (12, .int .i64 (k : Int))]) (by repeat (first | exact trivial | refine ⟨rfl, ?_⟩)) ?_
              refine WC.seq ?_
              refine WC.seq ?_
              have hcase : (¬ k < ns.length) ∨ (k < ns.length ∧ (t.exit (os.getD i o0).n (os.getD i o0).c).2.state = 1) ∨ (k < ns.length ∧ (t.exit (os.getD i o0).n (os.getD i o0).c).2.state ≠ 1 ∧ (t.exit (os.getD i o0).n (os.getD i o0).c).2.state = 3) ∨ (k < ns.length ∧ (t.exit (os.getD i o0).n (os.getD i o0).c).2.state ≠ 1 ∧ (t.exit (os.getD i o0).n (os.getD i o0).c).2.state ≠ 3) := by omega
              rcases hcase with hc | ⟨hkn, hs1⟩ | ⟨hkn, hs1, hs3⟩ | ⟨hkn, hs1, hs3⟩
              · skip
                refine WC.reg ?_
                refine WL.v (Runs.move rfl) rfl ?_
                refine WL.v (Runs.move rfl) rfl ?_
                refine WL.v (Runs.llen Try.underlying22 rfl rfl) rfl ?_
                refine WL.v (Runs.boolT (c := false) (Runs.lss rfl rfl) (by rw [decide_eq_false_iff_not]; omega)) rfl ?_
                refine WL.v (Runs.move rfl) rfl ?_
                refine WL.goff rfl rfl rfl rfl ?_
                refine WL.goff rfl rfl rfl rfl ?_
                refine WL.goff rfl rfl rfl rfl ?_
                refine WL.goffU rfl rfl rfl ?_
                refine WL.goffU rfl rfl rfl ?_
                refine WL.goff rfl rfl rfl rfl ?_
                refine WL.v (Runs.pick rfl rfl rfl) rfl ?_
                refine WL.nil ?_
                refine WN.thn ?_
                refine WC.condF rfl (rfl) ?_
                refine WC.exit ?_
                refine WX.thn ?_
                refine WX.cut ?_
                refine WX.hit ?_
                refine WN.thn ?_
                refine WC.reg ?_
                refine WL.v (Runs.move rfl) rfl ?_
                refine WL.v (Runs.assign rfl) rfl ?_
                refine WL.nil ?_
                refine WN.blk ?_
                refine WN.thn ?_
                refine WC.reg ?_
                refine WL.v (Runs.move rfl) rfl ?_
                refine WL.v (Runs.addn rfl rfl (by omega)) rfl ?_
                refine WL.v (Runs.assign rfl) rfl ?_
                refine WL.nil ?_
                exact WN.again (⟨i + 1, _, p3, (t.exit (os.getD i o0).n (os.getD i o0).c).2, ys⟩ : Nat × Snap × List Res × T × List Bool) (by show os.length - (i + 1) < os.length - i; omega) ⟨rfl, rfl, rfl, rfl, rfl, rfl, trivial⟩ ⟨by show i + 1 ≤ _; omega, Le.trans hG (Le.trans hgb hl3), hp3, htn2, by simpa using hy, hyes, hL⟩
              · have hst : (t.exit (os.getD i o0).n (os.getD i o0).c).2.state = 1 ∨ (t.exit (os.getD i o0).n (os.getD i o0).c).2.state = 3 := .inl hs1
                refine WC.reg ?_
                refine WL.v (Runs.move rfl) rfl ?_
                refine WL.v (Runs.move rfl) rfl ?_
                refine WL.v (Runs.llen Try.underlying22 rfl rfl) rfl ?_
                refine WL.v (Runs.boolT (c := true) (Runs.lss rfl rfl) (by rw [decide_eq_true_eq]; omega)) rfl ?_
                refine WL.v (Runs.move rfl) rfl ?_
                refine WL.gon rfl rfl rfl ?_
                refine WL.v (Runs.move rfl) rfl ?_
                refine WL.gon rfl rfl rfl ?_
                refine WL.v (Runs.boolT (c := true) (Runs.eql rfl rfl) (decide_eq_true hs1)) rfl ?_
                refine WL.gon rfl rfl rfl ?_
                refine WL.v (Runs.move rfl) rfl ?_
                refine WL.goff rfl rfl rfl rfl ?_
                refine WL.goff rfl rfl rfl rfl ?_
                refine WL.gon rfl rfl rfl ?_
                refine WL.v (Runs.pick rfl rfl rfl) rfl ?_
                refine WL.v (Runs.pick rfl rfl rfl) rfl ?_
                refine WL.nil ?_
                refine WN.thn ?_
                refine WC.condT rfl (rfl) ?_
                refine WC.skip ?_
                refine WN.thn ?_
                refine WC.seq ?_
                refine WC.block ?_
                refine WC.seq ?_
                have hkn2 : k < (t.exit (os.getD i o0).n (os.getD i o0).c).2.ns.length := by rw [htn2]; exact hkn
                have hkr : (ns.getD k 0).toNat < ys.length := by rw [hyl]; have := hok.2.1 k hkn; omega
                refine WC.reg ?_
                refine WL.v (Runs.move rfl) rfl ?_
                refine WL.v (Runs.move rfl) rfl ?_
                refine WL.v (Runs.move rfl) rfl ?_
                refine WL.v (Runs.lidxN Try.underlying22 inf3 rfl rfl (n := k) rfl (by omega)) rfl ?_
                refine WL.v (Runs.loadR (f := Vi) (0 : Int) (hL.weak (Le.trans hG (Le.trans hgb hl3))) hrd (n := k) (by omega) Try.underlying3 rfl rfl) rfl ?_
                refine WL.v (Runs.valT (u := .pointer (some ⟨yb, (ns.getD k 0).toNat, none⟩)) (Runs.lidx Try.underlying37 inf4 rfl rfl ⟨(hok.2.1 k hkn).1, by have := (hok.2.1 k hkn).2; omega⟩) (by rw [add_mk, Nat.mul_one, Nat.zero_add])) rfl ?_
                refine WL.v (Runs.boolT (c := true) (Runs.load1 Try.underlying4 rfl rfl ((St_front hL).ocell (i := 0) rfl (ys_at _ hkr))) (hyes k hkn (all_yes hl2 hst hkn2))) rfl ?_
                refine WL.v (Runs.not rfl) rfl ?_
                refine WL.nil ?_
                refine WN.thn ?_
                refine WC.condF rfl (rfl) ?_
                refine WC.skip ?_
                refine WN.blk ?_
                refine WN.thn ?_
                refine WC.reg ?_
                refine WL.v (Runs.move rfl) rfl ?_
                refine WL.v (Runs.addn rfl rfl (by omega)) rfl ?_
                refine WL.v (Runs.assign rfl) rfl ?_
                refine WL.nil ?_
                exact WN.again (k + 1) (by omega) ⟨rfl, rfl, rfl, rfl, rfl, rfl, rfl, rfl, trivial⟩ ⟨by omega, hL⟩
              · have hst : (t.exit (os.getD i o0).n (os.getD i o0).c).2.state = 1 ∨ (t.exit (os.getD i o0).n (os.getD i o0).c).2.state = 3 := .inr hs3
                refine WC.reg ?_
                refine WL.v (Runs.move rfl) rfl ?_
                refine WL.v (Runs.move rfl) rfl ?_
                refine WL.v (Runs.llen Try.underlying22 rfl rfl) rfl ?_
                refine WL.v (Runs.boolT (c := true) (Runs.lss rfl rfl) (by rw [decide_eq_true_eq]; omega)) rfl ?_
                refine WL.v (Runs.move rfl) rfl ?_
                refine WL.gon rfl rfl rfl ?_
                refine WL.v (Runs.move rfl) rfl ?_
                refine WL.gon rfl rfl rfl ?_
                refine WL.v (Runs.boolT (c := false) (Runs.eql rfl rfl) (decide_eq_false hs1)) rfl ?_
                refine WL.gon rfl rfl rfl ?_
                refine WL.v (Runs.move rfl) rfl ?_
                refine WL.gon rfl rfl rfl ?_
                refine WL.v (Runs.move rfl) rfl ?_
                refine WL.gon rfl rfl rfl ?_
                refine WL.v (Runs.boolT (c := true) (Runs.eql rfl rfl) (decide_eq_true hs3)) rfl ?_
                refine WL.gon rfl rfl rfl ?_
                refine WL.v (Runs.pick rfl rfl rfl) rfl ?_
                refine WL.v (Runs.pick rfl rfl rfl) rfl ?_
                refine WL.nil ?_
                refine WN.thn ?_
                refine WC.condT rfl (rfl) ?_
                refine WC.skip ?_
                refine WN.thn ?_
                refine WC.seq ?_
                refine WC.block ?_
                refine WC.seq ?_
                have hkn2 : k < (t.exit (os.getD i o0).n (os.getD i o0).c).2.ns.length := by rw [htn2]; exact hkn
                have hkr : (ns.getD k 0).toNat < ys.length := by rw [hyl]; have := hok.2.1 k hkn; omega
                refine WC.reg ?_
                refine WL.v (Runs.move rfl) rfl ?_
                refine WL.v (Runs.move rfl) rfl ?_
                refine WL.v (Runs.move rfl) rfl ?_
                refine WL.v (Runs.lidxN Try.underlying22 inf3 rfl rfl (n := k) rfl (by omega)) rfl ?_
                refine WL.v (Runs.loadR (f := Vi) (0 : Int) (hL.weak (Le.trans hG (Le.trans hgb hl3))) hrd (n := k) (by omega) Try.underlying3 rfl rfl) rfl ?_
                refine WL.v (Runs.valT (u := .pointer (some ⟨yb, (ns.getD k 0).toNat, none⟩)) (Runs.lidx Try.underlying37 inf4 rfl rfl ⟨(hok.2.1 k hkn).1, by have := (hok.2.1 k hkn).2; omega⟩) (by rw [add_mk, Nat.mul_one, Nat.zero_add])) rfl ?_
                refine WL.v (Runs.boolT (c := true) (Runs.load1 Try.underlying4 rfl rfl ((St_front hL).ocell (i := 0) rfl (ys_at _ hkr))) (hyes k hkn (all_yes hl2 hst hkn2))) rfl ?_
                refine WL.v (Runs.not rfl) rfl ?_
                refine WL.nil ?_
                refine WN.thn ?_
                refine WC.condF rfl (rfl) ?_
                refine WC.skip ?_
                refine WN.blk ?_
                refine WN.thn ?_
                refine WC.reg ?_
                refine WL.v (Runs.move rfl) rfl ?_
                refine WL.v (Runs.addn rfl rfl (by omega)) rfl ?_
                refine WL.v (Runs.assign rfl) rfl ?_
                refine WL.nil ?_
                exact WN.again (k + 1) (by omega) ⟨rfl, rfl, rfl, rfl, rfl, rfl, rfl, rfl, trivial⟩ ⟨by omega, hL⟩
              · skip
                refine WC.reg ?_
                refine WL.v (Runs.move rfl) rfl ?_
                refine WL.v (Runs.move rfl) rfl ?_
                refine WL.v (Runs.llen Try.underlying22 rfl rfl) rfl ?_
                refine WL.v (Runs.boolT (c := true) (Runs.lss rfl rfl) (by rw [decide_eq_true_eq]; omega)) rfl ?_
                refine WL.v (Runs.move rfl) rfl ?_
                refine WL.gon rfl rfl rfl ?_
                refine WL.v (Runs.move rfl) rfl ?_
                refine WL.gon rfl rfl rfl ?_
                refine WL.v (Runs.boolT (c := false) (Runs.eql rfl rfl) (decide_eq_false hs1)) rfl ?_
                refine WL.gon rfl rfl rfl ?_
                refine WL.v (Runs.move rfl) rfl ?_
                refine WL.gon rfl rfl rfl ?_
                refine WL.v (Runs.move rfl) rfl ?_
                refine WL.gon rfl rfl rfl ?_
                refine WL.v (Runs.boolT (c := false) (Runs.eql rfl rfl) (decide_eq_false hs3)) rfl ?_
                refine WL.gon rfl rfl rfl ?_
                refine WL.v (Runs.pick rfl rfl rfl) rfl ?_
                refine WL.v (Runs.pick rfl rfl rfl) rfl ?_
                refine WL.nil ?_
                refine WN.thn ?_
                refine WC.condF rfl (rfl) ?_
                refine WC.exit ?_
                refine WX.thn ?_
                refine WX.cut ?_
                refine WX.hit ?_
                refine WN.thn ?_
                refine WC.reg ?_
                refine WL.v (Runs.move rfl) rfl ?_
                refine WL.v (Runs.assign rfl) rfl ?_
                refine WL.nil ?_
                refine WN.blk ?_
                refine WN.thn ?_
                refine WC.reg ?_
                refine WL.v (Runs.move rfl) rfl ?_
                refine WL.v (Runs.addn rfl rfl (by omega)) rfl ?_
                refine WL.v (Runs.assign rfl) rfl ?_
                refine WL.nil ?_
                exact WN.again (⟨i + 1, _, p3, (t.exit (os.getD i o0).n (os.getD i o0).c).2, ys⟩ : Nat × Snap × List Res × T × List Bool) (by show os.length - (i + 1) < os.length - i; omega) ⟨rfl, rfl, rfl, rfl, rfl, rfl, trivial⟩ ⟨by show i + 1 ≤ _; omega, Le.trans hG (Le.trans hgb hl3), hp3, htn2, by simpa using hy, hyes, hL⟩
            · skip
              refine WC.reg ?_
              refine WL.v (Runs.move rfl) rfl ?_
              refine WL.v (Runs.move rfl) rfl ?_
              refine WL.v (Runs.boolT (c := true) (Runs.neq rfl rfl) (by rw [decide_eq_false hW0]; rfl)) rfl ?_
              refine WL.v (Runs.move rfl) rfl ?_
              refine WL.gon rfl rfl rfl ?_
              refine WL.v (Runs.move rfl) rfl ?_
              refine WL.gon rfl rfl rfl ?_
              refine WL.v (Runs.boolT (c := false) (Runs.neq rfl rfl) (by rw [decide_eq_true hW]; rfl)) rfl ?_
              refine WL.v (Runs.pick rfl rfl rfl) rfl ?_
              refine WL.v (Runs.move rfl) rfl ?_
              refine WL.goff rfl rfl rfl rfl ?_
              refine WL.goff rfl rfl rfl rfl ?_
              refine WL.goff rfl rfl rfl rfl ?_
              refine WL.goffU rfl rfl rfl ?_
              refine WL.goffU rfl rfl rfl ?_
              refine WL.goff rfl rfl rfl rfl ?_
              refine WL.v (Runs.pick rfl rfl rfl) rfl ?_
              refine WL.nil ?_
              refine WN.thn ?_
              refine WC.condF rfl (rfl) ?_
              refine WC.skip ?_
              refine WN.thn ?_
              refine WC.seq ?_
              refine WC.seq ?_
              refine WC.reg ?_
              refine WL.v (Runs.assign rfl) rfl ?_
              refine WL.nil ?_
              refine WN.thn ?_
              refine WC.block ?_
              have htn2 : (t.exit (os.getD i o0).n (os.getD i o0).c).2.ns = ns := (exit_vs _ _ _).2.trans htn
              have hl2 : (t.exit (os.getD i o0).n (os.getD i o0).c).2.vs.length = (t.exit (os.getD i o0).n (os.getD i o0).c).2.ns.length := hp3.facts.1
              replace hyes : Yes t.ns ys t := by rw [htn]; exact hyes
              replace hyes : Yes ns ys (t.exit (os.getD i o0).n (os.getD i o0).c).2 := by have := Yes.exit (n := (os.getD i o0).n) (c := (os.getD i o0).c) hyes; rw [htn] at this; exact this
              have hyl : ys.length = 16 := by simp [hy]
              refine WC.loop (σ := Nat) (fun q_ => [(0, .slice (some ad) ns.length cap), (1, .slice (some bd) os.length cap2), (5, .pointer (some ⟨a, 0, none⟩)), (6, .slice (some ⟨yb, 0, none⟩) 16 16), (7, Vi t.state), (8, .int .i64 (i : Int)), (11, Vi (t.exit (os.getD i o0).n (os.getD i o0).c).2.state), (12, .int .i64 (q_ : Int))]) (fun q_ w => q_ ≤ ns.length ∧ St W G3 (p3 ++ ([(yb, .cells (ys.map Value.bool ++ []).toArray 4 (0, 0))] :: cs)) w) (fun q_ => ns.length - q_) (0) (by repeat (first | exact trivial | refine ⟨rfl, ?_⟩)) (⟨by omega, h28⟩) ?_
              rintro k w30 ⟨hkk, hL⟩
              try dsimp only at hkk hL
              refine WC.sub (s := [(0, .slice (some ad) ns.length cap), (1, .slice (some bd) os.length cap2), (5, .pointer (some ⟨a, 0, none⟩)), (6, .slice (some ⟨yb, 0, none⟩) 16 16), (7, Vi t.state), (8, .int .i64 (i : Int)), (11, Vi (t.exit (os.getD i o0).n (os.getD i o0).c).2.state), (12, .int .i64 (k : Int))]) (by repeat (first | exact trivial | refine ⟨rfl, ?_⟩)) ?_
              refine WC.seq ?_
              refine WC.seq ?_
              have hcase : (¬ k < ns.length) ∨ (k < ns.length ∧ (t.exit (os.getD i o0).n (os.getD i o0).c).2.state = 1) ∨ (k < ns.length ∧ (t.exit (os.getD i o0).n (os.getD i o0).c).2.state ≠ 1 ∧ (t.exit (os.getD i o0).n (os.getD i o0).c).2.state = 3) ∨ (k < ns.length ∧ (t.exit (os.getD i o0).n (os.getD i o0).c).2.state ≠ 1 ∧ (t.exit (os.getD i o0).n (os.getD i o0).c).2.state ≠ 3) := by omega
              rcases hcase with hc | ⟨hkn, hs1⟩ | ⟨hkn, hs1, hs3⟩ | ⟨hkn, hs1, hs3⟩
              · skip
                refine WC.reg ?_
                refine WL.v (Runs.move rfl) rfl ?_
                refine WL.v (Runs.move rfl) rfl ?_
                refine WL.v (Runs.llen Try.underlying22 rfl rfl) rfl ?_
                refine WL.v (Runs.boolT (c := false) (Runs.lss rfl rfl) (by rw [decide_eq_false_iff_not]; omega)) rfl ?_
                refine WL.v (Runs.move rfl) rfl ?_
                refine WL.goff rfl rfl rfl rfl ?_
                refine WL.goff rfl rfl rfl rfl ?_
                refine WL.goff rfl rfl rfl rfl ?_
                refine WL.goffU rfl rfl rfl ?_
                refine WL.goffU rfl rfl rfl ?_
                refine WL.goff rfl rfl rfl rfl ?_
                refine WL.v (Runs.pick rfl rfl rfl) rfl ?_
                refine WL.nil ?_
                refine WN.thn ?_
                refine WC.condF rfl (rfl) ?_
                refine WC.exit ?_
                refine WX.thn ?_
                refine WX.cut ?_
                refine WX.hit ?_
                refine WN.thn ?_
                refine WC.reg ?_
                refine WL.v (Runs.move rfl) rfl ?_
                refine WL.v (Runs.assign rfl) rfl ?_
                refine WL.nil ?_
                refine WN.blk ?_
                refine WN.thn ?_
                refine WC.reg ?_
                refine WL.v (Runs.move rfl) rfl ?_
                refine WL.v (Runs.addn rfl rfl (by omega)) rfl ?_
                refine WL.v (Runs.assign rfl) rfl ?_
                refine WL.nil ?_
                exact WN.again (⟨i + 1, _, p3, (t.exit (os.getD i o0).n (os.getD i o0).c).2, ys⟩ : Nat × Snap × List Res × T × List Bool) (by show os.length - (i + 1) < os.length - i; omega) ⟨rfl, rfl, rfl, rfl, rfl, rfl, trivial⟩ ⟨by show i + 1 ≤ _; omega, Le.trans hG (Le.trans hgb hl3), hp3, htn2, by simpa using hy, hyes, hL⟩
              · have hst : (t.exit (os.getD i o0).n (os.getD i o0).c).2.state = 1 ∨ (t.exit (os.getD i o0).n (os.getD i o0).c).2.state = 3 := .inl hs1
                refine WC.reg ?_
                refine WL.v (Runs.move rfl) rfl ?_
                refine WL.v (Runs.move rfl) rfl ?_
                refine WL.v (Runs.llen Try.underlying22 rfl rfl) rfl ?_
                refine WL.v (Runs.boolT (c := true) (Runs.lss rfl rfl) (by rw [decide_eq_true_eq]; omega)) rfl ?_
                refine WL.v (Runs.move rfl) rfl ?_
                refine WL.gon rfl rfl rfl ?_
                refine WL.v (Runs.move rfl) rfl ?_
                refine WL.gon rfl rfl rfl ?_
                refine WL.v (Runs.boolT (c := true) (Runs.eql rfl rfl) (decide_eq_true hs1)) rfl ?_
                refine WL.gon rfl rfl rfl ?_
                refine WL.v (Runs.move rfl) rfl ?_
                refine WL.goff rfl rfl rfl rfl ?_
                refine WL.goff rfl rfl rfl rfl ?_
                refine WL.gon rfl rfl rfl ?_
                refine WL.v (Runs.pick rfl rfl rfl) rfl ?_
                refine WL.v (Runs.pick rfl rfl rfl) rfl ?_
                refine WL.nil ?_
                refine WN.thn ?_
                refine WC.condT rfl (rfl) ?_
                refine WC.skip ?_
                refine WN.thn ?_
                refine WC.seq ?_
                refine WC.block ?_
                refine WC.seq ?_
                have hkn2 : k < (t.exit (os.getD i o0).n (os.getD i o0).c).2.ns.length := by rw [htn2]; exact hkn
                have hkr : (ns.getD k 0).toNat < ys.length := by rw [hyl]; have := hok.2.1 k hkn; omega
                refine WC.reg ?_
                refine WL.v (Runs.move rfl) rfl ?_
                refine WL.v (Runs.move rfl) rfl ?_
                refine WL.v (Runs.move rfl) rfl ?_
                refine WL.v (Runs.lidxN Try.underlying22 inf3 rfl rfl (n := k) rfl (by omega)) rfl ?_
                refine WL.v (Runs.loadR (f := Vi) (0 : Int) (hL.weak (Le.trans hG (Le.trans hgb hl3))) hrd (n := k) (by omega) Try.underlying3 rfl rfl) rfl ?_
                refine WL.v (Runs.valT (u := .pointer (some ⟨yb, (ns.getD k 0).toNat, none⟩)) (Runs.lidx Try.underlying37 inf4 rfl rfl ⟨(hok.2.1 k hkn).1, by have := (hok.2.1 k hkn).2; omega⟩) (by rw [add_mk, Nat.mul_one, Nat.zero_add])) rfl ?_
                refine WL.v (Runs.boolT (c := true) (Runs.load1 Try.underlying4 rfl rfl ((St_front hL).ocell (i := 0) rfl (ys_at _ hkr))) (hyes k hkn (all_yes hl2 hst hkn2))) rfl ?_
                refine WL.v (Runs.not rfl) rfl ?_
                refine WL.nil ?_
                refine WN.thn ?_
                refine WC.condF rfl (rfl) ?_
                refine WC.skip ?_
                refine WN.blk ?_
                refine WN.thn ?_
                refine WC.reg ?_
                refine WL.v (Runs.move rfl) rfl ?_
                refine WL.v (Runs.addn rfl rfl (by omega)) rfl ?_
                refine WL.v (Runs.assign rfl) rfl ?_
                refine WL.nil ?_
                exact WN.again (k + 1) (by omega) ⟨rfl, rfl, rfl, rfl, rfl, rfl, rfl, rfl, trivial⟩ ⟨by omega, hL⟩
              · have hst : (t.exit (os.getD i o0).n (os.getD i o0).c).2.state = 1 ∨ (t.exit (os.getD i o0).n (os.getD i o0).c).2.state = 3 := .inr hs3
                refine WC.reg ?_
                refine WL.v (Runs.move rfl) rfl ?_
                refine WL.v (Runs.move rfl) rfl ?_
                refine WL.v (Runs.llen Try.underlying22 rfl rfl) rfl ?_
                refine WL.v (Runs.boolT (c := true) (Runs.lss rfl rfl) (by rw [decide_eq_true_eq]; omega)) rfl ?_
                refine WL.v (Runs.move rfl) rfl ?_
                refine WL.gon rfl rfl rfl ?_
                refine WL.v (Runs.move rfl) rfl ?_
                refine WL.gon rfl rfl rfl ?_
                refine WL.v (Runs.boolT (c := false) (Runs.eql rfl rfl) (decide_eq_false hs1)) rfl ?_
                refine WL.gon rfl rfl rfl ?_
                refine WL.v (Runs.move rfl) rfl ?_
                refine WL.gon rfl rfl rfl ?_
                refine WL.v (Runs.move rfl) rfl ?_
                refine WL.gon rfl rfl rfl ?_
                refine WL.v (Runs.boolT (c := true) (Runs.eql rfl rfl) (decide_eq_true hs3)) rfl ?_
                refine WL.gon rfl rfl rfl ?_
                refine WL.v (Runs.pick rfl rfl rfl) rfl ?_
                refine WL.v (Runs.pick rfl rfl rfl) rfl ?_
                refine WL.nil ?_
                refine WN.thn ?_
                refine WC.condT rfl (rfl) ?_
                refine WC.skip ?_
                refine WN.thn ?_
                refine WC.seq ?_
                refine WC.block ?_
                refine WC.seq ?_
                have hkn2 : k < (t.exit (os.getD i o0).n (os.getD i o0).c).2.ns.length := by rw [htn2]; exact hkn
                have hkr : (ns.getD k 0).toNat < ys.length := by rw [hyl]; have := hok.2.1 k hkn; omega
                refine WC.reg ?_
                refine WL.v (Runs.move rfl) rfl ?_
                refine WL.v (Runs.move rfl) rfl ?_
                refine WL.v (Runs.move rfl) rfl ?_
                refine WL.v (Runs.lidxN Try.underlying22 inf3 rfl rfl (n := k) rfl (by omega)) rfl ?_
                refine WL.v (Runs.loadR (f := Vi) (0 : Int) (hL.weak (Le.trans hG (Le.trans hgb hl3))) hrd (n := k) (by omega) Try.underlying3 rfl rfl) rfl ?_
                refine WL.v (Runs.valT (u := .pointer (some ⟨yb, (ns.getD k 0).toNat, none⟩)) (Runs.lidx Try.underlying37 inf4 rfl rfl ⟨(hok.2.1 k hkn).1, by have := (hok.2.1 k hkn).2; omega⟩) (by rw [add_mk, Nat.mul_one, Nat.zero_add])) rfl ?_
                refine WL.v (Runs.boolT (c := true) (Runs.load1 Try.underlying4 rfl rfl ((St_front hL).ocell (i := 0) rfl (ys_at _ hkr))) (hyes k hkn (all_yes hl2 hst hkn2))) rfl ?_
                refine WL.v (Runs.not rfl) rfl ?_
                refine WL.nil ?_
                refine WN.thn ?_
                refine WC.condF rfl (rfl) ?_
                refine WC.skip ?_
                refine WN.blk ?_
                refine WN.thn ?_
                refine WC.reg ?_
                refine WL.v (Runs.move rfl) rfl ?_
                refine WL.v (Runs.addn rfl rfl (by omega)) rfl ?_
                refine WL.v (Runs.assign rfl) rfl ?_
                refine WL.nil ?_
                exact WN.again (k + 1) (by omega) ⟨rfl, rfl, rfl, rfl, rfl, rfl, rfl, rfl, trivial⟩ ⟨by omega, hL⟩
              · skip
                refine WC.reg ?_
                refine WL.v (Runs.move rfl) rfl ?_
                refine WL.v (Runs.move rfl) rfl ?_
                refine WL.v (Runs.llen Try.underlying22 rfl rfl) rfl ?_
                refine WL.v (Runs.boolT (c := true) (Runs.lss rfl rfl) (by rw [decide_eq_true_eq]; omega)) rfl ?_
                refine WL.v (Runs.move rfl) rfl ?_
                refine WL.gon rfl rfl rfl ?_
                refine WL.v (Runs.move rfl) rfl ?_
                refine WL.gon rfl rfl rfl ?_
                refine WL.v (Runs.boolT (c := false) (Runs.eql rfl rfl) (decide_eq_false hs1)) rfl ?_
                refine WL.gon rfl rfl rfl ?_
                refine WL.v (Runs.move rfl) rfl ?_
                refine WL.gon rfl rfl rfl ?_
                refine WL.v (Runs.move rfl) rfl ?_
                refine WL.gon rfl rfl rfl ?_
                refine WL.v (Runs.boolT (c := false) (Runs.eql rfl rfl) (decide_eq_false hs3)) rfl ?_
                refine WL.gon rfl rfl rfl ?_
                refine WL.v (Runs.pick rfl rfl rfl) rfl ?_
                refine WL.v (Runs.pick rfl rfl rfl) rfl ?_
                refine WL.nil ?_
                refine WN.thn ?_
                refine WC.condF rfl (rfl) ?_
                refine WC.exit ?_
                refine WX.thn ?_
                refine WX.cut ?_
                refine WX.hit ?_
                refine WN.thn ?_
                refine WC.reg ?_
                refine WL.v (Runs.move rfl) rfl ?_
                refine WL.v (Runs.assign rfl) rfl ?_
                refine WL.nil ?_
                refine WN.blk ?_
                refine WN.thn ?_
                refine WC.reg ?_
                refine WL.v (Runs.move rfl) rfl ?_
                refine WL.v (Runs.addn rfl rfl (by omega)) rfl ?_
                refine WL.v (Runs.assign rfl) rfl ?_
                refine WL.nil ?_
                exact WN.again (⟨i + 1, _, p3, (t.exit (os.getD i o0).n (os.getD i o0).c).2, ys⟩ : Nat × Snap × List Res × T × List Bool) (by show os.length - (i + 1) < os.length - i; omega) ⟨rfl, rfl, rfl, rfl, rfl, rfl, trivial⟩ ⟨by show i + 1 ≤ _; omega, Le.trans hG (Le.trans hgb hl3), hp3, htn2, by simpa using hy, hyes, hL⟩
            · skip
              refine WC.reg ?_
              refine WL.v (Runs.move rfl) rfl ?_
              refine WL.v (Runs.move rfl) rfl ?_
              refine WL.v (Runs.boolT (c := true) (Runs.neq rfl rfl) (by rw [decide_eq_false hW0]; rfl)) rfl ?_
              refine WL.v (Runs.move rfl) rfl ?_
              refine WL.gon rfl rfl rfl ?_
              refine WL.v (Runs.move rfl) rfl ?_
              refine WL.gon rfl rfl rfl ?_
              refine WL.v (Runs.boolT (c := true) (Runs.neq rfl rfl) (by rw [hW1]; rfl)) rfl ?_
              refine WL.v (Runs.pick rfl rfl rfl) rfl ?_
              refine WL.v (Runs.move rfl) rfl ?_
              refine WL.gon rfl rfl rfl ?_
              refine WL.v (Runs.move rfl) rfl ?_
              refine WL.gon rfl rfl rfl ?_
              refine WL.v (Runs.boolT (c := false) (Runs.neq rfl rfl) (by rw [decide_eq_true hW1]; rfl)) rfl ?_
              refine WL.gon rfl rfl rfl ?_
              refine WL.v (Runs.move rfl) rfl ?_
              refine WL.gon rfl rfl rfl ?_
              refine WL.v (Runs.move rfl) rfl ?_
              refine WL.gon rfl rfl rfl ?_
              refine WL.v (Runs.boolT (c := false) (Runs.neq rfl rfl) (by rw [decide_eq_true hW]; rfl)) rfl ?_
              refine WL.gon rfl rfl rfl ?_
              refine WL.v (Runs.pick rfl rfl rfl) rfl ?_
              refine WL.v (Runs.pick rfl rfl rfl) rfl ?_
              refine WL.nil ?_
              refine WN.thn ?_
              refine WC.condF rfl (rfl) ?_
              refine WC.skip ?_
              refine WN.thn ?_
              refine WC.seq ?_
              refine WC.seq ?_
              refine WC.reg ?_
              refine WL.v (Runs.assign rfl) rfl ?_
              refine WL.nil ?_
              refine WN.thn ?_
              refine WC.block ?_
              have htn2 : (t.exit (os.getD i o0).n (os.getD i o0).c).2.ns = ns := (exit_vs _ _ _).2.trans htn
              have hl2 : (t.exit (os.getD i o0).n (os.getD i o0).c).2.vs.length = (t.exit (os.getD i o0).n (os.getD i o0).c).2.ns.length := hp3.facts.1
              replace hyes : Yes t.ns ys t := by rw [htn]; exact hyes
              replace hyes : Yes ns ys (t.exit (os.getD i o0).n (os.getD i o0).c).2 := by have := Yes.exit (n := (os.getD i o0).n) (c := (os.getD i o0).c) hyes; rw [htn] at this; exact this
              have hyl : ys.length = 16 := by simp [hy]
              refine WC.loop (σ := Nat) (fun q_ => [(0, .slice (some ad) ns.length cap), (1, .slice (some bd) os.length cap2), (5, .pointer (some ⟨a, 0, none⟩)), (6, .slice (some ⟨yb, 0, none⟩) 16 16), (7, Vi t.state), (8, .int .i64 (i : Int)), (11, Vi (t.exit (os.getD i o0).n (os.getD i o0).c).2.state), (12, .int .i64 (q_ : Int))]) (fun q_ w => q_ ≤ ns.length ∧ St W G3 (p3 ++ ([(yb, .cells (ys.map Value.bool ++ []).toArray 4 (0, 0))] :: cs)) w) (fun q_ => ns.length - q_) (0) (by repeat (first | exact trivial | refine ⟨rfl, ?_⟩)) (⟨by omega, h28⟩) ?_
              rintro k w31 ⟨hkk, hL⟩
              try dsimp only at hkk hL
              refine WC.sub (s := [(0, .slice (some ad) ns.length cap), (1, .slice (some bd) os.length cap2), (5, .pointer (some ⟨a, 0, none⟩)), (6, .slice (some ⟨yb, 0, none⟩) 16 16), (7, Vi t.state), (8, .int .i64 (i : Int)), (11, Vi (t.exit (os.getD i o0).n (os.getD i o0).c).2.state), (12, .int .i64 (k : Int))]) (by repeat (first | exact trivial | refine ⟨rfl, ?_⟩)) ?_
              refine WC.seq ?_
              refine WC.seq ?_
              have hcase : (¬ k < ns.length) ∨ (k < ns.length ∧ (t.exit (os.getD i o0).n (os.getD i o0).c).2.state = 1) ∨ (k < ns.length ∧ (t.exit (os.getD i o0).n (os.getD i o0).c).2.state ≠ 1 ∧ (t.exit (os.getD i o0).n (os.getD i o0).c).2.state = 3) ∨ (k < ns.length ∧ (t.exit (os.getD i o0).n (os.getD i o0).c).2.state ≠ 1 ∧ (t.exit (os.getD i o0).n (os.getD i o0).c).2.state ≠ 3) := by omega
              rcases hcase with hc | ⟨hkn, hs1⟩ | ⟨hkn, hs1, hs3⟩ | ⟨hkn, hs1, hs3⟩
              · skip
                refine WC.reg ?_
                refine WL.v (Runs.move rfl) rfl ?_
                refine WL.v (Runs.move rfl) rfl ?_
                refine WL.v (Runs.llen Try.underlying22 rfl rfl) rfl ?_
                refine WL.v (Runs.boolT (c := false) (Runs.lss rfl rfl) (by rw [decide_eq_false_iff_not]; omega)) rfl ?_
                refine WL.v (Runs.move rfl) rfl ?_
                refine WL.goff rfl rfl rfl rfl ?_
                refine WL.goff rfl rfl rfl rfl ?_
                refine WL.goff rfl rfl rfl rfl ?_
                refine WL.goffU rfl rfl rfl ?_
                refine WL.goffU rfl rfl rfl ?_
                refine WL.goff rfl rfl rfl rfl ?_
                refine WL.v (Runs.pick rfl rfl rfl) rfl ?_
                refine WL.nil ?_
                refine WN.thn ?_
                refine WC.condF rfl (rfl) ?_
                refine WC.exit ?_
                refine WX.thn ?_
                refine WX.cut ?_
                refine WX.hit ?_
                refine WN.thn ?_
                refine WC.reg ?_
                refine WL.v (Runs.move rfl) rfl ?_
                refine WL.v (Runs.assign rfl) rfl ?_
                refine WL.nil ?_
                refine WN.blk ?_
                refine WN.thn ?_
                refine WC.reg ?_
                refine WL.v (Runs.move rfl) rfl ?_
                refine WL.v (Runs.addn rfl rfl (by omega)) rfl ?_
                refine WL.v (Runs.assign rfl) rfl ?_
                refine WL.nil ?_
                exact WN.again (⟨i + 1, _, p3, (t.exit (os.getD i o0).n (os.getD i o0).c).2, ys⟩ : Nat × Snap × List Res × T × List Bool) (by show os.length - (i + 1) < os.length - i; omega) ⟨rfl, rfl, rfl, rfl, rfl, rfl, trivial⟩ ⟨by show i + 1 ≤ _; omega, Le.trans hG (Le.trans hgb hl3), hp3, htn2, by simpa using hy, hyes, hL⟩
              · have hst : (t.exit (os.getD i o0).n (os.getD i o0).c).2.state = 1 ∨ (t.exit (os.getD i o0).n (os.getD i o0).c).2.state = 3 := .inl hs1
                refine WC.reg ?_
                refine WL.v (Runs.move rfl) rfl ?_
                refine WL.v (Runs.move rfl) rfl ?_
                refine WL.v (Runs.llen Try.underlying22 rfl rfl) rfl ?_
                refine WL.v (Runs.boolT (c := true) (Runs.lss rfl rfl) (by rw [decide_eq_true_eq]; omega)) rfl ?_
                refine WL.v (Runs.move rfl) rfl ?_
                refine WL.gon rfl rfl rfl ?_
                refine WL.v (Runs.move rfl) rfl ?_
                refine WL.gon rfl rfl rfl ?_
                refine WL.v (Runs.boolT (c := true) (Runs.eql rfl rfl) (decide_eq_true hs1)) rfl ?_
                refine WL.gon rfl rfl rfl ?_
                refine WL.v (Runs.move rfl) rfl ?_
                refine WL.goff rfl rfl rfl rfl ?_
                refine WL.goff rfl rfl rfl rfl ?_
                refine WL.gon rfl rfl rfl ?_
                refine WL.v (Runs.pick rfl rfl rfl) rfl ?_
                refine WL.v (Runs.pick rfl rfl rfl) rfl ?_
                refine WL.nil ?_
                refine WN.thn ?_
                refine WC.condT rfl (rfl) ?_
                refine WC.skip ?_
                refine WN.thn ?_
                refine WC.seq ?_
                refine WC.block ?_
                refine WC.seq ?_
                have hkn2 : k < (t.exit (os.getD i o0).n (os.getD i o0).c).2.ns.length := by rw [htn2]; exact hkn
                have hkr : (ns.getD k 0).toNat < ys.length := by rw [hyl]; have := hok.2.1 k hkn; omega
                refine WC.reg ?_
                refine WL.v (Runs.move rfl) rfl ?_
                refine WL.v (Runs.move rfl) rfl ?_
                refine WL.v (Runs.move rfl) rfl ?_
                refine WL.v (Runs.lidxN Try.underlying22 inf3 rfl rfl (n := k) rfl (by omega)) rfl ?_
                refine WL.v (Runs.loadR (f := Vi) (0 : Int) (hL.weak (Le.trans hG (Le.trans hgb hl3))) hrd (n := k) (by omega) Try.underlying3 rfl rfl) rfl ?_
                refine WL.v (Runs.valT (u := .pointer (some ⟨yb, (ns.getD k 0).toNat, none⟩)) (Runs.lidx Try.underlying37 inf4 rfl rfl ⟨(hok.2.1 k hkn).1, by have := (hok.2.1 k hkn).2; omega⟩) (by rw [add_mk, Nat.mul_one, Nat.zero_add])) rfl ?_
                refine WL.v (Runs.boolT (c := true) (Runs.load1 Try.underlying4 rfl rfl ((St_front hL).ocell (i := 0) rfl (ys_at _ hkr))) (hyes k hkn (all_yes hl2 hst hkn2))) rfl ?_
                refine WL.v (Runs.not rfl) rfl ?_
                refine WL.nil ?_
                refine WN.thn ?_
                refine WC.condF rfl (rfl) ?_
                refine WC.skip ?_
                refine WN.blk ?_
                refine WN.thn ?_
                refine WC.reg ?_
                refine WL.v (Runs.move rfl) rfl ?_
                refine WL.v (Runs.addn rfl rfl (by omega)) rfl ?_
                refine WL.v (Runs.assign rfl) rfl ?_
                refine WL.nil ?_
                exact WN.again (k + 1) (by omega) ⟨rfl, rfl, rfl, rfl, rfl, rfl, rfl, rfl, trivial⟩ ⟨by omega, hL⟩
              · have hst : (t.exit (os.getD i o0).n (os.getD i o0).c).2.state = 1 ∨ (t.exit (os.getD i o0).n (os.getD i o0).c).2.state = 3 := .inr hs3
                refine WC.reg ?_
                refine WL.v (Runs.move rfl) rfl ?_
                refine WL.v (Runs.move rfl) rfl ?_
                refine WL.v (Runs.llen Try.underlying22 rfl rfl) rfl ?_
                refine WL.v (Runs.boolT (c := true) (Runs.lss rfl rfl) (by rw [decide_eq_true_eq]; omega)) rfl ?_
                refine WL.v (Runs.move rfl) rfl ?_
                refine WL.gon rfl rfl rfl ?_
                refine WL.v (Runs.move rfl) rfl ?_
                refine WL.gon rfl rfl rfl ?_
                refine WL.v (Runs.boolT (c := false) (Runs.eql rfl rfl) (decide_eq_false hs1)) rfl ?_
                refine WL.gon rfl rfl rfl ?_
                refine WL.v (Runs.move rfl) rfl ?_
                refine WL.gon rfl rfl rfl ?_
                refine WL.v (Runs.move rfl) rfl ?_
                refine WL.gon rfl rfl rfl ?_
                refine WL.v (Runs.boolT (c := true) (Runs.eql rfl rfl) (decide_eq_true hs3)) rfl ?_
                refine WL.gon rfl rfl rfl ?_
                refine WL.v (Runs.pick rfl rfl rfl) rfl ?_
                refine WL.v (Runs.pick rfl rfl rfl) rfl ?_
                refine WL.nil ?_
                refine WN.thn ?_
                refine WC.condT rfl (rfl) ?_
                refine WC.skip ?_
                refine WN.thn ?_
                refine WC.seq ?_
                refine WC.block ?_
                refine WC.seq ?_
                have hkn2 : k < (t.exit (os.getD i o0).n (os.getD i o0).c).2.ns.length := by rw [htn2]; exact hkn
                have hkr : (ns.getD k 0).toNat < ys.length := by rw [hyl]; have := hok.2.1 k hkn; omega
                refine WC.reg ?_
                refine WL.v (Runs.move rfl) rfl ?_
                refine WL.v (Runs.move rfl) rfl ?_
                refine WL.v (Runs.move rfl) rfl ?_
                refine WL.v (Runs.lidxN Try.underlying22 inf3 rfl rfl (n := k) rfl (by omega)) rfl ?_
                refine WL.v (Runs.loadR (f := Vi) (0 : Int) (hL.weak (Le.trans hG (Le.trans hgb hl3))) hrd (n := k) (by omega) Try.underlying3 rfl rfl) rfl ?_
                refine WL.v (Runs.valT (u := .pointer (some ⟨yb, (ns.getD k 0).toNat, none⟩)) (Runs.lidx Try.underlying37 inf4 rfl rfl ⟨(hok.2.1 k hkn).1, by have := (hok.2.1 k hkn).2; omega⟩) (by rw [add_mk, Nat.mul_one, Nat.zero_add])) rfl ?_
                refine WL.v (Runs.boolT (c := true) (Runs.load1 Try.underlying4 rfl rfl ((St_front hL).ocell (i := 0) rfl (ys_at _ hkr))) (hyes k hkn (all_yes hl2 hst hkn2))) rfl ?_
                refine WL.v (Runs.not rfl) rfl ?_
                refine WL.nil ?_
                refine WN.thn ?_
                refine WC.condF rfl (rfl) ?_
                refine WC.skip ?_
                refine WN.blk ?_
                refine WN.thn ?_
                refine WC.reg ?_
                refine WL.v (Runs.move rfl) rfl ?_
                refine WL.v (Runs.addn rfl rfl (by omega)) rfl ?_
                refine WL.v (Runs.assign rfl) rfl ?_
                refine WL.nil ?_
                exact WN.again (k + 1) (by omega) ⟨rfl, rfl, rfl, rfl, rfl, rfl, rfl, rfl, trivial⟩ ⟨by omega, hL⟩
              · skip
                refine WC.reg ?_
                refine WL.v (Runs.move rfl) rfl ?_
                refine WL.v (Runs.move rfl) rfl ?_
                refine WL.v (Runs.llen Try.underlying22 rfl rfl) rfl ?_
                refine WL.v (Runs.boolT (c := true) (Runs.lss rfl rfl) (by rw [decide_eq_true_eq]; omega)) rfl ?_
                refine WL.v (Runs.move rfl) rfl ?_
                refine WL.gon rfl rfl rfl ?_
                refine WL.v (Runs.move rfl) rfl ?_
                refine WL.gon rfl rfl rfl ?_
                refine WL.v (Runs.boolT (c := false) (Runs.eql rfl rfl) (decide_eq_false hs1)) rfl ?_
                refine WL.gon rfl rfl rfl ?_
                refine WL.v (Runs.move rfl) rfl ?_
                refine WL.gon rfl rfl rfl ?_
                refine WL.v (Runs.move rfl) rfl ?_
                refine WL.gon rfl rfl rfl ?_
                refine WL.v (Runs.boolT (c := false) (Runs.eql rfl rfl) (decide_eq_false hs3)) rfl ?_
                refine WL.gon rfl rfl rfl ?_
                refine WL.v (Runs.pick rfl rfl rfl) rfl ?_
                refine WL.v (Runs.pick rfl rfl rfl) rfl ?_
                refine WL.nil ?_
                refine WN.thn ?_
                refine WC.condF rfl (rfl) ?_
                refine WC.exit ?_
                refine WX.thn ?_
                refine WX.cut ?_
                refine WX.hit ?_
                refine WN.thn ?_
                refine WC.reg ?_
                refine WL.v (Runs.move rfl) rfl ?_
                refine WL.v (Runs.assign rfl) rfl ?_
                refine WL.nil ?_
                refine WN.blk ?_
                refine WN.thn ?_
                refine WC.reg ?_
                refine WL.v (Runs.move rfl) rfl ?_
                refine WL.v (Runs.addn rfl rfl (by omega)) rfl ?_
                refine WL.v (Runs.assign rfl) rfl ?_
                refine WL.nil ?_
                exact WN.again (⟨i + 1, _, p3, (t.exit (os.getD i o0).n (os.getD i o0).c).2, ys⟩ : Nat × Snap × List Res × T × List Bool) (by show os.length - (i + 1) < os.length - i; omega) ⟨rfl, rfl, rfl, rfl, rfl, rfl, trivial⟩ ⟨by show i + 1 ≤ _; omega, Le.trans hG (Le.trans hgb hl3), hp3, htn2, by simpa using hy, hyes, hL⟩
    · try simp only [decide_eq_true_eq, decide_eq_false_iff_not, Bool.not_eq_true', Bool.not_eq_false', Bool.and_eq_true, Int.not_lt, Int.not_le] at c9
      first
      | (exfalso; omega)
      | skip
        refine WC.exit ?_
        refine WX.thn ?_
        refine WX.cut ?_
        refine WX.hit ?_
        refine WN.thn ?_
        refine WC.seq ?_
        refine WC.reg ?_
        refine WL.call can9 rfl rfl (live_c _ hL) ?_
        rintro _ w32 ⟨rfl, h32⟩
        refine ⟨_, rfl, ?_⟩
        refine WL.v (Runs.assign rfl) rfl ?_
        refine WL.nil ?_
        refine WN.thn ?_
        refine WC.ret ?_
        exact ret1 rfl rfl ⟨rfl, ((St_tail h32).drop 0).weak hG⟩
end Tal
end Go.Proofs.Ytkgmlngmojnpmaa
