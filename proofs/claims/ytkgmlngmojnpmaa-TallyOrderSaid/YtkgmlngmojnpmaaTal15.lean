/- The law TallyTwice: what is said twice counts once. -/
import Derived.Test.YtkgmlngmojnpmaaProg
import Derived.Test.YtkgmlngmojnpmaaTal14
namespace Go.Proofs.Ytkgmlngmojnpmaa
open Go Go.RowKit B
set_option linter.unusedVariables false
set_option linter.unusedSimpArgs false
namespace Tal


theorem look_put {α : Type} {n : Int} {x : α} : ∀ {ns : List Int} {os : List (Option α)} {o : Option α}, look n ns os = some o → look n ns (put n x ns os) = some (some x)
  | [], [], _, h => by simp [look] at h
  | [], _ :: _, _, h => by simp [look] at h
  | _ :: _, [], _, h => by simp [look] at h
  | m :: ns, o' :: os, o, h => by
    unfold look at h
    unfold put
    by_cases e : n = m
    · rw [if_pos e]; unfold look; rw [if_pos e]
    · rw [if_neg e] at h
      rw [if_neg e]; unfold look; rw [if_neg e]; exact look_put h
theorem vote_idem (t : T) (n : Int) (y : Bool) : ((t.vote n y).2.vote n y).2 = (t.vote n y).2 := by
  cases e : look n t.ns t.vs with
  | none =>
    have h : (t.vote n y).2 = t := by simp [T.vote, say, e]
    rw [h, h]
  | some o =>
    cases o with
    | some z =>
      have h : (t.vote n y).2 = t := by
        simp only [T.vote, say, e]
        split <;> rfl
      rw [h, h]
    | none =>
      by_cases hs : t.state = 0
      · have h : (t.vote n y).2 = { t with vs := put n y t.ns t.vs } := by simp [T.vote, say, e, hs]
        have e2 := look_put (x := y) e
        rw [h]
        simp [T.vote, say, e2]
      · have h : (t.vote n y).2 = t := by simp [T.vote, say, e, hs]
        rw [h, h]
theorem exit_idem (t : T) (n c : Int) : ((t.exit n c).2.exit n c).2 = (t.exit n c).2 := by
  by_cases hb : c < 0 ∨ 255 < c
  · have h : (t.exit n c).2 = t := by rw [exit_no hb]
    rw [h, h]
  · cases e : look n t.ns t.cs with
    | none =>
      have h : (t.exit n c).2 = t := by rw [exit_yes hb]; simp [say, e]
      rw [h, h]
    | some o =>
      cases o with
      | some z =>
        have h : (t.exit n c).2 = t := by
          rw [exit_yes hb]
          simp only [say, e]
          split <;> rfl
        rw [h, h]
      | none =>
        by_cases hs : t.state = 1
        · have h : (t.exit n c).2 = { t with cs := put n c t.ns t.cs } := by rw [exit_yes hb]; simp [say, e, hs]
          have e2 := look_put (x := c) e
          rw [h, exit_yes hb]
          simp [say, e2]
        · have h : (t.exit n c).2 = t := by rw [exit_yes hb]; simp [say, e, hs]
          rw [h, h]
theorem cases4 (P : Prop) (m n a b : Nat) : a < m ∨ (¬ a < m ∧ b < n) ∨ ((m ≤ a ∧ n ≤ b) ∧ ¬ P) ∨ ((m ≤ a ∧ n ≤ b) ∧ P) := by
  by_cases hP : P
  · by_cases h1 : a < m
    · exact .inl h1
    · by_cases h2 : b < n
      · exact .inr (.inl ⟨h1, h2⟩)
      · exact .inr (.inr (.inr ⟨⟨by omega, by omega⟩, hP⟩))
  · by_cases h1 : a < m
    · exact .inl h1
    · by_cases h2 : b < n
      · exact .inr (.inl ⟨h1, h2⟩)
      · exact .inr (.inr (.inl ⟨⟨by omega, by omega⟩, hP⟩))
theorem does_idem (t : T) (o : Op') : (t.does o).does o = t.does o := by
  unfold T.does
  split
  · exact vote_idem _ _ _
  · exact exit_idem _ _ _
theorem St_swap {W w : World} {F : Snap} {p q cs : List Res} (h : St W F (p ++ (q ++ cs)) w) : St W F (q ++ (p ++ cs)) w := h.perm (List.perm_append_comm_assoc _ _ _)
open Classical in
theorem perm4 {α : Type} (M K B A r : List α) : (A ++ (K ++ (B ++ (M ++ r)))).Perm (M ++ (K ++ (B ++ (A ++ r)))) := by
  rw [List.perm_iff_count]; intro x; simp only [List.count_append]; omega
theorem mkPr2 {W w : World} {F G H : Snap} {cs x y z : List Res} {a b k m mva mca mvb mcb bvk bck bvm bcm : Nat} {lva lca lvb lcb : List (Int × Value)} {zvk zck zvm zcm : List Value} {fvk fck fvm fcm : Nat × Nat} {K : Snap} {t : T}
    (ht : TR F ([(mva, mobj lva)] :: [(mca, mobj lca)] :: x) a 0 1 mva mca lva lca t) (hu : TR G ([(mvb, mobj lvb)] :: [(mcb, mobj lcb)] :: y) b 0 1 mvb mcb lvb lcb t)
    (hk : RR H ([(bvk, .cells ((t.vs.map eV).map Vi ++ zvk).toArray 3 fvk)] :: [(bck, .cells ((t.cs.map eC).map Vi ++ zck).toArray 3 fck)] :: z) k 0 1 bvk bck zvk zck fvk fck t)
    (hm : RR K ([(bvm, .cells ((t.vs.map eV).map Vi ++ zvm).toArray 3 fvm)] :: [(bcm, .cells ((t.cs.map eC).map Vi ++ zcm).toArray 3 fcm)] :: [(bvk, .cells ((t.vs.map eV).map Vi ++ zvk).toArray 3 fvk)] :: [(bck, .cells ((t.cs.map eC).map Vi ++ zck).toArray 3 fck)] :: [(mvb, mobj lvb)] :: [(mcb, mobj lcb)] :: [(mva, mobj lva)] :: [(mca, mobj lca)] :: cs) m 0 1 bvm bcm zvm zcm fvm fcm t)
    (l1 : Le F K) (l2 : Le G K) (l3 : Le H K)
    (h : St W K ([(bvm, .cells ((t.vs.map eV).map Vi ++ zvm).toArray 3 fvm)] :: [(bcm, .cells ((t.cs.map eC).map Vi ++ zcm).toArray 3 fcm)] :: [(bvk, .cells ((t.vs.map eV).map Vi ++ zvk).toArray 3 fvk)] :: [(bck, .cells ((t.cs.map eC).map Vi ++ zck).toArray 3 fck)] :: [(mvb, mobj lvb)] :: [(mcb, mobj lcb)] :: [(mva, mobj lva)] :: [(mca, mobj lca)] :: cs) w) :
    ∃ p q, Pr K p a k t ∧ Pr K q b m t ∧ St W K (p ++ (q ++ cs)) w := by
  refine ⟨[_, _, _, _], [_, _, _, _], ⟨mva, mca, lva, lca, bvk, bck, zvk, zck, fvk, fck, rfl, ?_, ?_⟩, ⟨mvb, mcb, lvb, lcb, bvm, bcm, zvm, zcm, fvm, fcm, rfl, ?_, ?_⟩, ?_⟩
  · have h1 : TR F [[(mva, mobj lva)], [(mca, mobj lca)]] a 0 1 mva mca lva lca t := TR.pre x ht (by simp) (by simp)
    exact (h1.mono l1).app _
  · have h1 := RR.pre (cs := [[(bvk, .cells ((t.vs.map eV).map Vi ++ zvk).toArray 3 fvk)], [(bck, .cells ((t.cs.map eC).map Vi ++ zck).toArray 3 fck)]]) z hk (by simp) (by simp)
    exact ((h1.mono l3).push).push
  · have h1 : TR G [[(mvb, mobj lvb)], [(mcb, mobj lcb)]] b 0 1 mvb mcb lvb lcb t := TR.pre y hu (by simp) (by simp)
    exact (h1.mono l2).app _
  · have h1 := RR.pre (cs := [[(bvm, .cells ((t.vs.map eV).map Vi ++ zvm).toArray 3 fvm)], [(bcm, .cells ((t.cs.map eC).map Vi ++ zcm).toArray 3 fcm)]]) _ hm (by simp) (by simp)
    exact (h1.push).push
  · exact h.perm (perm4 [_, _] [_, _] [_, _] [_, _] cs)
set_option maxRecDepth 100000 in
set_option maxHeartbeats 4000000 in
theorem twice_law {W : World} {F : Snap} {cs : List Res} (w : World) {A B : Option Addr} {cap cap2 : Nat} {ns : List Int} {os : List Op'} (h : St W F cs w) (hA : RdS (Kd.one Vi) F A ns) (hB : RdS KOp F B os) : Calls Try.prog 5 #[.slice A ns.length cap, .slice B os.length cap2] w fun e w' => e = .returned (.bool true) ∧ St W F cs w'  := by
  refine enter (P := Try.prog) (args := [.slice A ns.length cap, .slice B os.length cap2]) Try.func5 rfl rfl rfl ?_
  refine WC.seq ?_
  refine WC.reg ?_
  refine WL.v (Runs.assign rfl) rfl ?_
  refine WL.nil ?_
  refine WN.thn ?_
  refine WC.seq ?_
  refine WC.seq ?_
  rcases cases4 (okN ns) os.length ns.length 60 16 with hA1 | hB1 | ⟨hC1, hok⟩ | ⟨hC1, hok⟩
  · skip
    refine WC.reg ?_
    refine WL.v (Runs.move rfl) rfl ?_
    refine WL.v (Runs.llen Try.underlying23 rfl rfl) rfl ?_
    refine WL.v (Runs.boolT (c := true) (Runs.gtr rfl rfl) (by rw [decide_eq_true_eq]; omega)) rfl ?_
    refine WL.v (Runs.move rfl) rfl ?_
    refine WL.goff rfl rfl rfl rfl ?_
    refine WL.goff rfl rfl rfl rfl ?_
    refine WL.goff rfl rfl rfl rfl ?_
    refine WL.v (Runs.pick rfl rfl rfl) rfl ?_
    refine WL.v (Runs.move rfl) rfl ?_
    refine WL.goff rfl rfl rfl rfl ?_
    refine WL.goff rfl rfl rfl rfl ?_
    refine WL.goff rfl rfl rfl rfl ?_
    refine WL.v (Runs.pick rfl rfl rfl) rfl ?_
    refine WL.nil ?_
    refine WN.thn ?_
    refine WC.condT rfl (rfl) ?_
    refine WC.seq ?_
    refine WC.reg ?_
    refine WL.call can9 rfl rfl (live_c _ h) ?_
    rintro _ w1 ⟨rfl, h1⟩
    refine ⟨_, rfl, ?_⟩
    refine WL.v (Runs.assign rfl) rfl ?_
    refine WL.nil ?_
    refine WN.thn ?_
    refine WC.ret ?_
    exact ret1 rfl rfl ⟨rfl, h1⟩
  · skip
    refine WC.reg ?_
    refine WL.v (Runs.move rfl) rfl ?_
    refine WL.v (Runs.llen Try.underlying23 rfl rfl) rfl ?_
    refine WL.v (Runs.boolT (c := false) (Runs.gtr rfl rfl) (by rw [decide_eq_false_iff_not]; omega)) rfl ?_
    refine WL.v (Runs.move rfl) rfl ?_
    refine WL.gon rfl rfl rfl ?_
    refine WL.v (Runs.move rfl) rfl ?_
    refine WL.gon rfl rfl rfl ?_
    refine WL.v (Runs.llen Try.underlying22 rfl rfl) rfl ?_
    refine WL.gon rfl rfl rfl ?_
    refine WL.v (Runs.boolT (c := true) (Runs.gtr rfl rfl) (by rw [decide_eq_true_eq]; omega)) rfl ?_
    refine WL.v (Runs.pick rfl rfl rfl) rfl ?_
    refine WL.v (Runs.move rfl) rfl ?_
    refine WL.goff rfl rfl rfl rfl ?_
    refine WL.goff rfl rfl rfl rfl ?_
    refine WL.goff rfl rfl rfl rfl ?_
    refine WL.v (Runs.pick rfl rfl rfl) rfl ?_
    refine WL.nil ?_
    refine WN.thn ?_
    refine WC.condT rfl (rfl) ?_
    refine WC.seq ?_
    refine WC.reg ?_
    refine WL.call can9 rfl rfl (live_c _ h) ?_
    rintro _ w2 ⟨rfl, h2⟩
    refine ⟨_, rfl, ?_⟩
    refine WL.v (Runs.assign rfl) rfl ?_
    refine WL.nil ?_
    refine WN.thn ?_
    refine WC.ret ?_
    exact ret1 rfl rfl ⟨rfl, h2⟩
  · skip
    refine WC.reg ?_
    refine WL.v (Runs.move rfl) rfl ?_
    refine WL.v (Runs.llen Try.underlying23 rfl rfl) rfl ?_
    refine WL.v (Runs.boolT (c := false) (Runs.gtr rfl rfl) (by rw [decide_eq_false_iff_not]; omega)) rfl ?_
    refine WL.v (Runs.move rfl) rfl ?_
    refine WL.gon rfl rfl rfl ?_
    refine WL.v (Runs.move rfl) rfl ?_
    refine WL.gon rfl rfl rfl ?_
    refine WL.v (Runs.llen Try.underlying22 rfl rfl) rfl ?_
    refine WL.gon rfl rfl rfl ?_
    refine WL.v (Runs.boolT (c := false) (Runs.gtr rfl rfl) (by rw [decide_eq_false_iff_not]; omega)) rfl ?_
    refine WL.v (Runs.pick rfl rfl rfl) rfl ?_
    refine WL.v (Runs.move rfl) rfl ?_
    refine WL.gon rfl rfl rfl ?_
    refine WL.v (Runs.move rfl) rfl ?_
    refine WL.gon rfl rfl rfl ?_
    refine WL.call can11 rfl rfl (rnew_no _ h hA hok) ?_
    rintro _ w3 ⟨rfl, h3⟩
    refine ⟨_, rfl, ?_⟩
    refine WL.gon rfl rfl rfl ?_
    refine WL.v (Runs.peql Try.underlying27 rfl rfl) rfl ?_
    refine WL.v (Runs.pick rfl rfl rfl) rfl ?_
    refine WL.nil ?_
    refine WN.thn ?_
    refine WC.condT rfl (rfl) ?_
    refine WC.seq ?_
    refine WC.reg ?_
    refine WL.call can9 rfl rfl (live_c _ h3) ?_
    rintro _ w4 ⟨rfl, h4⟩
    refine ⟨_, rfl, ?_⟩
    refine WL.v (Runs.assign rfl) rfl ?_
    refine WL.nil ?_
    refine WN.thn ?_
    refine WC.ret ?_
    exact ret1 rfl rfl ⟨rfl, h4⟩
  · skip
    refine WC.reg ?_
    refine WL.v (Runs.move rfl) rfl ?_
    refine WL.v (Runs.llen Try.underlying23 rfl rfl) rfl ?_
    refine WL.v (Runs.boolT (c := false) (Runs.gtr rfl rfl) (by rw [decide_eq_false_iff_not]; omega)) rfl ?_
    refine WL.v (Runs.move rfl) rfl ?_
    refine WL.gon rfl rfl rfl ?_
    refine WL.v (Runs.move rfl) rfl ?_
    refine WL.gon rfl rfl rfl ?_
    refine WL.v (Runs.llen Try.underlying22 rfl rfl) rfl ?_
    refine WL.gon rfl rfl rfl ?_
    refine WL.v (Runs.boolT (c := false) (Runs.gtr rfl rfl) (by rw [decide_eq_false_iff_not]; omega)) rfl ?_
    refine WL.v (Runs.pick rfl rfl rfl) rfl ?_
    refine WL.v (Runs.move rfl) rfl ?_
    refine WL.gon rfl rfl rfl ?_
    refine WL.v (Runs.move rfl) rfl ?_
    refine WL.gon rfl rfl rfl ?_
    refine WL.call can11 rfl rfl (rnew_y _ h hA hok) ?_
    rintro _ w5 ⟨G0, b0, bv0, bc0, zv0, zc0, fv0, fc0, hle0, rfl, h5, _⟩
    refine ⟨_, rfl, ?_⟩
    have hS0 := (h5.drop 0).drop 0
    replace h5 := hS0
    simp only [List.eraseIdx_cons_zero] at h5
    refine WL.gon rfl rfl rfl ?_
    refine WL.v (Runs.peql Try.underlying27 rfl rfl) rfl ?_
    refine WL.v (Runs.pick rfl rfl rfl) rfl ?_
    refine WL.nil ?_
    refine WN.thn ?_
    refine WC.condF rfl (rfl) ?_
    refine WC.skip ?_
    refine WN.thn ?_
    refine WC.seq ?_
    refine WC.reg ?_
    refine WL.v (Runs.move rfl) rfl ?_
    refine WL.call can10 rfl rfl (new_c _ h5 (hA.mono hle0) (by omega) hok.2 hok.1) ?_
    rintro _ w6 ⟨G1, a, mva, mca, lva, lca, rfl, hle1, h6, hta⟩
    refine ⟨_, rfl, ?_⟩
    refine WL.v (Runs.assign rfl) rfl ?_
    refine WL.nil ?_
    refine WN.thn ?_
    refine WC.seq ?_
    refine WC.reg ?_
    refine WL.v (Runs.move rfl) rfl ?_
    refine WL.call can10 rfl rfl (new_c _ h6 (hA.mono (Le.trans hle0 hle1)) (by omega) hok.2 hok.1) ?_
    rintro _ w7 ⟨G2, b, mvb, mcb, lvb, lcb, rfl, hle2, h7, htb⟩
    refine ⟨_, rfl, ?_⟩
    refine WL.v (Runs.assign rfl) rfl ?_
    refine WL.nil ?_
    refine WN.thn ?_
    refine WC.seq ?_
    refine WC.reg ?_
    refine WL.v (Runs.move rfl) rfl ?_
    refine WL.call can11 rfl rfl (rnew_y _ h7 (hA.mono (Le.trans hle0 (Le.trans hle1 hle2))) hok) ?_
    rintro _ w8 ⟨G3, c, bvk, bck, zvk, zck, fvk, fck, hle3, rfl, h8, hrk⟩
    refine ⟨_, rfl, ?_⟩
    refine WL.v (Runs.assign rfl) rfl ?_
    refine WL.nil ?_
    refine WN.thn ?_
    refine WC.seq ?_
    refine WC.reg ?_
    refine WL.v (Runs.move rfl) rfl ?_
    refine WL.call can11 rfl rfl (rnew_y _ h8 (hA.mono (Le.trans hle0 (Le.trans hle1 (Le.trans hle2 hle3)))) hok) ?_
    rintro _ w9 ⟨G4, d, bvm, bcm, zvm, zcm, fvm, fcm, hle4, rfl, h9, hrm⟩
    refine ⟨_, rfl, ?_⟩
    obtain ⟨p, q, hp, hq, hS⟩ := mkPr2 hta htb hrk hrm (Le.trans hle2 (Le.trans hle3 hle4)) (Le.trans hle3 hle4) hle4 h9
    have hG0 := Le.trans hle0 (Le.trans hle1 (Le.trans hle2 (Le.trans hle3 hle4)))
    replace h9 := hS
    refine WL.v (Runs.assign rfl) rfl ?_
    refine WL.nil ?_
    refine WN.thn ?_
    refine WC.seq ?_
    refine WC.seq ?_
    refine WC.reg ?_
    refine WL.v (Runs.move rfl) rfl ?_
    refine WL.v (Runs.peql Try.underlying25 rfl rfl) rfl ?_
    refine WL.v (Runs.move rfl) rfl ?_
    refine WL.gon rfl rfl rfl ?_
    refine WL.v (Runs.move rfl) rfl ?_
    refine WL.gon rfl rfl rfl ?_
    refine WL.v (Runs.peql Try.underlying25 rfl rfl) rfl ?_
    refine WL.v (Runs.pick rfl rfl rfl) rfl ?_
    refine WL.v (Runs.move rfl) rfl ?_
    refine WL.gon rfl rfl rfl ?_
    refine WL.v (Runs.move rfl) rfl ?_
    refine WL.gon rfl rfl rfl ?_
    refine WL.v (Runs.peql Try.underlying27 rfl rfl) rfl ?_
    refine WL.v (Runs.pick rfl rfl rfl) rfl ?_
    refine WL.nil ?_
    refine WN.thn ?_
    refine WC.condF rfl (rfl) ?_
    refine WC.skip ?_
    refine WN.thn ?_
    refine WC.seq ?_
    refine WC.seq ?_
    refine WC.reg ?_
    refine WL.v (Runs.assign rfl) rfl ?_
    refine WL.nil ?_
    refine WN.thn ?_
    refine WC.block ?_
    refine WC.loop (σ := Nat × Snap × List Res × List Res × T) (fun q_ => [(0, .slice A ns.length cap), (1, .slice B os.length cap2), (5, .pointer (some ⟨a, 0, none⟩)), (6, .pointer (some ⟨b, 0, none⟩)), (7, .pointer (some ⟨c, 0, none⟩)), (8, .pointer (some ⟨d, 0, none⟩)), (9, .int .i64 (q_.1 : Int))]) (fun q_ w => q_.1 ≤ os.length ∧ Le F q_.2.1 ∧ Pr q_.2.1 q_.2.2.1 a c q_.2.2.2.2 ∧ Pr q_.2.1 q_.2.2.2.1 b d q_.2.2.2.2 ∧ St W q_.2.1 (q_.2.2.1 ++ (q_.2.2.2.1 ++ cs)) w) (fun q_ => os.length - q_.1) (⟨0, _, p, q, T.new ns⟩) (by repeat (first | exact trivial | refine ⟨rfl, ?_⟩)) (⟨by omega, hG0, hp, hq, h9⟩) ?_
    rintro ⟨i, G, p, q, t⟩ w10 ⟨hk, hG, hp, hq, hL⟩
    try dsimp only at hk hG hp hq hL
    refine WC.sub (s := [(0, .slice A ns.length cap), (1, .slice B os.length cap2), (5, .pointer (some ⟨a, 0, none⟩)), (6, .pointer (some ⟨b, 0, none⟩)), (7, .pointer (some ⟨c, 0, none⟩)), (8, .pointer (some ⟨d, 0, none⟩)), (9, .int .i64 (i : Int))]) (by repeat (first | exact trivial | refine ⟨rfl, ?_⟩)) ?_
    refine WC.seq ?_
    refine WC.seq ?_
    refine WC.reg ?_
    refine WL.v (Runs.move rfl) rfl ?_
    refine WL.v (Runs.move rfl) rfl ?_
    refine WL.v (Runs.llen Try.underlying23 rfl rfl) rfl ?_
    refine WL.v (Runs.lss rfl rfl) rfl ?_
    refine WL.nil ?_
    refine WN.thn ?_
    refine WC.cond rfl (fun c11 => ?_) (fun c11 => ?_)
    · try simp only [decide_eq_true_eq, decide_eq_false_iff_not, Bool.not_eq_true', Bool.not_eq_false', Bool.and_eq_true, Int.not_lt, Int.not_le] at c11
      first
      | (exfalso; omega)
      | skip
        refine WC.skip ?_
        refine WN.thn ?_
        refine WC.seq ?_
        refine WC.block ?_
        refine WC.seq ?_
        obtain ⟨bd, rfl⟩ := rdA hB (by omega)
        refine WC.reg ?_
        refine WL.v (Runs.move rfl) rfl ?_
        refine WL.v (Runs.move rfl) rfl ?_
        refine WL.v (Runs.move rfl) rfl ?_
        refine WL.v (Runs.move rfl) rfl ?_
        refine WL.v (Runs.lidxK Try.underlying23 inf31 rfl rfl (n := i) rfl (by omega)) rfl ?_
        refine WL.v (Runs.loadRows o0 hL (hB.mono hG) rfl (by omega) Try.underlying31 rfl inf31 rfl) rfl ?_
        refine WL.call can12 rfl rfl (does_c _ (os.getD i o0) hL hp) ?_
        rintro _ w12 ⟨G5, p5, hl5, rfl, hp5, h12⟩
        refine ⟨_, rfl, ?_⟩
        refine WL.nil ?_
        refine WN.thn ?_
        refine WC.seq ?_
        refine WC.seq ?_
        refine WC.reg ?_
        refine WL.v (Runs.move rfl) rfl ?_
        refine WL.v (Runs.move rfl) rfl ?_
        refine WL.v (Runs.move rfl) rfl ?_
        refine WL.v (Runs.move rfl) rfl ?_
        refine WL.v (Runs.lidxK Try.underlying23 inf31 rfl rfl (n := i) rfl (by omega)) rfl ?_
        refine WL.v (Runs.loadRows o0 h12 (hB.mono (Le.trans hG hl5)) rfl (by omega) Try.underlying31 rfl inf31 rfl) rfl ?_
        refine WL.call can12 rfl rfl (does_c _ (os.getD i o0) (St_swap h12) (hq.mono hl5)) ?_
        rintro _ w13 ⟨G6, q6, hl6, rfl, hq6, h13⟩
        refine ⟨_, rfl, ?_⟩
        refine WL.v (Runs.not rfl) rfl ?_
        refine WL.v (Runs.move rfl) rfl ?_
        refine WL.gon rfl rfl rfl ?_
        refine WL.v (Runs.move rfl) rfl ?_
        refine WL.gon rfl rfl rfl ?_
        refine WL.v (Runs.move rfl) rfl ?_
        refine WL.gon rfl rfl rfl ?_
        refine WL.v (Runs.move rfl) rfl ?_
        refine WL.gon rfl rfl rfl ?_
        refine WL.v (Runs.move rfl) rfl ?_
        refine WL.gon rfl rfl rfl ?_
        refine WL.v (Runs.lidxK Try.underlying23 inf31 rfl rfl (n := i) rfl (by omega)) rfl ?_
        refine WL.gon rfl rfl rfl ?_
        refine WL.v (Runs.loadRows o0 h13 (hB.mono (Le.trans hG (Le.trans hl5 hl6))) rfl (by omega) Try.underlying31 rfl inf31 rfl) rfl ?_
        refine WL.gon rfl rfl rfl ?_
        refine WL.call can12 rfl rfl (does_c _ (os.getD i o0) h13 hq6) ?_
        rintro _ w14 ⟨G7, q7, hl7, rfl, hq7, h14⟩
        refine ⟨_, rfl, ?_⟩
        rw [does_idem] at hq7
        have hp7 := hp5.mono (Le.trans hl6 hl7)
        refine WL.gon rfl rfl rfl ?_
        refine WL.v (Runs.not rfl) rfl ?_
        refine WL.v (Runs.pick rfl rfl rfl) rfl ?_
        refine WL.nil ?_
        refine WN.thn ?_
        refine WC.condF rfl (rfl) ?_
        refine WC.skip ?_
        refine WN.thn ?_
        refine WC.seq ?_
        refine WC.reg ?_
        refine WL.v (Runs.move rfl) rfl ?_
        refine WL.call can13 rfl rfl (tstate_p _ (St_swap h14) hp7) ?_
        rintro _ w15 ⟨rfl, h15⟩
        refine ⟨_, rfl, ?_⟩
        refine WL.v (Runs.move rfl) rfl ?_
        refine WL.call can13 rfl rfl (tstate_p _ (St_swap h15) hq7) ?_
        rintro _ w16 ⟨rfl, h16⟩
        refine ⟨_, rfl, ?_⟩
        refine WL.v (Runs.boolT (c := false) (Runs.neq rfl rfl) (by rw [decide_eq_true rfl]; rfl)) rfl ?_
        refine WL.v (Runs.move rfl) rfl ?_
        refine WL.gon rfl rfl rfl ?_
        refine WL.v (Runs.move rfl) rfl ?_
        refine WL.gon rfl rfl rfl ?_
        refine WL.call can15 rfl rfl (tcode_p _ (St_swap h16) hp7) ?_
        rintro _ w17 ⟨rfl, h17⟩
        refine ⟨_, rfl, ?_⟩
        refine WL.gon rfl rfl rfl ?_
        refine WL.v (Runs.move rfl) rfl ?_
        refine WL.gon rfl rfl rfl ?_
        refine WL.call can15 rfl rfl (tcode_p _ (St_swap h17) hq7) ?_
        rintro _ w18 ⟨rfl, h18⟩
        refine ⟨_, rfl, ?_⟩
        refine WL.gon rfl rfl rfl ?_
        refine WL.v (Runs.boolT (c := false) (Runs.neq rfl rfl) (by rw [decide_eq_true rfl]; rfl)) rfl ?_
        refine WL.v (Runs.pick rfl rfl rfl) rfl ?_
        refine WL.v (Runs.move rfl) rfl ?_
        refine WL.gon rfl rfl rfl ?_
        refine WL.v (Runs.move rfl) rfl ?_
        refine WL.gon rfl rfl rfl ?_
        refine WL.call can18 rfl rfl (tmiss_p _ (St_swap h18) hp7) ?_
        rintro _ w19 ⟨G20, A20, cap20, hle20, rfl, hc20, hrd20, h19⟩
        refine ⟨_, rfl, ?_⟩
        refine WL.gon rfl rfl rfl ?_
        refine WL.v (Runs.move rfl) rfl ?_
        refine WL.gon rfl rfl rfl ?_
        refine WL.call can18 rfl rfl (tmiss_p _ (St_swap h19) (hq7.mono hle20)) ?_
        rintro _ w21 ⟨G22, A22, cap22, hle22, rfl, hc22, hrd22, h21⟩
        refine ⟨_, rfl, ?_⟩
        refine WL.gon rfl rfl rfl ?_
        refine WL.call can17 rfl rfl (same_eq _ h21 (hrd20.mono hle22) hrd22 (by have := hp7.small; omega) rfl) ?_
        rintro _ w23 ⟨rfl, h23⟩
        refine ⟨_, rfl, ?_⟩
        refine WL.gon rfl rfl rfl ?_
        refine WL.v (Runs.not rfl) rfl ?_
        refine WL.v (Runs.pick rfl rfl rfl) rfl ?_
        refine WL.nil ?_
        refine WN.thn ?_
        refine WC.condF rfl (rfl) ?_
        refine WC.skip ?_
        refine WN.blk ?_
        refine WN.thn ?_
        refine WC.reg ?_
        refine WL.v (Runs.move rfl) rfl ?_
        refine WL.v (Runs.addn rfl rfl (by omega)) rfl ?_
        refine WL.v (Runs.assign rfl) rfl ?_
        refine WL.nil ?_
        exact WN.again (⟨i + 1, _, p5, q7, t.does (os.getD i o0)⟩ : Nat × Snap × List Res × List Res × T) (by show os.length - (i + 1) < os.length - i; omega) ⟨rfl, rfl, rfl, rfl, rfl, rfl, rfl, trivial⟩ ⟨by show i + 1 ≤ _; omega, Le.trans hG (Le.trans hl5 (Le.trans hl6 (Le.trans hl7 (Le.trans hle20 hle22)))), hp7.mono (Le.trans hle20 hle22), hq7.mono (Le.trans hle20 hle22), St_swap h23⟩
    · try simp only [decide_eq_true_eq, decide_eq_false_iff_not, Bool.not_eq_true', Bool.not_eq_false', Bool.and_eq_true, Int.not_lt, Int.not_le] at c11
      first
      | (exfalso; omega)
      | skip
        refine WC.exit ?_
        refine WX.thn ?_
        refine WX.cut ?_
        refine WX.hit ?_
        refine WN.thn ?_
        refine WC.seq ?_
        refine WC.reg ?_
        refine WL.call can9 rfl rfl (live_c _ hL) ?_
        rintro _ w24 ⟨rfl, h24⟩
        refine ⟨_, rfl, ?_⟩
        refine WL.v (Runs.assign rfl) rfl ?_
        refine WL.nil ?_
        refine WN.thn ?_
        refine WC.ret ?_
        exact ret1 rfl rfl ⟨rfl, (St_tail (St_tail h24)).weak hG⟩
end Tal
end Go.Proofs.Ytkgmlngmojnpmaa
