/- Chapter 14: tallies that are none; new ones on both sides. -/
import Derived.Test.YtkgmlngmojnpmaaProg
import Derived.Test.YtkgmlngmojnpmaaBaseR
import Derived.Test.YtkgmlngmojnpmaaTal12
namespace Go.Proofs.Ytkgmlngmojnpmaa
open Go Go.RowKit B
set_option linter.unusedVariables false
set_option linter.unusedSimpArgs false
namespace Tal


def okN (ns : List Int) : Prop := 0 < ns.length ∧ oks ns
theorem okp_all {ns : List Int} (h : okp ns ns.length) : oks ns := h
theorem last_step {ns : List Int} {k : Nat} (h : okp ns k) (h1 : ¬ ns.getD k 0 ≤ last_ ns k) (h2 : ¬ 16 ≤ ns.getD k 0) : okp ns (k + 1) := by
  unfold last_ at h1
  by_cases e : k = 0
  · subst e
    rw [if_pos rfl] at h1
    exact okp_succ h (by omega) (by omega)
  · rw [if_neg e] at h1
    have := (h.1 (k - 1) (by omega)).1
    exact okp_succ h (by omega) (by omega)
theorem last_bad {ns : List Int} {k : Nat} (hk : k < ns.length) (h : ns.getD k 0 ≤ last_ ns k ∨ 16 ≤ ns.getD k 0) : ¬ oks ns := fun ho => by
  rcases h with h | h
  · unfold last_ at h
    split at h
    · have := (ho.1 k hk).1; omega
    · have := ho.2 (k - 1) (by omega); rw [show k - 1 + 1 = k by omega] at this; omega
  · have := (ho.1 k hk).2; omega
set_option maxRecDepth 100000 in
set_option maxHeartbeats 1000000 in
theorem new_no {W : World} {F : Snap} {cs : List Res} (w : World) {A : Option Addr} {cap : Nat} {ns : List Int} (h : St W F cs w) (hR : RdS (Kd.one Vi) F A ns) (hn : ns.length ≤ 100000) (hno : ¬ okN ns) : Calls Try.prog 10 #[.slice A ns.length cap] w fun e w' => e = .returned (.pointer none) ∧ St W F cs w'  := by
  refine enter (P := Try.prog) (args := [.slice A ns.length cap]) Try.func10 rfl rfl rfl ?_
  refine WC.seq ?_
  refine WC.reg ?_
  refine WL.v (Runs.assign rfl) rfl ?_
  refine WL.nil ?_
  refine WN.thn ?_
  refine WC.seq ?_
  refine WC.reg ?_
  refine WL.v (Runs.assign rfl) rfl ?_
  refine WL.nil ?_
  refine WN.thn ?_
  refine WC.seq ?_
  refine WC.seq ?_
  refine WC.reg ?_
  refine WL.v (Runs.move rfl) rfl ?_
  refine WL.v (Runs.llen Try.underlying22 rfl rfl) rfl ?_
  refine WL.v (Runs.move rfl) rfl ?_
  refine WL.nil ?_
  refine WN.thn ?_
  refine WC.block ?_
  refine WC.loop (σ := Nat) (fun q_ => [(0, .slice A ns.length cap), (3, Vi (last_ ns q_)), (6, .slice A ns.length cap), (7, .int .i64 (ns.length : Int)), (8, .int .i64 (q_ : Int))]) (fun q_ w => q_ ≤ ns.length ∧ okp ns q_ ∧ St W F cs w) (fun q_ => ns.length - q_) (0) (by repeat (first | exact trivial | refine ⟨rfl, ?_⟩)) (⟨by omega, ⟨fun j hj => absurd hj (Nat.not_lt_zero _), fun j hj => absurd hj (Nat.not_lt_zero _)⟩, h⟩) ?_
  rintro k w1 ⟨hk1, hok, hL⟩
  try dsimp only at hk1 hok hL
  refine WC.sub (s := [(0, .slice A ns.length cap), (3, Vi (last_ ns k)), (6, .slice A ns.length cap), (7, .int .i64 (ns.length : Int)), (8, .int .i64 (k : Int))]) (by repeat (first | exact trivial | refine ⟨rfl, ?_⟩)) ?_
  refine WC.seq ?_
  refine WC.reg ?_
  refine WL.v (Runs.lss rfl rfl) rfl ?_
  refine WL.nil ?_
  refine WN.thn ?_
  refine WC.seq ?_
  refine WC.cond rfl (fun c2 => ?_) (fun c2 => ?_)
  · try simp only [decide_eq_true_eq, decide_eq_false_iff_not, Bool.not_eq_true', Bool.not_eq_false', Bool.and_eq_true, Int.not_lt, Int.not_le] at c2
    first
    | (exfalso; omega)
    | skip
      refine WC.skip ?_
      refine WN.thn ?_
      refine WC.seq ?_
      refine WC.block ?_
      refine WC.seq ?_
      obtain ⟨ad, rfl, hrd⟩ := rd1 hR (by omega)
      refine WC.reg ?_
      refine WL.v (Runs.lidxN Try.underlying22 inf3 rfl rfl (n := k) rfl (by omega)) rfl ?_
      refine WL.v (Runs.loadR (f := Vi) (0 : Int) hL hrd (n := k) (by omega) Try.underlying3 rfl rfl) rfl ?_
      refine WL.v (Runs.assign rfl) rfl ?_
      refine WL.nil ?_
      refine WN.thn ?_
      refine WC.seq ?_
      refine WC.seq ?_
      have hcase : ns.getD k 0 ≤ last_ ns k ∨ (¬ ns.getD k 0 ≤ last_ ns k ∧ 16 ≤ ns.getD k 0) ∨ (¬ ns.getD k 0 ≤ last_ ns k ∧ ¬ 16 ≤ ns.getD k 0) := by omega
      rcases hcase with hA | hB | hC
      · skip
        refine WC.reg ?_
        refine WL.v (Runs.move rfl) rfl ?_
        refine WL.v (Runs.move rfl) rfl ?_
        refine WL.v (Runs.boolT (c := true) (Runs.leq rfl rfl) (decide_eq_true hA)) rfl ?_
        refine WL.v (Runs.move rfl) rfl ?_
        refine WL.goff rfl rfl rfl rfl ?_
        refine WL.goff rfl rfl rfl rfl ?_
        refine WL.v (Runs.pick rfl rfl rfl) rfl ?_
        refine WL.nil ?_
        refine WN.thn ?_
        refine WC.condT rfl (rfl) ?_
        refine WC.seq ?_
        refine WC.reg ?_
        refine WL.v (Runs.assign rfl) rfl ?_
        refine WL.nil ?_
        refine WN.thn ?_
        refine WC.ret ?_
        exact ret1 rfl rfl ⟨rfl, hL⟩
      · skip
        refine WC.reg ?_
        refine WL.v (Runs.move rfl) rfl ?_
        refine WL.v (Runs.move rfl) rfl ?_
        refine WL.v (Runs.boolT (c := false) (Runs.leq rfl rfl) (decide_eq_false hB.1)) rfl ?_
        refine WL.v (Runs.move rfl) rfl ?_
        refine WL.gon rfl rfl rfl ?_
        refine WL.v (Runs.move rfl) rfl ?_
        refine WL.gon rfl rfl rfl ?_
        refine WL.v (Runs.boolT (c := true) (Runs.geq rfl rfl) (decide_eq_true hB.2)) rfl ?_
        refine WL.v (Runs.pick rfl rfl rfl) rfl ?_
        refine WL.nil ?_
        refine WN.thn ?_
        refine WC.condT rfl (rfl) ?_
        refine WC.seq ?_
        refine WC.reg ?_
        refine WL.v (Runs.assign rfl) rfl ?_
        refine WL.nil ?_
        refine WN.thn ?_
        refine WC.ret ?_
        exact ret1 rfl rfl ⟨rfl, hL⟩
      · skip
        refine WC.reg ?_
        refine WL.v (Runs.move rfl) rfl ?_
        refine WL.v (Runs.move rfl) rfl ?_
        refine WL.v (Runs.boolT (c := false) (Runs.leq rfl rfl) (decide_eq_false hC.1)) rfl ?_
        refine WL.v (Runs.move rfl) rfl ?_
        refine WL.gon rfl rfl rfl ?_
        refine WL.v (Runs.move rfl) rfl ?_
        refine WL.gon rfl rfl rfl ?_
        refine WL.v (Runs.boolT (c := false) (Runs.geq rfl rfl) (decide_eq_false hC.2)) rfl ?_
        refine WL.v (Runs.pick rfl rfl rfl) rfl ?_
        refine WL.nil ?_
        refine WN.thn ?_
        refine WC.condF rfl (rfl) ?_
        refine WC.skip ?_
        refine WN.thn ?_
        refine WC.reg ?_
        refine WL.v (Runs.move rfl) rfl ?_
        refine WL.v (Runs.assign rfl) rfl ?_
        refine WL.nil ?_
        refine WN.blk ?_
        refine WN.thn ?_
        refine WC.reg ?_
        refine WL.v (Runs.addn rfl rfl (by omega)) rfl ?_
        refine WL.v (Runs.move rfl) rfl ?_
        refine WL.nil ?_
        exact WN.again (k + 1) (by omega) ⟨rfl, rfl, rfl, rfl, rfl, trivial⟩ ⟨by omega, last_step hok hC.1 hC.2, hL⟩
  · try simp only [decide_eq_true_eq, decide_eq_false_iff_not, Bool.not_eq_true', Bool.not_eq_false', Bool.and_eq_true, Int.not_lt, Int.not_le] at c2
    first
    | (exfalso; omega)
    | skip
      refine WC.exit ?_
      refine WX.thn ?_
      refine WX.cut ?_
      refine WX.hit ?_
      refine WN.thn ?_
      refine WC.seq ?_
      refine WC.seq ?_
      obtain rfl : k = ns.length := by omega
      have h0 : ns.length = 0 := by
        by_cases h0 : 0 < ns.length
        · exact absurd ⟨h0, okp_all hok⟩ hno
        · omega
      refine WC.reg ?_
      refine WL.v (Runs.move rfl) rfl ?_
      refine WL.v (Runs.llen Try.underlying22 rfl rfl) rfl ?_
      refine WL.v (Runs.boolT (c := true) (Runs.eql rfl rfl) (by rw [decide_eq_true_eq]; omega)) rfl ?_
      refine WL.nil ?_
      refine WN.thn ?_
      refine WC.condT rfl (rfl) ?_
      refine WC.seq ?_
      refine WC.reg ?_
      refine WL.v (Runs.assign rfl) rfl ?_
      refine WL.nil ?_
      refine WN.thn ?_
      refine WC.ret ?_
      exact ret1 rfl rfl ⟨rfl, hL⟩
set_option maxRecDepth 100000 in
set_option maxHeartbeats 1000000 in
theorem rnew_l {W : World} {F : Snap} {cs : List Res} (w : World) {A : Option Addr} {cap : Nat} {ns : List Int} (h : St W F cs w) (hb : ns.length < 1 ∨ 16 < ns.length) : Calls Try.prog 11 #[.slice A ns.length cap] w fun e w' => e = .returned (.pointer none) ∧ St W F cs w'  := by
  refine enter (P := Try.prog) (args := [.slice A ns.length cap]) Try.func11 rfl rfl rfl ?_
  refine WC.seq ?_
  refine WC.reg ?_
  refine WL.v (Runs.assign rfl) rfl ?_
  refine WL.nil ?_
  refine WN.thn ?_
  refine WC.seq ?_
  refine WC.seq ?_
  have hcase : ns.length < 1 ∨ (¬ ns.length < 1 ∧ 16 < ns.length) := by omega
  rcases hcase with hA | hB
  · skip
    refine WC.reg ?_
    refine WL.v (Runs.move rfl) rfl ?_
    refine WL.v (Runs.llen Try.underlying22 rfl rfl) rfl ?_
    refine WL.v (Runs.boolT (c := true) (Runs.lss rfl rfl) (by rw [decide_eq_true_eq]; omega)) rfl ?_
    refine WL.v (Runs.move rfl) rfl ?_
    refine WL.goff rfl rfl rfl rfl ?_
    refine WL.goff rfl rfl rfl rfl ?_
    refine WL.goff rfl rfl rfl rfl ?_
    refine WL.v (Runs.pick rfl rfl rfl) rfl ?_
    refine WL.nil ?_
    refine WN.thn ?_
    refine WC.condT rfl (rfl) ?_
    refine WC.seq ?_
    refine WC.reg ?_
    refine WL.v (Runs.assign rfl) rfl ?_
    refine WL.nil ?_
    refine WN.thn ?_
    refine WC.ret ?_
    exact ret1 rfl rfl ⟨rfl, h⟩
  · skip
    refine WC.reg ?_
    refine WL.v (Runs.move rfl) rfl ?_
    refine WL.v (Runs.llen Try.underlying22 rfl rfl) rfl ?_
    refine WL.v (Runs.boolT (c := false) (Runs.lss rfl rfl) (by rw [decide_eq_false_iff_not]; omega)) rfl ?_
    refine WL.v (Runs.move rfl) rfl ?_
    refine WL.gon rfl rfl rfl ?_
    refine WL.v (Runs.move rfl) rfl ?_
    refine WL.gon rfl rfl rfl ?_
    refine WL.v (Runs.llen Try.underlying22 rfl rfl) rfl ?_
    refine WL.gon rfl rfl rfl ?_
    refine WL.v (Runs.boolT (c := true) (Runs.gtr rfl rfl) (by rw [decide_eq_true_eq]; omega)) rfl ?_
    refine WL.v (Runs.pick rfl rfl rfl) rfl ?_
    refine WL.nil ?_
    refine WN.thn ?_
    refine WC.condT rfl (rfl) ?_
    refine WC.seq ?_
    refine WC.reg ?_
    refine WL.v (Runs.assign rfl) rfl ?_
    refine WL.nil ?_
    refine WN.thn ?_
    refine WC.ret ?_
    exact ret1 rfl rfl ⟨rfl, h⟩
theorem rnew_no {W : World} {F : Snap} {cs : List Res} (w : World) {A : Option Addr} {cap : Nat} {ns : List Int} (h : St W F cs w) (hR : RdS (Kd.one Vi) F A ns) (hno : ¬ okN ns) : Calls Try.prog 11 #[.slice A ns.length cap] w fun e w' => e = .returned (.pointer none) ∧ St W F cs w' := by
  by_cases hb : ns.length < 1 ∨ 16 < ns.length
  · exact rnew_l w h hb
  · exact (rnew_c w h hR (by omega) (by omega)).mono fun e w' hh => by
      rcases hh with ⟨_, h1, h2⟩ | ⟨h1, _⟩
      · exact ⟨h1, h2⟩
      · exact absurd ⟨by omega, h1⟩ hno
def T.new (ns : List Int) : T := ⟨ns, ns.map fun _ => none, ns.map fun _ => none⟩
theorem Row.blkI {E : Nat} {r : Res} {v : Value} {xs : List Int} (h : Row E Vi r v xs) (h0 : 0 < xs.length) : ∃ b zs fz, r = [(b, .cells (xs.map Vi ++ zs).toArray E fz)] ∧ v = .slice (.some ⟨b, 0, none⟩) xs.length (xs.length + zs.length) ∧ Free fz (xs.length + zs.length) := Row.blk h h0
theorem rnew_y {W : World} {F : Snap} {cs : List Res} (w : World) {A : Option Addr} {cap : Nat} {ns : List Int} (h : St W F cs w) (hR : RdS (Kd.one Vi) F A ns) (hok : okN ns) : Calls Try.prog 11 #[.slice A ns.length cap] w fun e w' => ∃ G b bv bc zv zc fv fc, Le F G ∧ e = .returned (.pointer (some ⟨b, 0, none⟩)) ∧ St W G ([(bv, .cells (((T.new ns).vs.map eV).map Vi ++ zv).toArray 3 fv)] :: [(bc, .cells (((T.new ns).cs.map eC).map Vi ++ zc).toArray 3 fc)] :: cs) w' ∧ RR G ([(bv, .cells (((T.new ns).vs.map eV).map Vi ++ zv).toArray 3 fv)] :: [(bc, .cells (((T.new ns).cs.map eC).map Vi ++ zc).toArray 3 fc)] :: cs) b 0 1 bv bc zv zc fv fc (T.new ns) := by
  have hl := oks_len hok.2
  refine (rnew_c w h hR hok.1 hl).mono fun e w' hh => ?_
  rcases hh with ⟨h1, _⟩ | ⟨_, b, rN, vN, rV, vV, rC, vC, rfl, h1, h2, h3, h4⟩
  · exact absurd hok.2 h1
  · obtain ⟨G1, l1, g1, S1⟩ := h4.freeze (i := 0) rfl
    have hb := g1 _ List.mem_cons_self
    have S1' : St W G1 (rN :: rV :: rC :: cs) w' := S1
    obtain ⟨G2, A2, cap2, l2, e2, _, hR2, S2⟩ := Row.gives h1 S1'
    injection e2 with e2
    subst e2
    obtain ⟨bv, zv, fv, rfl, rfl, hfv⟩ := Row.blkI h2 (by rw [List.length_map]; exact hok.1)
    obtain ⟨bc, zc, fc, rfl, rfl, hfc⟩ := Row.blkI h3 (by rw [List.length_map]; exact hok.1)
    have ev : (ns.map fun _ => (0 : Int)) = (T.new ns).vs.map eV := by
      show _ = List.map eV (ns.map fun _ => none)
      rw [List.map_map]; rfl
    have ec : (ns.map fun _ => (-1 : Int)) = (T.new ns).cs.map eC := by
      show _ = List.map eC (ns.map fun _ => none)
      rw [List.map_map]; rfl
    rw [ev] at S2 hfv hb
    rw [ec] at S2 hfc hb
    have hb2 := l2 _ _ hb
    refine ⟨G2, b, bv, bc, zv, zc, fv, fc, Le.trans l1 l2, rfl, S2, ⟨⟨A2, cap2, ?_, hR2⟩, ?_, ?_, rfl, rfl, hfv, hfc, by simp [T.new], by simp [T.new], hok.1, hl, oks_nodup hok.2, fun c hc => by simp [T.new] at hc, by decide⟩⟩
    · unfold cellF; simp only [hb2]; rfl
    · unfold cellF; simp only [hb2]; rfl
    · unfold cellF; simp only [hb2]; rfl
theorem RR.push {F : Snap} {cs : List Res} {r : Res} {b i j bv bc : Nat} {zv zc : List Value} {fv fc : Nat × Nat} {t : T} (h : RR F cs b i j bv bc zv zc fv fc t) : RR F (r :: cs) b (i + 1) (j + 1) bv bc zv zc fv fc t := by
  obtain ⟨h1, h3, h4, h5, h6, h7, h8, h9, h10, h11, h12, h13, h14, h15⟩ := h
  exact ⟨h1, h3, h4, h5, h6, h7, h8, h9, h10, h11, h12, h13, h14, by omega⟩
/-- two calls: a tally and the document's -/
theorem mkPr {W w : World} {F G : Snap} {cs : List Res} {a b mv mc bv bc : Nat} {lv lc : List (Int × Value)} {zv zc : List Value} {fv fc : Nat × Nat} {t : T} (hle : Le F G)
    (ht : TR F ([(mv, mobj lv)] :: [(mc, mobj lc)] :: cs) a 0 1 mv mc lv lc t) (hr : RR G ([(bv, .cells ((t.vs.map eV).map Vi ++ zv).toArray 3 fv)] :: [(bc, .cells ((t.cs.map eC).map Vi ++ zc).toArray 3 fc)] :: [(mv, mobj lv)] :: [(mc, mobj lc)] :: cs) b 0 1 bv bc zv zc fv fc t) (h : St W G ([(bv, .cells ((t.vs.map eV).map Vi ++ zv).toArray 3 fv)] :: [(bc, .cells ((t.cs.map eC).map Vi ++ zc).toArray 3 fc)] :: [(mv, mobj lv)] :: [(mc, mobj lc)] :: cs) w) : ∃ p, Pr G p a b t ∧ St W G (p ++ cs) w := by
  refine ⟨[[(mv, mobj lv)], [(mc, mobj lc)], [(bv, .cells ((t.vs.map eV).map Vi ++ zv).toArray 3 fv)], [(bc, .cells ((t.cs.map eC).map Vi ++ zc).toArray 3 fc)]], ⟨mv, mc, lv, lc, bv, bc, zv, zc, fv, fc, rfl, ?_, ?_⟩, ?_⟩
  · have h1 : TR F [[(mv, mobj lv)], [(mc, mobj lc)]] a 0 1 mv mc lv lc t := TR.pre cs ht (by simp) (by simp)
    exact (h1.mono hle).app [[(bv, .cells ((t.vs.map eV).map Vi ++ zv).toArray 3 fv)], [(bc, .cells ((t.cs.map eC).map Vi ++ zc).toArray 3 fc)]]
  · have h1 : RR G [[(bv, .cells ((t.vs.map eV).map Vi ++ zv).toArray 3 fv)], [(bc, .cells ((t.cs.map eC).map Vi ++ zc).toArray 3 fc)]] b 0 1 bv bc zv zc fv fc t := RR.pre ([(mv, mobj lv)] :: [(mc, mobj lc)] :: cs) hr (by simp) (by simp)
    exact (h1.push (r := [(mc, mobj lc)])).push (r := [(mv, mobj lv)])
  · refine h.perm ?_
    exact (List.perm_append_comm (l₁ := [[(mv, mobj lv)], [(mc, mobj lc)]]) (l₂ := [[(bv, .cells ((t.vs.map eV).map Vi ++ zv).toArray 3 fv)], [(bc, .cells ((t.cs.map eC).map Vi ++ zc).toArray 3 fc)]])).append_right cs
end Tal
end Go.Proofs.Ytkgmlngmojnpmaa
