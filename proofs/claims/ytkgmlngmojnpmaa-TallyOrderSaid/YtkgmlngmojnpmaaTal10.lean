/- Walks of the reference of chapter 14: votes, exits, what is missing. -/
import Derived.Test.YtkgmlngmojnpmaaProg
import Derived.Test.YtkgmlngmojnpmaaTal9
namespace Go.Proofs.Ytkgmlngmojnpmaa
open Go Go.RowKit B
set_option linter.unusedVariables false
set_option linter.unusedSimpArgs false
namespace Tal

theorem can35 : B.Can Try.prog 35 := ⟨_, Try.func35, by kernel_rfl, rfl⟩   -- (*roundhouse/roundhouseref14.Tally).at
theorem eV_ne {o : Option Bool} (h : o ≠ none) : eV o ≠ 0 := fun e => h (eV_inj e)
theorem eC_ne {os : List (Option Int)} {k : Nat} (hok : ∀ c, some c ∈ os → 0 ≤ c) (hk : k < os.length) (h : os.getD k none ≠ none) : eC (os.getD k none) ≠ -1 := fun e => by
  rw [List.getD_eq_getElem?_getD, List.getElem?_eq_getElem hk] at h e
  cases h2 : os[k] with
  | none => rw [h2] at h; exact h rfl
  | some c =>
    rw [h2] at e
    have := hok c (h2 ▸ List.getElem_mem hk)
    simp only [eC, Option.getD_some] at e
    omega
theorem mK {t : T} {k : Nat} (hk : k < t.ns.length) (hlv : t.vs.length = t.ns.length) (hlc : t.cs.length = t.ns.length) :
    (t.state = 0 → t.vs.getD k none = none → missK t (k + 1) = missK t k ++ [t.ns.getD k 0]) ∧ (t.state = 0 → t.vs.getD k none ≠ none → missK t (k + 1) = missK t k) ∧
    (t.state = 1 → t.cs.getD k none = none → missK t (k + 1) = missK t k ++ [t.ns.getD k 0]) ∧ (t.state = 1 → t.cs.getD k none ≠ none → missK t (k + 1) = missK t k) ∧
    (t.state ≠ 0 → t.state ≠ 1 → missK t (k + 1) = missK t k) := by
  unfold missK
  refine ⟨fun h0 h => ?_, fun h0 h => ?_, fun h0 h => ?_, fun h0 h => ?_, fun h0 h => ?_⟩
  · rw [if_pos h0, if_pos h0, miss_take _ _ k hk hlv, h]; rfl
  · rw [if_pos h0, if_pos h0, miss_take _ _ k hk hlv]
    cases e : t.vs.getD k none with
    | none => exact absurd e h
    | some x => simp
  · have h1 : t.state ≠ 0 := by rw [h0]; decide
    rw [if_neg h1, if_neg h1, if_pos h0, if_pos h0, miss_take _ _ k hk hlc, h]; rfl
  · have h1 : t.state ≠ 0 := by rw [h0]; decide
    rw [if_neg h1, if_neg h1, if_pos h0, if_pos h0, miss_take _ _ k hk hlc]
    cases e : t.cs.getD k none with
    | none => exact absurd e h
    | some x => simp
  · rw [if_neg h0, if_neg h0, if_neg h, if_neg h]
theorem set_len {α : Type} (l : List α) (k : Nat) (x : α) : (l.set k x).length = l.length := List.length_set
theorem rstate_r {W : World} {F : Snap} {cs : List Res} (w : World) {b i j bv bc : Nat} {zv zc : List Value} {fv fc : Nat × Nat} {t : T} (h : St W F cs w) (hr : RR F cs b i j bv bc zv zc fv fc t) : Calls Try.prog 14 #[.pointer (some ⟨b, 0, none⟩)] w fun e w' => e = .returned (Vi t.state) ∧ St W F cs w' := by
  obtain ⟨G, cs', hle, hz, hs, back⟩ := hr.use h
  exact (rstate_z w hs hz).mono fun e w' ⟨h1, h2⟩ => ⟨h1, back [] w' h2⟩
theorem rcode_r {W : World} {F : Snap} {cs : List Res} (w : World) {b i j bv bc : Nat} {zv zc : List Value} {fv fc : Nat × Nat} {t : T} (h : St W F cs w) (hr : RR F cs b i j bv bc zv zc fv fc t) : Calls Try.prog 16 #[.pointer (some ⟨b, 0, none⟩)] w fun e w' => e = .returned (Vi t.code) ∧ St W F cs w' := by
  obtain ⟨G, cs', hle, hz, hs, back⟩ := hr.use h
  exact (rcode_z w hs hz).mono fun e w' ⟨h1, h2⟩ => ⟨h1, back [] w' h2⟩
set_option maxRecDepth 100000 in
set_option maxHeartbeats 2000000 in
theorem rmiss_z {W : World} {F : Snap} {cs : List Res} (w : World) {b : Nat} {t : T} (h : St W F cs w) (hz : RZ F b t) : Calls Try.prog 19 #[.pointer (some ⟨b, 0, none⟩)] w fun e w' => ∃ r v, e = .returned v ∧ Row 3 Vi r v t.missing ∧ St W F (r :: cs) w'  := by
  refine enter (P := Try.prog) (args := [.pointer (some ⟨b, 0, none⟩)]) Try.func19 rfl rfl rfl ?_
  obtain ⟨A0, cap0, hs0, hR0⟩ := hz.s0
  obtain ⟨A1, cap1, hs1, hR1⟩ := hz.s1
  obtain ⟨A2, cap2, hs2, hR2⟩ := hz.s2
  have hlv := hz.lv
  have hlc := hz.lc
  have hsm := hz.small
  have hpos := hz.pos
  obtain ⟨a0, rfl, hrd0⟩ := rd1 hR0 hpos
  obtain ⟨a1, rfl, hrd1⟩ := rd1 hR1 (by rw [List.length_map]; omega)
  obtain ⟨a2, rfl, hrd2⟩ := rd1 hR2 (by rw [List.length_map]; omega)
  refine WC.seq ?_
  refine WC.reg ?_
  refine WL.v (Runs.assign rfl) rfl ?_
  refine WL.nil ?_
  refine WN.thn ?_
  refine WC.seq ?_
  refine WC.reg ?_
  refine WL.v (Runs.assign rfl) rfl ?_
  refine WL.nil ?_
  refine WN.thn ?_
  refine WC.seq ?_
  refine WC.seq ?_
  refine WC.reg ?_
  refine WL.v (Runs.assign rfl) rfl ?_
  refine WL.nil ?_
  refine WN.thn ?_
  refine WC.block ?_
  refine WC.loop (σ := Nat × Res × Value) (fun q_ => [(0, .pointer (some ⟨b, 0, none⟩)), (3, q_.2.2), (4, .int .i64 (q_.1 : Int))]) (fun q_ w => q_.1 ≤ t.ns.length ∧ Row 3 Vi q_.2.1 q_.2.2 (missK t q_.1) ∧ St W F (q_.2.1 :: cs) w) (fun q_ => t.ns.length - q_.1) (⟨0, [], .slice none 0 0⟩) (by repeat (first | exact trivial | refine ⟨rfl, ?_⟩)) (⟨by omega, by have e : missK t 0 = [] := (by simp [missK, miss]); rw [e]; exact Row.nil _ _, h.nilRes⟩) ?_
  rintro ⟨k, r, v⟩ w1 ⟨hk, hro, hL⟩
  try dsimp only at hk hro hL
  refine WC.sub (s := [(0, .pointer (some ⟨b, 0, none⟩)), (3, v), (4, .int .i64 (k : Int))]) (by repeat (first | exact trivial | refine ⟨rfl, ?_⟩)) ?_
  obtain ⟨Ao, co, rfl, hcap⟩ := hro.val
  have hmk := missK_len t k
  refine WC.seq ?_
  refine WC.seq ?_
  refine WC.reg ?_
  refine WL.v (Runs.move rfl) rfl ?_
  refine WL.v (Runs.move rfl) rfl ?_
  refine WL.v (Runs.nilCheckP rfl) rfl ?_
  refine WL.v (Runs.fld fld51_0 rfl) rfl ?_
  refine WL.v (Runs.load1 Try.underlying22 rfl rfl (hL.cell hs0)) rfl ?_
  refine WL.v (Runs.llen Try.underlying22 rfl rfl) rfl ?_
  refine WL.v (Runs.lss rfl rfl) rfl ?_
  refine WL.nil ?_
  refine WN.thn ?_
  refine WC.cond rfl (fun c2 => ?_) (fun c2 => ?_)
  · try simp only [decide_eq_true_eq, decide_eq_false_iff_not, Bool.not_eq_true', Bool.not_eq_false', Bool.and_eq_true, Int.not_lt, Int.not_le] at c2
    first
    | (exfalso; omega)
    | skip
      refine WC.skip ?_
      refine WN.thn ?_
      refine WC.seq ?_
      refine WC.block ?_
      refine WC.seq ?_
      have hkv : k < (t.vs.map eV).length := by rw [List.length_map]; omega
      have hkc : k < (t.cs.map eC).length := by rw [List.length_map]; omega
      have hkc2 : k < t.cs.length := by omega
      have hkv2 : k < t.vs.length := by omega
      have hcase : (t.state = 0 ∧ t.vs.getD k none = none) ∨ (t.state = 0 ∧ t.vs.getD k none ≠ none) ∨ (t.state = 1 ∧ t.cs.getD k none = none) ∨ (t.state = 1 ∧ t.cs.getD k none ≠ none) ∨ (t.state ≠ 0 ∧ t.state ≠ 1) := by
        by_cases h0 : t.state = 0 <;> by_cases h1 : t.state = 1 <;> by_cases h2 : t.vs.getD k none = none <;> by_cases h3 : t.cs.getD k none = none <;> simp_all
      rcases hcase with ⟨hA1, hA2⟩ | ⟨hB1, hB2⟩ | ⟨hC1, hC2⟩ | ⟨hD1, hD2⟩ | ⟨hE1, hE2⟩
      · skip
        refine WC.reg ?_
        refine WL.v (Runs.move rfl) rfl ?_
        refine WL.call can14 rfl rfl (rstate_z _ hL hz) ?_
        rintro _ w3 ⟨rfl, h3⟩
        refine ⟨_, rfl, ?_⟩
        refine WL.v (Runs.boolT (c := true) (Runs.eql rfl rfl) (decide_eq_true hA1)) rfl ?_
        refine WL.v (Runs.move rfl) rfl ?_
        refine WL.gon rfl rfl rfl ?_
        refine WL.v (Runs.move rfl) rfl ?_
        refine WL.gon rfl rfl rfl ?_
        refine WL.v (Runs.nilCheckP rfl) rfl ?_
        refine WL.gon rfl rfl rfl ?_
        refine WL.v (Runs.fld fld51_1 rfl) rfl ?_
        refine WL.gon rfl rfl rfl ?_
        refine WL.v (Runs.load1 Try.underlying22 rfl rfl (h3.cell hs1)) rfl ?_
        refine WL.gon rfl rfl rfl ?_
        refine WL.v (Runs.move rfl) rfl ?_
        refine WL.gon rfl rfl rfl ?_
        refine WL.v (Runs.lidxN Try.underlying22 inf3 rfl rfl (n := k) rfl hkv) rfl ?_
        refine WL.gon rfl rfl rfl ?_
        refine WL.v (Runs.intT (n := eV (t.vs.getD k none)) (Runs.loadR (f := Vi) (0 : Int) h3 hrd1 (n := k) hkv Try.underlying3 rfl rfl) (eV_at _ _)) rfl ?_
        refine WL.gon rfl rfl rfl ?_
        refine WL.v (Runs.boolT (c := true) (Runs.eql rfl rfl) (by rw [hA2]; rfl)) rfl ?_
        refine WL.v (Runs.pick rfl rfl rfl) rfl ?_
        refine WL.v (Runs.move rfl) rfl ?_
        refine WL.goff rfl rfl rfl rfl ?_
        refine WL.goff rfl rfl rfl rfl ?_
        refine WL.goff rfl rfl rfl rfl ?_
        refine WL.goff rfl rfl rfl rfl ?_
        refine WL.goffU rfl rfl rfl ?_
        refine WL.goffU rfl rfl rfl ?_
        refine WL.goffU rfl rfl rfl ?_
        refine WL.goffU rfl rfl rfl ?_
        refine WL.goffU rfl rfl rfl ?_
        refine WL.goffU rfl rfl rfl ?_
        refine WL.goffU rfl rfl rfl ?_
        refine WL.goffU rfl rfl rfl ?_
        refine WL.goff rfl rfl rfl rfl ?_
        refine WL.v (Runs.pick rfl rfl rfl) rfl ?_
        refine WL.nil ?_
        refine WN.thn ?_
        refine WC.condT rfl (rfl) ?_
        refine WC.reg ?_
        refine WL.v (Runs.move rfl) rfl ?_
        refine WL.v (Runs.move rfl) rfl ?_
        refine WL.v (Runs.nilCheckP rfl) rfl ?_
        refine WL.v (Runs.fld fld51_0 rfl) rfl ?_
        refine WL.v (Runs.load1 Try.underlying22 rfl rfl (h3.cell hs0)) rfl ?_
        refine WL.v (Runs.move rfl) rfl ?_
        refine WL.v (Runs.lidxN Try.underlying22 inf3 rfl rfl (n := k) rfl (by omega)) rfl ?_
        refine WL.v (Runs.loadR (f := Vi) (0 : Int) h3 hrd0 (n := k) (by omega) Try.underlying3 rfl rfl) rfl ?_
        refine WL.lit (vs := (([t.ns.getD k 0] : List Int)).map Vi) h3 rfl Try.underlying22 inf3 rfl rfl rfl rfl rfl ?_
        intro lit50 w4 h4
        refine WL.app (ys := ([t.ns.getD k 0] : List Int)) 1 h4 rfl rfl rfl rfl Try.underlying22 Try.underlying22 (.inr ⟨_, rfl⟩) inf3 rfl hro (Src.lit h4 0 rfl rfl rfl) rfl rfl (by first | omega | (simp [missK, List.length_take]; done) | (simp [missK, List.length_take]; omega)) (by first | omega | (simp [missK, List.length_take]; done) | (simp [missK, List.length_take]; omega)) ?_
        intro r5 v5 w6 hr5 h6
        simp only [List.set_cons_zero, List.set_cons_succ] at h6
        replace h6 := h6.drop 0
        simp only [List.eraseIdx_cons_zero, List.eraseIdx_cons_succ] at h6
        refine WL.v (Runs.assign rfl) rfl ?_
        refine WL.nil ?_
        refine WN.blk ?_
        refine WN.thn ?_
        refine WC.reg ?_
        refine WL.v (Runs.move rfl) rfl ?_
        refine WL.v (Runs.addn rfl rfl (by omega)) rfl ?_
        refine WL.v (Runs.assign rfl) rfl ?_
        refine WL.nil ?_
        refine WN.again (⟨k + 1, r5, _⟩ : Nat × Res × Value) (by show t.ns.length - (k + 1) < t.ns.length - k; omega) ⟨rfl, rfl, rfl, trivial⟩ ⟨by show k + 1 ≤ _; omega, ?_, h6⟩
        have e := (mK (k := k) (by omega) hlv hlc).1 hA1 hA2
        show Row _ _ _ _ (missK t (k + 1))
        rw [e]
        exact hr5
      · have hB3 := eV_ne hB2
        refine WC.reg ?_
        refine WL.v (Runs.move rfl) rfl ?_
        refine WL.call can14 rfl rfl (rstate_z _ hL hz) ?_
        rintro _ w7 ⟨rfl, h7⟩
        refine ⟨_, rfl, ?_⟩
        refine WL.v (Runs.boolT (c := true) (Runs.eql rfl rfl) (decide_eq_true hB1)) rfl ?_
        refine WL.v (Runs.move rfl) rfl ?_
        refine WL.gon rfl rfl rfl ?_
        refine WL.v (Runs.move rfl) rfl ?_
        refine WL.gon rfl rfl rfl ?_
        refine WL.v (Runs.nilCheckP rfl) rfl ?_
        refine WL.gon rfl rfl rfl ?_
        refine WL.v (Runs.fld fld51_1 rfl) rfl ?_
        refine WL.gon rfl rfl rfl ?_
        refine WL.v (Runs.load1 Try.underlying22 rfl rfl (h7.cell hs1)) rfl ?_
        refine WL.gon rfl rfl rfl ?_
        refine WL.v (Runs.move rfl) rfl ?_
        refine WL.gon rfl rfl rfl ?_
        refine WL.v (Runs.lidxN Try.underlying22 inf3 rfl rfl (n := k) rfl hkv) rfl ?_
        refine WL.gon rfl rfl rfl ?_
        refine WL.v (Runs.intT (n := eV (t.vs.getD k none)) (Runs.loadR (f := Vi) (0 : Int) h7 hrd1 (n := k) hkv Try.underlying3 rfl rfl) (eV_at _ _)) rfl ?_
        refine WL.gon rfl rfl rfl ?_
        refine WL.v (Runs.boolT (c := false) (Runs.eql rfl rfl) (decide_eq_false hB3)) rfl ?_
        refine WL.v (Runs.pick rfl rfl rfl) rfl ?_
        refine WL.v (Runs.move rfl) rfl ?_
        refine WL.gon rfl rfl rfl ?_
        refine WL.v (Runs.move rfl) rfl ?_
        refine WL.gon rfl rfl rfl ?_
        refine WL.call can14 rfl rfl (rstate_z _ h7 hz) ?_
        rintro _ w8 ⟨rfl, h8⟩
        refine ⟨_, rfl, ?_⟩
        refine WL.gon rfl rfl rfl ?_
        refine WL.v (Runs.boolT (c := false) (Runs.eql rfl rfl) (by rw [hB1]; rfl)) rfl ?_
        refine WL.gon rfl rfl rfl ?_
        refine WL.v (Runs.move rfl) rfl ?_
        refine WL.goff rfl rfl rfl rfl ?_
        refine WL.goff rfl rfl rfl rfl ?_
        refine WL.goff rfl rfl rfl rfl ?_
        refine WL.goff rfl rfl rfl rfl ?_
        refine WL.goff rfl rfl rfl rfl ?_
        refine WL.goff rfl rfl rfl rfl ?_
        refine WL.goff rfl rfl rfl rfl ?_
        refine WL.goff rfl rfl rfl rfl ?_
        refine WL.gon rfl rfl rfl ?_
        refine WL.v (Runs.pick rfl rfl rfl) rfl ?_
        refine WL.v (Runs.pick rfl rfl rfl) rfl ?_
        refine WL.nil ?_
        refine WN.thn ?_
        refine WC.condF rfl (rfl) ?_
        refine WC.skip ?_
        refine WN.blk ?_
        refine WN.thn ?_
        refine WC.reg ?_
        refine WL.v (Runs.move rfl) rfl ?_
        refine WL.v (Runs.addn rfl rfl (by omega)) rfl ?_
        refine WL.v (Runs.assign rfl) rfl ?_
        refine WL.nil ?_
        refine WN.again (⟨k + 1, r, _⟩ : Nat × Res × Value) (by show t.ns.length - (k + 1) < t.ns.length - k; omega) ⟨rfl, rfl, rfl, trivial⟩ ⟨by show k + 1 ≤ _; omega, ?_, h8⟩
        have e := (mK (k := k) (by omega) hlv hlc).2.1 hB1 hB2
        show Row _ _ _ _ (missK t (k + 1))
        rw [e]
        exact hro
      · skip
        refine WC.reg ?_
        refine WL.v (Runs.move rfl) rfl ?_
        refine WL.call can14 rfl rfl (rstate_z _ hL hz) ?_
        rintro _ w9 ⟨rfl, h9⟩
        refine ⟨_, rfl, ?_⟩
        refine WL.v (Runs.boolT (c := false) (Runs.eql rfl rfl) (by rw [hC1]; rfl)) rfl ?_
        refine WL.v (Runs.move rfl) rfl ?_
        refine WL.goff rfl rfl rfl rfl ?_
        refine WL.goff rfl rfl rfl rfl ?_
        refine WL.goff rfl rfl rfl rfl ?_
        refine WL.goff rfl rfl rfl rfl ?_
        refine WL.goff rfl rfl rfl rfl ?_
        refine WL.goff rfl rfl rfl rfl ?_
        refine WL.goff rfl rfl rfl rfl ?_
        refine WL.goff rfl rfl rfl rfl ?_
        refine WL.v (Runs.pick rfl rfl rfl) rfl ?_
        refine WL.v (Runs.move rfl) rfl ?_
        refine WL.gon rfl rfl rfl ?_
        refine WL.v (Runs.move rfl) rfl ?_
        refine WL.gon rfl rfl rfl ?_
        refine WL.call can14 rfl rfl (rstate_z _ h9 hz) ?_
        rintro _ w10 ⟨rfl, h10⟩
        refine ⟨_, rfl, ?_⟩
        refine WL.gon rfl rfl rfl ?_
        refine WL.v (Runs.boolT (c := true) (Runs.eql rfl rfl) (decide_eq_true hC1)) rfl ?_
        refine WL.gon rfl rfl rfl ?_
        refine WL.v (Runs.move rfl) rfl ?_
        refine WL.gon rfl rfl rfl ?_
        refine WL.v (Runs.move rfl) rfl ?_
        refine WL.gon rfl rfl rfl ?_
        refine WL.v (Runs.nilCheckP rfl) rfl ?_
        refine WL.gon rfl rfl rfl ?_
        refine WL.v (Runs.fld fld51_2 rfl) rfl ?_
        refine WL.gon rfl rfl rfl ?_
        refine WL.v (Runs.load1 Try.underlying22 rfl rfl (h10.cell hs2)) rfl ?_
        refine WL.gon rfl rfl rfl ?_
        refine WL.v (Runs.move rfl) rfl ?_
        refine WL.gon rfl rfl rfl ?_
        refine WL.v (Runs.lidxN Try.underlying22 inf3 rfl rfl (n := k) rfl hkc) rfl ?_
        refine WL.gon rfl rfl rfl ?_
        refine WL.v (Runs.intT (n := eC (t.cs.getD k none)) (Runs.loadR (f := Vi) (0 : Int) h10 hrd2 (n := k) hkc Try.underlying3 rfl rfl) (eC_at hkc2)) rfl ?_
        refine WL.gon rfl rfl rfl ?_
        refine WL.v (Runs.boolT (c := true) (Runs.eql rfl rfl) (by rw [hC2]; rfl)) rfl ?_
        refine WL.gon rfl rfl rfl ?_
        refine WL.v (Runs.pick rfl rfl rfl) rfl ?_
        refine WL.v (Runs.pick rfl rfl rfl) rfl ?_
        refine WL.nil ?_
        refine WN.thn ?_
        refine WC.condT rfl (rfl) ?_
        refine WC.reg ?_
        refine WL.v (Runs.move rfl) rfl ?_
        refine WL.v (Runs.move rfl) rfl ?_
        refine WL.v (Runs.nilCheckP rfl) rfl ?_
        refine WL.v (Runs.fld fld51_0 rfl) rfl ?_
        refine WL.v (Runs.load1 Try.underlying22 rfl rfl (h10.cell hs0)) rfl ?_
        refine WL.v (Runs.move rfl) rfl ?_
        refine WL.v (Runs.lidxN Try.underlying22 inf3 rfl rfl (n := k) rfl (by omega)) rfl ?_
        refine WL.v (Runs.loadR (f := Vi) (0 : Int) h10 hrd0 (n := k) (by omega) Try.underlying3 rfl rfl) rfl ?_
        refine WL.lit (vs := (([t.ns.getD k 0] : List Int)).map Vi) h10 rfl Try.underlying22 inf3 rfl rfl rfl rfl rfl ?_
        intro lit50 w11 h11
        refine WL.app (ys := ([t.ns.getD k 0] : List Int)) 1 h11 rfl rfl rfl rfl Try.underlying22 Try.underlying22 (.inr ⟨_, rfl⟩) inf3 rfl hro (Src.lit h11 0 rfl rfl rfl) rfl rfl (by first | omega | (simp [missK, List.length_take]; done) | (simp [missK, List.length_take]; omega)) (by first | omega | (simp [missK, List.length_take]; done) | (simp [missK, List.length_take]; omega)) ?_
        intro r12 v12 w13 hr12 h13
        simp only [List.set_cons_zero, List.set_cons_succ] at h13
        replace h13 := h13.drop 0
        simp only [List.eraseIdx_cons_zero, List.eraseIdx_cons_succ] at h13
        refine WL.v (Runs.assign rfl) rfl ?_
        refine WL.nil ?_
        refine WN.blk ?_
        refine WN.thn ?_
        refine WC.reg ?_
        refine WL.v (Runs.move rfl) rfl ?_
        refine WL.v (Runs.addn rfl rfl (by omega)) rfl ?_
        refine WL.v (Runs.assign rfl) rfl ?_
        refine WL.nil ?_
        refine WN.again (⟨k + 1, r12, _⟩ : Nat × Res × Value) (by show t.ns.length - (k + 1) < t.ns.length - k; omega) ⟨rfl, rfl, rfl, trivial⟩ ⟨by show k + 1 ≤ _; omega, ?_, h13⟩
        have e := (mK (k := k) (by omega) hlv hlc).2.2.1 hC1 hC2
        show Row _ _ _ _ (missK t (k + 1))
        rw [e]
        exact hr12
      · have hD3 := eC_ne hz.ok hkc2 hD2
        refine WC.reg ?_
        refine WL.v (Runs.move rfl) rfl ?_
        refine WL.call can14 rfl rfl (rstate_z _ hL hz) ?_
        rintro _ w14 ⟨rfl, h14⟩
        refine ⟨_, rfl, ?_⟩
        refine WL.v (Runs.boolT (c := false) (Runs.eql rfl rfl) (by rw [hD1]; rfl)) rfl ?_
        refine WL.v (Runs.move rfl) rfl ?_
        refine WL.goff rfl rfl rfl rfl ?_
        refine WL.goff rfl rfl rfl rfl ?_
        refine WL.goff rfl rfl rfl rfl ?_
        refine WL.goff rfl rfl rfl rfl ?_
        refine WL.goff rfl rfl rfl rfl ?_
        refine WL.goff rfl rfl rfl rfl ?_
        refine WL.goff rfl rfl rfl rfl ?_
        refine WL.goff rfl rfl rfl rfl ?_
        refine WL.v (Runs.pick rfl rfl rfl) rfl ?_
        refine WL.v (Runs.move rfl) rfl ?_
        refine WL.gon rfl rfl rfl ?_
        refine WL.v (Runs.move rfl) rfl ?_
        refine WL.gon rfl rfl rfl ?_
        refine WL.call can14 rfl rfl (rstate_z _ h14 hz) ?_
        rintro _ w15 ⟨rfl, h15⟩
        refine ⟨_, rfl, ?_⟩
        refine WL.gon rfl rfl rfl ?_
        refine WL.v (Runs.boolT (c := true) (Runs.eql rfl rfl) (decide_eq_true hD1)) rfl ?_
        refine WL.gon rfl rfl rfl ?_
        refine WL.v (Runs.move rfl) rfl ?_
        refine WL.gon rfl rfl rfl ?_
        refine WL.v (Runs.move rfl) rfl ?_
        refine WL.gon rfl rfl rfl ?_
        refine WL.v (Runs.nilCheckP rfl) rfl ?_
        refine WL.gon rfl rfl rfl ?_
        refine WL.v (Runs.fld fld51_2 rfl) rfl ?_
        refine WL.gon rfl rfl rfl ?_
        refine WL.v (Runs.load1 Try.underlying22 rfl rfl (h15.cell hs2)) rfl ?_
        refine WL.gon rfl rfl rfl ?_
        refine WL.v (Runs.move rfl) rfl ?_
        refine WL.gon rfl rfl rfl ?_
        refine WL.v (Runs.lidxN Try.underlying22 inf3 rfl rfl (n := k) rfl hkc) rfl ?_
        refine WL.gon rfl rfl rfl ?_
        refine WL.v (Runs.intT (n := eC (t.cs.getD k none)) (Runs.loadR (f := Vi) (0 : Int) h15 hrd2 (n := k) hkc Try.underlying3 rfl rfl) (eC_at hkc2)) rfl ?_
        refine WL.gon rfl rfl rfl ?_
        refine WL.v (Runs.boolT (c := false) (Runs.eql rfl rfl) (decide_eq_false hD3)) rfl ?_
        refine WL.gon rfl rfl rfl ?_
        refine WL.v (Runs.pick rfl rfl rfl) rfl ?_
        refine WL.v (Runs.pick rfl rfl rfl) rfl ?_
        refine WL.nil ?_
        refine WN.thn ?_
        refine WC.condF rfl (rfl) ?_
        refine WC.skip ?_
        refine WN.blk ?_
        refine WN.thn ?_
        refine WC.reg ?_
        refine WL.v (Runs.move rfl) rfl ?_
        refine WL.v (Runs.addn rfl rfl (by omega)) rfl ?_
        refine WL.v (Runs.assign rfl) rfl ?_
        refine WL.nil ?_
        refine WN.again (⟨k + 1, r, _⟩ : Nat × Res × Value) (by show t.ns.length - (k + 1) < t.ns.length - k; omega) ⟨rfl, rfl, rfl, trivial⟩ ⟨by show k + 1 ≤ _; omega, ?_, h15⟩
        have e := (mK (k := k) (by omega) hlv hlc).2.2.2.1 hD1 hD2
        show Row _ _ _ _ (missK t (k + 1))
        rw [e]
        exact hro
      · skip
        refine WC.reg ?_
        refine WL.v (Runs.move rfl) rfl ?_
        refine WL.call can14 rfl rfl (rstate_z _ hL hz) ?_
        rintro _ w16 ⟨rfl, h16⟩
        refine ⟨_, rfl, ?_⟩
        refine WL.v (Runs.boolT (c := false) (Runs.eql rfl rfl) (decide_eq_false hE1)) rfl ?_
        refine WL.v (Runs.move rfl) rfl ?_
        refine WL.goff rfl rfl rfl rfl ?_
        refine WL.goff rfl rfl rfl rfl ?_
        refine WL.goff rfl rfl rfl rfl ?_
        refine WL.goff rfl rfl rfl rfl ?_
        refine WL.goff rfl rfl rfl rfl ?_
        refine WL.goff rfl rfl rfl rfl ?_
        refine WL.goff rfl rfl rfl rfl ?_
        refine WL.goff rfl rfl rfl rfl ?_
        refine WL.v (Runs.pick rfl rfl rfl) rfl ?_
        refine WL.v (Runs.move rfl) rfl ?_
        refine WL.gon rfl rfl rfl ?_
        refine WL.v (Runs.move rfl) rfl ?_
        refine WL.gon rfl rfl rfl ?_
        refine WL.call can14 rfl rfl (rstate_z _ h16 hz) ?_
        rintro _ w17 ⟨rfl, h17⟩
        refine ⟨_, rfl, ?_⟩
        refine WL.gon rfl rfl rfl ?_
        refine WL.v (Runs.boolT (c := false) (Runs.eql rfl rfl) (decide_eq_false hE2)) rfl ?_
        refine WL.gon rfl rfl rfl ?_
        refine WL.v (Runs.move rfl) rfl ?_
        refine WL.goff rfl rfl rfl rfl ?_
        refine WL.goff rfl rfl rfl rfl ?_
        refine WL.goff rfl rfl rfl rfl ?_
        refine WL.goff rfl rfl rfl rfl ?_
        refine WL.goff rfl rfl rfl rfl ?_
        refine WL.goff rfl rfl rfl rfl ?_
        refine WL.goff rfl rfl rfl rfl ?_
        refine WL.goff rfl rfl rfl rfl ?_
        refine WL.gon rfl rfl rfl ?_
        refine WL.v (Runs.pick rfl rfl rfl) rfl ?_
        refine WL.v (Runs.pick rfl rfl rfl) rfl ?_
        refine WL.nil ?_
        refine WN.thn ?_
        refine WC.condF rfl (rfl) ?_
        refine WC.skip ?_
        refine WN.blk ?_
        refine WN.thn ?_
        refine WC.reg ?_
        refine WL.v (Runs.move rfl) rfl ?_
        refine WL.v (Runs.addn rfl rfl (by omega)) rfl ?_
        refine WL.v (Runs.assign rfl) rfl ?_
        refine WL.nil ?_
        refine WN.again (⟨k + 1, r, _⟩ : Nat × Res × Value) (by show t.ns.length - (k + 1) < t.ns.length - k; omega) ⟨rfl, rfl, rfl, trivial⟩ ⟨by show k + 1 ≤ _; omega, ?_, h17⟩
        have e := (mK (k := k) (by omega) hlv hlc).2.2.2.2 hE1 hE2
        show Row _ _ _ _ (missK t (k + 1))
        rw [e]
        exact hro
  · try simp only [decide_eq_true_eq, decide_eq_false_iff_not, Bool.not_eq_true', Bool.not_eq_false', Bool.and_eq_true, Int.not_lt, Int.not_le] at c2
    first
    | (exfalso; omega)
    | skip
      refine WC.exit ?_
      refine WX.thn ?_
      refine WX.cut ?_
      refine WX.hit ?_
      refine WN.thn ?_
      refine WC.seq ?_
      refine WC.reg ?_
      refine WL.v (Runs.move rfl) rfl ?_
      refine WL.v (Runs.assign rfl) rfl ?_
      refine WL.nil ?_
      refine WN.thn ?_
      refine WC.ret ?_
      obtain rfl : k = t.ns.length := by omega
      have e : missK t t.ns.length = t.missing := by
        unfold missK T.missing
        rw [List.take_of_length_le (Nat.le_refl _), List.take_of_length_le (by omega), List.take_of_length_le (by omega)]
      exact ret1 rfl rfl ⟨_, _, rfl, by rw [← e]; exact hro, hL⟩
theorem rmiss_r {W : World} {F : Snap} {cs : List Res} (w : World) {b i j bv bc : Nat} {zv zc : List Value} {fv fc : Nat × Nat} {t : T} (h : St W F cs w) (hr : RR F cs b i j bv bc zv zc fv fc t) : Calls Try.prog 19 #[.pointer (some ⟨b, 0, none⟩)] w (Gives W F cs Vi t.missing) := by
  obtain ⟨G, cs', hle, hz, hs, back⟩ := hr.use h
  exact (rmiss_z w hs hz).mono fun e w' ⟨r, v, h1, h2, h3⟩ => by subst h1; exact h2.gives (back [r] w' h3)
set_option maxRecDepth 100000 in
set_option maxHeartbeats 2000000 in
theorem rvote_r {W : World} {F : Snap} {cs : List Res} (w : World) (n : Int) (y : Bool) {b i j bv bc : Nat} {zv zc : List Value} {fv fc : Nat × Nat} {t : T} (h : St W F cs w) (hr : RR F cs b i j bv bc zv zc fv fc t) : Calls Try.prog 27 #[.pointer (some ⟨b, 0, none⟩), Vi n, .bool y] w fun e w' => e = .returned (Vi (t.vote n y).1) ∧ RR F (cs.set i [(bv, .cells (((t.vote n y).2.vs.map eV).map Vi ++ zv).toArray 3 fv)]) b i j bv bc zv zc fv fc (t.vote n y).2 ∧ St W F (cs.set i [(bv, .cells (((t.vote n y).2.vs.map eV).map Vi ++ zv).toArray 3 fv)]) w'  := by
  refine enter (P := Try.prog) (args := [.pointer (some ⟨b, 0, none⟩), Vi n, .bool y]) Try.func27 rfl rfl rfl ?_
  obtain ⟨A0, cap0, hs0, hR0⟩ := hr.s0
  have hlv := hr.lv
  have hlc := hr.lc
  have hsm := hr.small
  refine WC.seq ?_
  refine WC.reg ?_
  refine WL.v (Runs.assign rfl) rfl ?_
  refine WL.nil ?_
  refine WN.thn ?_
  refine WC.seq ?_
  refine WC.reg ?_
  refine WL.v (Runs.move rfl) rfl ?_
  refine WL.v (Runs.move rfl) rfl ?_
  refine WL.call can35 rfl rfl (at_c _ n h hs0 hR0 (by omega)) ?_
  rintro _ w1 ⟨v, rfl, hat, h1⟩
  refine ⟨_, rfl, ?_⟩
  refine WL.v (Runs.assign rfl) rfl ?_
  refine WL.nil ?_
  refine WN.thn ?_
  refine WC.seq ?_
  refine WC.seq ?_
  refine WC.reg ?_
  refine WL.v (Runs.move rfl) rfl ?_
  refine WL.v (Runs.lss rfl rfl) rfl ?_
  refine WL.nil ?_
  refine WN.thn ?_
  refine WC.cond rfl (fun c2 => ?_) (fun c2 => ?_)
  · try simp only [decide_eq_true_eq, decide_eq_false_iff_not, Bool.not_eq_true', Bool.not_eq_false', Bool.and_eq_true, Int.not_lt, Int.not_le] at c2
    first
    | (exfalso; omega)
    | skip
      refine WC.seq ?_
      refine WC.reg ?_
      refine WL.v (Runs.assign rfl) rfl ?_
      refine WL.nil ?_
      refine WN.thn ?_
      refine WC.ret ?_
      have hno : n ∉ t.ns := by
        rcases hat with ⟨_, h⟩ | ⟨k, rfl, _⟩
        · exact h
        · omega
      rw [vote_none hno]
      refine ret1 rfl rfl ⟨rfl, ?_, ?_⟩
      · rw [set_self hr.iv]; exact hr
      · rw [set_self hr.iv]; exact h1
  · try simp only [decide_eq_true_eq, decide_eq_false_iff_not, Bool.not_eq_true', Bool.not_eq_false', Bool.and_eq_true, Int.not_lt, Int.not_le] at c2
    first
    | (exfalso; omega)
    | skip
      refine WC.skip ?_
      refine WN.thn ?_
      refine WC.seq ?_
      obtain ⟨k, rfl, hk, rfl⟩ : ∃ k : Nat, v = (k : Int) ∧ k < t.ns.length ∧ t.ns.getD k 0 = n := by
        rcases hat with ⟨rfl, _⟩ | hat
        · omega
        · exact hat
      have hkv : k < (t.vs.map eV).length := by rw [List.length_map]; omega
      have hkc : k < (t.cs.map eC).length := by rw [List.length_map]; omega
      have hkv2 : k < t.vs.length := by omega
      have hkc2 : k < t.cs.length := by omega
      refine WC.reg ?_
      refine WL.v (Runs.assign rfl) rfl ?_
      refine WL.nil ?_
      refine WN.thn ?_
      refine WC.seq ?_
      refine WC.seq ?_
      refine WC.reg ?_
      refine WL.v (Runs.move rfl) rfl ?_
      refine WL.nil ?_
      refine WN.thn ?_
      refine WC.cond rfl (fun c3 => ?_) (fun c3 => ?_)
      · try simp only [decide_eq_true_eq, decide_eq_false_iff_not, Bool.not_eq_true', Bool.not_eq_false', Bool.and_eq_true, Int.not_lt, Int.not_le] at c3
        first
        | (exfalso; omega)
        | skip
          refine WC.reg ?_
          refine WL.v (Runs.assign rfl) rfl ?_
          refine WL.nil ?_
          refine WN.thn ?_
          refine WC.seq ?_
          refine WC.seq ?_
          refine WC.reg ?_
          refine WL.v (Runs.move rfl) rfl ?_
          refine WL.v (Runs.nilCheckP rfl) rfl ?_
          refine WL.v (Runs.fld fld51_1 rfl) rfl ?_
          refine WL.v (Runs.load1 Try.underlying22 rfl rfl (h1.cell hr.s1)) rfl ?_
          refine WL.v (Runs.move rfl) rfl ?_
          refine WL.v (Runs.valT (u := .pointer (some ⟨bv, k, none⟩)) (Runs.lidx Try.underlying22 inf3 rfl rfl ⟨by omega, by omega⟩) (by rw [add_mk, Nat.mul_one, Nat.zero_add]; rfl)) rfl ?_
          refine WL.v (Runs.intT (n := eV (t.vs.getD k none)) (Runs.load1 Try.underlying3 rfl rfl (h1.ocell hr.iv (rowI_at eV t.vs none zv hkv2))) rfl) rfl ?_
          refine WL.v (Runs.move rfl) rfl ?_
          refine WL.v (Runs.eql rfl rfl) rfl ?_
          refine WL.nil ?_
          refine WN.thn ?_
          refine WC.cond rfl (fun c4 => ?_) (fun c4 => ?_)
          · try simp only [decide_eq_true_eq, decide_eq_false_iff_not, Bool.not_eq_true', Bool.not_eq_false', Bool.and_eq_true, Int.not_lt, Int.not_le] at c4
            first
            | (exfalso; omega)
            | skip
              refine WC.seq ?_
              refine WC.reg ?_
              refine WL.v (Runs.assign rfl) rfl ?_
              refine WL.nil ?_
              refine WN.thn ?_
              refine WC.ret ?_
              have hy : y = true := c3
              have ho1 : t.vs.getD k none = some y := eV_inj (by rw [hy]; exact c4)
              rw [vote_same hr.nd hlv hk ho1]
              refine ret1 rfl rfl ⟨rfl, ?_, ?_⟩
              · rw [set_self hr.iv]; exact hr
              · rw [set_self hr.iv]; exact h1
          · try simp only [decide_eq_true_eq, decide_eq_false_iff_not, Bool.not_eq_true', Bool.not_eq_false', Bool.and_eq_true, Int.not_lt, Int.not_le] at c4
            first
            | (exfalso; omega)
            | skip
              refine WC.skip ?_
              refine WN.thn ?_
              refine WC.seq ?_
              refine WC.seq ?_
              by_cases ho : t.vs.getD k none = none
              · skip
                refine WC.reg ?_
                refine WL.v (Runs.move rfl) rfl ?_
                refine WL.v (Runs.nilCheckP rfl) rfl ?_
                refine WL.v (Runs.fld fld51_1 rfl) rfl ?_
                refine WL.v (Runs.load1 Try.underlying22 rfl rfl (h1.cell hr.s1)) rfl ?_
                refine WL.v (Runs.move rfl) rfl ?_
                refine WL.v (Runs.valT (u := .pointer (some ⟨bv, k, none⟩)) (Runs.lidx Try.underlying22 inf3 rfl rfl ⟨by omega, by omega⟩) (by rw [add_mk, Nat.mul_one, Nat.zero_add]; rfl)) rfl ?_
                refine WL.v (Runs.intT (n := eV (t.vs.getD k none)) (Runs.load1 Try.underlying3 rfl rfl (h1.ocell hr.iv (rowI_at eV t.vs none zv hkv2))) rfl) rfl ?_
                refine WL.v (Runs.boolT (c := false) (Runs.neq rfl rfl) (by rw [ho]; rfl)) rfl ?_
                refine WL.v (Runs.move rfl) rfl ?_
                refine WL.gon rfl rfl rfl ?_
                refine WL.v (Runs.move rfl) rfl ?_
                refine WL.gon rfl rfl rfl ?_
                refine WL.call can14 rfl rfl (rstate_r _ h1 hr) ?_
                rintro _ w5 ⟨rfl, h5⟩
                refine ⟨_, rfl, ?_⟩
                refine WL.gon rfl rfl rfl ?_
                refine WL.v (Runs.neq rfl rfl) rfl ?_
                refine WL.v (Runs.pick rfl rfl rfl) rfl ?_
                refine WL.nil ?_
                refine WN.thn ?_
                refine WC.cond rfl (fun c6 => ?_) (fun c6 => ?_)
                · try simp only [decide_eq_true_eq, decide_eq_false_iff_not, Bool.not_eq_true', Bool.not_eq_false', Bool.and_eq_true, Int.not_lt, Int.not_le] at c6
                  first
                  | (exfalso; omega)
                  | skip
                    refine WC.seq ?_
                    refine WC.reg ?_
                    refine WL.v (Runs.assign rfl) rfl ?_
                    refine WL.nil ?_
                    refine WN.thn ?_
                    refine WC.ret ?_
                    have hy : y = true := c3
                    have ho1 : t.vs.getD k none ≠ some y := fun e => c4 (by rw [e, hy]; rfl)
                    have hbad := vote_bad (y := y) hr.nd hlv hk ho1 (.inr c6)
                    rw [hbad]
                    refine ret1 rfl rfl ⟨rfl, ?_, ?_⟩
                    · rw [set_self hr.iv]; exact hr
                    · rw [set_self hr.iv]; exact h5
                · try simp only [decide_eq_true_eq, decide_eq_false_iff_not, Bool.not_eq_true', Bool.not_eq_false', Bool.and_eq_true, Int.not_lt, Int.not_le] at c6
                  first
                  | (exfalso; omega)
                  | skip
                    refine WC.skip ?_
                    refine WN.thn ?_
                    refine WC.seq ?_
                    refine WC.reg ?_
                    refine WL.v (Runs.move rfl) rfl ?_
                    refine WL.v (Runs.nilCheckP rfl) rfl ?_
                    refine WL.v (Runs.fld fld51_1 rfl) rfl ?_
                    refine WL.v (Runs.load1 Try.underlying22 rfl rfl (h5.cell hr.s1)) rfl ?_
                    refine WL.v (Runs.move rfl) rfl ?_
                    refine WL.v (Runs.move rfl) rfl ?_
                    refine WL.v (Runs.valT (u := .pointer (some ⟨bv, k, none⟩)) (Runs.lidx Try.underlying22 inf3 rfl rfl ⟨by omega, by omega⟩) (by rw [add_mk, Nat.mul_one, Nat.zero_add]; rfl)) rfl ?_
                    refine WL.storeRow h5 i (f := Vi) (xs := t.vs.map eV) (u := eV (some y)) (zs := zv) hr.iv rfl (by rw [show y = true from c3]; rfl) inf3 rfl hr.hv hkv ?_
                    intro  w7 h7
                    try simp only [List.set_cons_zero, List.set_cons_succ, List.eraseIdx_cons_zero, List.eraseIdx_cons_succ] at h7
                    refine WL.nil ?_
                    refine WN.thn ?_
                    refine WC.seq ?_
                    refine WC.reg ?_
                    refine WL.v (Runs.assign rfl) rfl ?_
                    refine WL.nil ?_
                    refine WN.thn ?_
                    refine WC.ret ?_
                    have h0 : t.state = 0 := c6
                    have hok := vote_ok (y := y) hr.nd hlv hk ho h0
                    rw [hok]
                    have hS := h7
                    rw [getD_set_map eV] at hS
                    exact ret1 rfl rfl ⟨rfl, hr.vote (by simp), hS⟩
              · have ho3 := eV_ne ho
                refine WC.reg ?_
                refine WL.v (Runs.move rfl) rfl ?_
                refine WL.v (Runs.nilCheckP rfl) rfl ?_
                refine WL.v (Runs.fld fld51_1 rfl) rfl ?_
                refine WL.v (Runs.load1 Try.underlying22 rfl rfl (h1.cell hr.s1)) rfl ?_
                refine WL.v (Runs.move rfl) rfl ?_
                refine WL.v (Runs.valT (u := .pointer (some ⟨bv, k, none⟩)) (Runs.lidx Try.underlying22 inf3 rfl rfl ⟨by omega, by omega⟩) (by rw [add_mk, Nat.mul_one, Nat.zero_add]; rfl)) rfl ?_
                refine WL.v (Runs.intT (n := eV (t.vs.getD k none)) (Runs.load1 Try.underlying3 rfl rfl (h1.ocell hr.iv (rowI_at eV t.vs none zv hkv2))) rfl) rfl ?_
                refine WL.v (Runs.boolT (c := true) (Runs.neq rfl rfl) (by rw [decide_eq_false ho3]; rfl)) rfl ?_
                refine WL.v (Runs.move rfl) rfl ?_
                refine WL.goff rfl rfl rfl rfl ?_
                refine WL.goff rfl rfl rfl rfl ?_
                refine WL.goff rfl rfl rfl rfl ?_
                refine WL.v (Runs.pick rfl rfl rfl) rfl ?_
                refine WL.nil ?_
                refine WN.thn ?_
                refine WC.condT rfl (rfl) ?_
                refine WC.seq ?_
                refine WC.reg ?_
                refine WL.v (Runs.assign rfl) rfl ?_
                refine WL.nil ?_
                refine WN.thn ?_
                refine WC.ret ?_
                have hy : y = true := c3
                have ho1 : t.vs.getD k none ≠ some y := fun e => c4 (by rw [e, hy]; rfl)
                have hbad := vote_bad (y := y) hr.nd hlv hk ho1 (.inl ho)
                rw [hbad]
                refine ret1 rfl rfl ⟨rfl, ?_, ?_⟩
                · rw [set_self hr.iv]; exact hr
                · rw [set_self hr.iv]; exact h1
      · try simp only [decide_eq_true_eq, decide_eq_false_iff_not, Bool.not_eq_true', Bool.not_eq_false', Bool.and_eq_true, Int.not_lt, Int.not_le] at c3
        first
        | (exfalso; omega)
        | skip
          refine WC.skip ?_
          refine WN.thn ?_
          refine WC.seq ?_
          refine WC.seq ?_
          refine WC.reg ?_
          refine WL.v (Runs.move rfl) rfl ?_
          refine WL.v (Runs.nilCheckP rfl) rfl ?_
          refine WL.v (Runs.fld fld51_1 rfl) rfl ?_
          refine WL.v (Runs.load1 Try.underlying22 rfl rfl (h1.cell hr.s1)) rfl ?_
          refine WL.v (Runs.move rfl) rfl ?_
          refine WL.v (Runs.valT (u := .pointer (some ⟨bv, k, none⟩)) (Runs.lidx Try.underlying22 inf3 rfl rfl ⟨by omega, by omega⟩) (by rw [add_mk, Nat.mul_one, Nat.zero_add]; rfl)) rfl ?_
          refine WL.v (Runs.intT (n := eV (t.vs.getD k none)) (Runs.load1 Try.underlying3 rfl rfl (h1.ocell hr.iv (rowI_at eV t.vs none zv hkv2))) rfl) rfl ?_
          refine WL.v (Runs.move rfl) rfl ?_
          refine WL.v (Runs.eql rfl rfl) rfl ?_
          refine WL.nil ?_
          refine WN.thn ?_
          refine WC.cond rfl (fun c8 => ?_) (fun c8 => ?_)
          · try simp only [decide_eq_true_eq, decide_eq_false_iff_not, Bool.not_eq_true', Bool.not_eq_false', Bool.and_eq_true, Int.not_lt, Int.not_le] at c8
            first
            | (exfalso; omega)
            | skip
              refine WC.seq ?_
              refine WC.reg ?_
              refine WL.v (Runs.assign rfl) rfl ?_
              refine WL.nil ?_
              refine WN.thn ?_
              refine WC.ret ?_
              have hy : y = false := c3
              have ho1 : t.vs.getD k none = some y := eV_inj (by rw [hy]; exact c8)
              rw [vote_same hr.nd hlv hk ho1]
              refine ret1 rfl rfl ⟨rfl, ?_, ?_⟩
              · rw [set_self hr.iv]; exact hr
              · rw [set_self hr.iv]; exact h1
          · try simp only [decide_eq_true_eq, decide_eq_false_iff_not, Bool.not_eq_true', Bool.not_eq_false', Bool.and_eq_true, Int.not_lt, Int.not_le] at c8
            first
            | (exfalso; omega)
            | skip
              refine WC.skip ?_
              refine WN.thn ?_
              refine WC.seq ?_
              refine WC.seq ?_
              by_cases ho : t.vs.getD k none = none
              · skip
                refine WC.reg ?_
                refine WL.v (Runs.move rfl) rfl ?_
                refine WL.v (Runs.nilCheckP rfl) rfl ?_
                refine WL.v (Runs.fld fld51_1 rfl) rfl ?_
                refine WL.v (Runs.load1 Try.underlying22 rfl rfl (h1.cell hr.s1)) rfl ?_
                refine WL.v (Runs.move rfl) rfl ?_
                refine WL.v (Runs.valT (u := .pointer (some ⟨bv, k, none⟩)) (Runs.lidx Try.underlying22 inf3 rfl rfl ⟨by omega, by omega⟩) (by rw [add_mk, Nat.mul_one, Nat.zero_add]; rfl)) rfl ?_
                refine WL.v (Runs.intT (n := eV (t.vs.getD k none)) (Runs.load1 Try.underlying3 rfl rfl (h1.ocell hr.iv (rowI_at eV t.vs none zv hkv2))) rfl) rfl ?_
                refine WL.v (Runs.boolT (c := false) (Runs.neq rfl rfl) (by rw [ho]; rfl)) rfl ?_
                refine WL.v (Runs.move rfl) rfl ?_
                refine WL.gon rfl rfl rfl ?_
                refine WL.v (Runs.move rfl) rfl ?_
                refine WL.gon rfl rfl rfl ?_
                refine WL.call can14 rfl rfl (rstate_r _ h1 hr) ?_
                rintro _ w9 ⟨rfl, h9⟩
                refine ⟨_, rfl, ?_⟩
                refine WL.gon rfl rfl rfl ?_
                refine WL.v (Runs.neq rfl rfl) rfl ?_
                refine WL.v (Runs.pick rfl rfl rfl) rfl ?_
                refine WL.nil ?_
                refine WN.thn ?_
                refine WC.cond rfl (fun c10 => ?_) (fun c10 => ?_)
                · try simp only [decide_eq_true_eq, decide_eq_false_iff_not, Bool.not_eq_true', Bool.not_eq_false', Bool.and_eq_true, Int.not_lt, Int.not_le] at c10
                  first
                  | (exfalso; omega)
                  | skip
                    refine WC.seq ?_
                    refine WC.reg ?_
                    refine WL.v (Runs.assign rfl) rfl ?_
                    refine WL.nil ?_
                    refine WN.thn ?_
                    refine WC.ret ?_
                    have hy : y = false := c3
                    have ho1 : t.vs.getD k none ≠ some y := fun e => c8 (by rw [e, hy]; rfl)
                    have hbad := vote_bad (y := y) hr.nd hlv hk ho1 (.inr c10)
                    rw [hbad]
                    refine ret1 rfl rfl ⟨rfl, ?_, ?_⟩
                    · rw [set_self hr.iv]; exact hr
                    · rw [set_self hr.iv]; exact h9
                · try simp only [decide_eq_true_eq, decide_eq_false_iff_not, Bool.not_eq_true', Bool.not_eq_false', Bool.and_eq_true, Int.not_lt, Int.not_le] at c10
                  first
                  | (exfalso; omega)
                  | skip
                    refine WC.skip ?_
                    refine WN.thn ?_
                    refine WC.seq ?_
                    refine WC.reg ?_
                    refine WL.v (Runs.move rfl) rfl ?_
                    refine WL.v (Runs.nilCheckP rfl) rfl ?_
                    refine WL.v (Runs.fld fld51_1 rfl) rfl ?_
                    refine WL.v (Runs.load1 Try.underlying22 rfl rfl (h9.cell hr.s1)) rfl ?_
                    refine WL.v (Runs.move rfl) rfl ?_
                    refine WL.v (Runs.move rfl) rfl ?_
                    refine WL.v (Runs.valT (u := .pointer (some ⟨bv, k, none⟩)) (Runs.lidx Try.underlying22 inf3 rfl rfl ⟨by omega, by omega⟩) (by rw [add_mk, Nat.mul_one, Nat.zero_add]; rfl)) rfl ?_
                    refine WL.storeRow h9 i (f := Vi) (xs := t.vs.map eV) (u := eV (some y)) (zs := zv) hr.iv rfl (by rw [show y = false from c3]; rfl) inf3 rfl hr.hv hkv ?_
                    intro  w11 h11
                    try simp only [List.set_cons_zero, List.set_cons_succ, List.eraseIdx_cons_zero, List.eraseIdx_cons_succ] at h11
                    refine WL.nil ?_
                    refine WN.thn ?_
                    refine WC.seq ?_
                    refine WC.reg ?_
                    refine WL.v (Runs.assign rfl) rfl ?_
                    refine WL.nil ?_
                    refine WN.thn ?_
                    refine WC.ret ?_
                    have h0 : t.state = 0 := c10
                    have hok := vote_ok (y := y) hr.nd hlv hk ho h0
                    rw [hok]
                    have hS := h11
                    rw [getD_set_map eV] at hS
                    exact ret1 rfl rfl ⟨rfl, hr.vote (by simp), hS⟩
              · have ho3 := eV_ne ho
                refine WC.reg ?_
                refine WL.v (Runs.move rfl) rfl ?_
                refine WL.v (Runs.nilCheckP rfl) rfl ?_
                refine WL.v (Runs.fld fld51_1 rfl) rfl ?_
                refine WL.v (Runs.load1 Try.underlying22 rfl rfl (h1.cell hr.s1)) rfl ?_
                refine WL.v (Runs.move rfl) rfl ?_
                refine WL.v (Runs.valT (u := .pointer (some ⟨bv, k, none⟩)) (Runs.lidx Try.underlying22 inf3 rfl rfl ⟨by omega, by omega⟩) (by rw [add_mk, Nat.mul_one, Nat.zero_add]; rfl)) rfl ?_
                refine WL.v (Runs.intT (n := eV (t.vs.getD k none)) (Runs.load1 Try.underlying3 rfl rfl (h1.ocell hr.iv (rowI_at eV t.vs none zv hkv2))) rfl) rfl ?_
                refine WL.v (Runs.boolT (c := true) (Runs.neq rfl rfl) (by rw [decide_eq_false ho3]; rfl)) rfl ?_
                refine WL.v (Runs.move rfl) rfl ?_
                refine WL.goff rfl rfl rfl rfl ?_
                refine WL.goff rfl rfl rfl rfl ?_
                refine WL.goff rfl rfl rfl rfl ?_
                refine WL.v (Runs.pick rfl rfl rfl) rfl ?_
                refine WL.nil ?_
                refine WN.thn ?_
                refine WC.condT rfl (rfl) ?_
                refine WC.seq ?_
                refine WC.reg ?_
                refine WL.v (Runs.assign rfl) rfl ?_
                refine WL.nil ?_
                refine WN.thn ?_
                refine WC.ret ?_
                have hy : y = false := c3
                have ho1 : t.vs.getD k none ≠ some y := fun e => c8 (by rw [e, hy]; rfl)
                have hbad := vote_bad (y := y) hr.nd hlv hk ho1 (.inl ho)
                rw [hbad]
                refine ret1 rfl rfl ⟨rfl, ?_, ?_⟩
                · rw [set_self hr.iv]; exact hr
                · rw [set_self hr.iv]; exact h1
end Tal
end Go.Proofs.Ytkgmlngmojnpmaa
