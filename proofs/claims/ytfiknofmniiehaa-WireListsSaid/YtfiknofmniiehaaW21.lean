/- The law WireLists: what a list wrote is read one by one. -/
import Derived.Test.YtfiknofmniiehaaW20
namespace Go.Proofs.Ytfiknofmniiehaa
open Go Go.RowKit B
set_option linter.unusedVariables false
set_option linter.unusedSimpArgs false
namespace Wir


theorem listB_y {xs : List Int} (hok : okL xs) (h4 : xs.length ≤ 4096) : listB xs = numB (xs.length : Int) ++ xs.flatMap numB := by
  unfold listB; rw [if_neg (by omega), if_pos hok]
theorem listB_n {xs : List Int} (hok : ¬ okL xs) : listB xs = [] := by
  unfold listB
  rw [if_neg hok]
  split <;> rfl
theorem mayLen {n : Nat} (h : n ≤ 4096) : mayN (n : Int) := by unfold mayN; omega
theorem listB_len {xs : List Int} (h : xs.length ≤ 200) : (listB xs).length ≤ 100000 := by
  have h1 := flat_len xs
  have h2 := numB_len (xs.length : Int)
  unfold listB
  split
  · exact Nat.zero_le _
  · split
    · rw [List.length_append]; omega
    · exact Nat.zero_le _
def plK (xs : List Int) (k : Nat) : Nat := (numB (xs.length : Int) ++ (xs.take k).flatMap numB).length
theorem rd_0 {xs : List Int} (hok : okL xs) (h4 : xs.length ≤ 4096) : rdN (listB xs) 0 0 = (xs.length, plK xs 0, 0) := by
  have h := rdN_num [] (xs.flatMap numB) (n := xs.length) (by omega)
  have e : numB (xs.length : Int) = numN xs.length := by rw [numB_y (mayLen h4)]; rfl
  rw [listB_y hok h4, e]
  unfold plK
  rw [e]
  simpa using h
theorem getD_mem {xs : List Int} {k : Nat} (hk : k < xs.length) : xs.getD k 0 ∈ xs := by
  rw [List.getD_eq_getElem?_getD, List.getElem?_eq_getElem hk]; exact List.getElem_mem hk
theorem rd_k {xs : List Int} {k : Nat} (hok : okL xs) (h4 : xs.length ≤ 4096) (hk : k < xs.length) : rdN (listB xs) (plK xs k) 0 = ((xs.getD k 0).toNat, plK xs (k + 1), 0) := by
  have hm := hok _ (getD_mem hk)
  have e1 : xs.flatMap numB = (xs.take (k + 1)).flatMap numB ++ (xs.drop (k + 1)).flatMap numB := by rw [← List.flatMap_append, List.take_append_drop]
  have h := rdN_num (numB (xs.length : Int) ++ (xs.take k).flatMap numB) ((xs.drop (k + 1)).flatMap numB) (tn hm).1
  rw [listB_y hok h4, e1]
  unfold plK
  rw [flat_take hk, numB_y hm]
  rw [← List.append_assoc, ← List.append_assoc, List.append_assoc _ (numN _)]
  rw [h]
theorem tn_k {xs : List Int} {k : Nat} (hok : okL xs) (hk : k < xs.length) : (((xs.getD k 0).toNat : Nat) : Int) = xs.getD k 0 := (tn (hok _ (getD_mem hk))).2
theorem plK_le {xs : List Int} {k : Nat} (hok : okL xs) (h4 : xs.length ≤ 4096) : plK xs k ≤ (listB xs).length := by
  have e1 : xs.flatMap numB = (xs.take k).flatMap numB ++ (xs.drop k).flatMap numB := by rw [← List.flatMap_append, List.take_append_drop]
  rw [listB_y hok h4, e1, ← List.append_assoc, List.length_append]
  exact Nat.le_add_right _ _
theorem plK_end {xs : List Int} (hok : okL xs) (h4 : xs.length ≤ 4096) : plK xs xs.length = (listB xs).length := by
  unfold plK
  rw [listB_y hok h4, List.take_of_length_le (Nat.le_refl _)]
theorem rdL_all {xs : List Int} (hok : okL xs) (h2 : xs.length ≤ 200) : rdL (listB xs) 0 0 200 = (xs, (listB xs).length, 0) := by
  have h4 : xs.length ≤ 4096 := by omega
  have h0 := rd_0 hok h4
  have hn := num_rdN (l := listB xs) (p := 0) (e := 0) (by rw [h0])
  have h5 := h0.symm.trans hn.2.2
  have hv : xs.length = rval (listB xs) 0 := congrArg (·.1) h5
  have hx : plK xs 0 = rnx (listB xs) 0 := congrArg (·.2.1) h5
  have hc : cerr (listB xs) 0 200 = 0 := by unfold cerr; rw [if_neg (by rw [hn.2.1]; simp), if_neg (by rw [← hv]; omega)]
  have H : ∀ m k, k + m = xs.length → rdn (listB xs) m (plK xs k) (xs.take k) = (xs, (listB xs).length, 0) := by
    intro m
    induction m with
    | zero =>
      intro k hk
      obtain rfl : k = xs.length := by omega
      show (xs.take xs.length, plK xs xs.length, 0) = _
      rw [plK_end hok h4, List.take_of_length_le (Nat.le_refl _)]
    | succ m ih =>
      intro k hk
      have h6 := rd_k hok h4 (k := k) (by omega)
      have h7 := num_rdN (l := listB xs) (p := plK xs k) (e := 0) (by rw [h6])
      have h8 := h6.symm.trans h7.2.2
      have hv2 : (xs.getD k 0).toNat = rval (listB xs) (plK xs k) := congrArg (·.1) h8
      have hx2 : plK xs (k + 1) = rnx (listB xs) (plK xs k) := congrArg (·.2.1) h8
      rw [rdn, if_pos h7.2.1, ← hv2, ← hx2, tn_k hok (by omega)]
      have e : xs.take k ++ [xs.getD k 0] = xs.take (k + 1) := by
        rw [List.take_add_one, List.getElem?_eq_getElem (by omega), List.getD_eq_getElem?_getD, List.getElem?_eq_getElem (by omega)]; rfl
      rw [e]
      exact ih (k + 1) (by omega)
  unfold rdL
  rw [if_neg (by simp), if_neg (by rw [hc]; simp), ← hv, ← hx]
  exact H xs.length 0 (by omega)
theorem rdEnd_all {xs : List Int} (hok : okL xs) (h4 : xs.length ≤ 4096) : rdEnd (listB xs) (plK xs xs.length) 0 = (0, (listB xs).length) := by
  rw [plK_end hok h4]
  unfold rdEnd
  rw [if_neg (fun h => Nat.lt_irrefl _ h.2)]
theorem okL_all {xs : List Int} {i : Nat} (h : ∀ j, j < i → mayN (xs.getD j 0)) (hi : xs.length ≤ i) : okL xs := fun x hx => by
  obtain ⟨j, hj, rfl⟩ := List.getElem_of_mem hx
  have := h j (by omega)
  rw [List.getD_eq_getElem?_getD, List.getElem?_eq_getElem hj] at this
  exact this
set_option maxRecDepth 100000 in
set_option maxHeartbeats 8000000 in
theorem lists_law {W : World} {F : Snap} {cs : List Res} (w : World) {A : Option Addr} {cap : Nat} {xs : List Int} (h : St W F cs w) (hR : RdS (Kd.one Vi) F A xs) : Calls Try.prog 8 #[.slice A xs.length cap] w fun r w' => r = .returned (.bool true) ∧ St W F cs w'  := by
  refine enter (P := Try.prog) (args := [.slice A xs.length cap]) Try.func8 rfl rfl rfl ?_
  refine WC.seq ?_
  refine WC.reg ?_
  refine WL.v (Runs.assign rfl) rfl ?_
  refine WL.nil ?_
  refine WN.thn ?_
  refine WC.seq ?_
  refine WC.seq ?_
  have hcase : 200 < xs.length ∨ xs.length ≤ 200 := by omega
  rcases hcase with hn1 | hn2
  · skip
    refine WC.reg ?_
    refine WL.v (Runs.move rfl) rfl ?_
    refine WL.v (Runs.llen Try.underlying22 rfl rfl) rfl ?_
    refine WL.v (Runs.boolT (c := true) (Runs.gtr rfl rfl) (by rw [decide_eq_true_eq]; omega)) rfl ?_
    refine WL.nil ?_
    refine WN.thn ?_
    refine WC.condT rfl (rfl) ?_
    refine WC.seq ?_
    refine WC.reg ?_
    refine WL.call can9 rfl rfl (live_c _ h) ?_
    rintro _ w1 ⟨rfl, h1⟩
    refine ⟨_, rfl, ?_⟩
    refine WL.v (Runs.assign rfl) rfl ?_
    refine WL.nil ?_
    refine WN.thn ?_
    refine WC.ret ?_
    exact ret1 rfl rfl ⟨rfl, h1⟩
  · have hL4 : xs.length ≤ 4096 := by omega
    have hl := listB_len hn2
    refine WC.reg ?_
    refine WL.v (Runs.move rfl) rfl ?_
    refine WL.v (Runs.llen Try.underlying22 rfl rfl) rfl ?_
    refine WL.v (Runs.boolT (c := false) (Runs.gtr rfl rfl) (by rw [decide_eq_false_iff_not]; omega)) rfl ?_
    refine WL.nil ?_
    refine WN.thn ?_
    refine WC.condF rfl (rfl) ?_
    refine WC.skip ?_
    refine WN.thn ?_
    refine WC.seq ?_
    refine WC.reg ?_
    refine WL.v (Runs.move rfl) rfl ?_
    refine WL.call can14 rfl rfl (wlist_c _ h hR (by omega)) ?_
    rintro _ w2 ⟨rfl, h2⟩
    refine ⟨_, rfl, ?_⟩
    refine WL.v (Runs.assign rfl) rfl ?_
    refine WL.nil ?_
    refine WN.thn ?_
    refine WC.seq ?_
    refine WC.seq ?_
    by_cases hok : okL xs
    · have hlb : listB xs ≠ [] := by rw [listB_y hok hL4]; exact fun h => numB_ne (mayLen hL4) (List.append_eq_nil_iff.1 h).1
      refine WC.reg ?_
      refine WL.v (Runs.move rfl) rfl ?_
      refine WL.v (Runs.boolT (c := false) (Runs.lseql (a := listB xs) (b := []) rfl rfl) (decide_eq_false hlb)) rfl ?_
      refine WL.nil ?_
      refine WN.thn ?_
      refine WC.condF rfl (rfl) ?_
      refine WC.skip ?_
      refine WN.thn ?_
      refine WC.seq ?_
      refine WC.reg ?_
      refine WL.v (Runs.move rfl) rfl ?_
      refine WL.call can20 rfl rfl (read_c _ (listB xs) h2) ?_
      rintro _ w3 ⟨rb, rfl, h3⟩
      refine ⟨_, rfl, ?_⟩
      refine WL.v (Runs.assign rfl) rfl ?_
      refine WL.nil ?_
      refine WN.thn ?_
      refine WC.seq ?_
      refine WC.seq ?_
      refine WC.reg ?_
      refine WL.v (Runs.move rfl) rfl ?_
      refine WL.v (Runs.boolT (c := false) (Runs.peql Try.underlying36 rfl rfl) rfl) rfl ?_
      refine WL.nil ?_
      refine WN.thn ?_
      refine WC.condF rfl (rfl) ?_
      refine WC.skip ?_
      refine WN.thn ?_
      refine WC.seq ?_
      refine WC.reg ?_
      refine WL.v (Runs.move rfl) rfl ?_
      refine WL.call can21 rfl rfl ((by have := wn_c w3 (p := 0) (e := 0) (i := 0) h3 rfl hl (Nat.zero_le _); simpa only [rd_0 hok hL4, List.set_cons_zero] using this)) ?_
      rintro _ w4 ⟨rfl, h4⟩
      refine ⟨_, rfl, ?_⟩
      refine WL.v (Runs.assign rfl) rfl ?_
      refine WL.nil ?_
      refine WN.thn ?_
      refine WC.seq ?_
      refine WC.seq ?_
      refine WC.reg ?_
      refine WL.v (Runs.move rfl) rfl ?_
      refine WL.v (Runs.move rfl) rfl ?_
      refine WL.v (Runs.llen Try.underlying22 rfl rfl) rfl ?_
      refine WL.v (Runs.boolT (c := false) (Runs.neq rfl rfl) (by simp)) rfl ?_
      refine WL.nil ?_
      refine WN.thn ?_
      refine WC.condF rfl (rfl) ?_
      refine WC.skip ?_
      refine WN.thn ?_
      refine WC.seq ?_
      refine WC.seq ?_
      refine WC.reg ?_
      refine WL.v (Runs.assign rfl) rfl ?_
      refine WL.nil ?_
      refine WN.thn ?_
      refine WC.block ?_
      refine WC.loop (σ := Nat) (fun q_ => [(0, .slice A xs.length cap), (3, .string (bs (listB xs))), (5, .pointer (some ⟨rb, 0, none⟩)), (6, .int .i64 (xs.length : Int)), (7, .int .i64 (q_ : Int))]) (fun q_ w => q_ ≤ xs.length ∧ St W F ([(rb, .cells #[.string (bs (listB xs)), Vi (plK xs q_ : Nat), Vi 0] 61 (0, 0))] :: cs) w) (fun q_ => xs.length - q_) (0) (by repeat (first | exact trivial | refine ⟨rfl, ?_⟩)) (⟨Nat.zero_le _, h4⟩) ?_
      rintro k w5 ⟨hk, hL⟩
      try dsimp only at hk hL
      refine WC.sub (s := [(0, .slice A xs.length cap), (3, .string (bs (listB xs))), (5, .pointer (some ⟨rb, 0, none⟩)), (6, .int .i64 (xs.length : Int)), (7, .int .i64 (k : Int))]) (by repeat (first | exact trivial | refine ⟨rfl, ?_⟩)) ?_
      refine WC.seq ?_
      refine WC.seq ?_
      refine WC.reg ?_
      refine WL.v (Runs.move rfl) rfl ?_
      refine WL.v (Runs.move rfl) rfl ?_
      refine WL.v (Runs.lss rfl rfl) rfl ?_
      refine WL.nil ?_
      refine WN.thn ?_
      refine WC.cond rfl (fun c6 => ?_) (fun c6 => ?_)
      · try simp only [decide_eq_true_eq, decide_eq_false_iff_not, Bool.not_eq_true', Bool.not_eq_false', Bool.and_eq_true, Int.not_lt, Int.not_le] at c6
        first
        | (exfalso; omega)
        | skip
          refine WC.skip ?_
          refine WN.thn ?_
          refine WC.seq ?_
          refine WC.block ?_
          refine WC.seq ?_
          have hk2 : k < xs.length := by omega
          obtain ⟨ad, rfl, hrd⟩ := rd1 hR (by omega)
          refine WC.eregF hL (fun s_ => ([] : List Nat).any (Nat.beq s_)) mixed (by kernel_rfl) (fun hx => ?_)
          intro w7 h7
          refine WE.pure (g := none) hx 0 (by rfl) trivial (by kernel_rfl) (by kernel_rfl) (by kernel_rfl) (by kernel_rfl) (fun w_ => Runs.move rfl) rfl ?_
          refine WE.pure (g := none) hx 2 (by rfl) trivial (by kernel_rfl) (by kernel_rfl) (by kernel_rfl) (by kernel_rfl) (fun w_ => Runs.move rfl) rfl ?_
          refine WE.pure (g := none) hx 3 (by rfl) trivial (by kernel_rfl) (by kernel_rfl) (by kernel_rfl) (by kernel_rfl) (fun w_ => Runs.move rfl) rfl ?_
          refine WE.pure (g := none) hx 4 (by rfl) trivial (by kernel_rfl) (by kernel_rfl) (by kernel_rfl) (by kernel_rfl) (fun w_ => Runs.lidxN Try.underlying22 inf3 rfl rfl (n := k) rfl (by omega)) rfl ?_
          refine WE.val (g := none) 12 hx 5 (by rfl) trivial (by kernel_rfl) (by kernel_rfl) (by kernel_rfl) (by kernel_rfl) (fun w_ hE_ => Exists.elim hE_ (fun cs_ hC_ => Runs.intT (n := xs.getD k 0) (Runs.loadR (f := Vi) (0 : Int) hC_ hrd (n := k) (by omega) Try.underlying3 rfl rfl) rfl)) rfl ?_
          refine WE.op (.inr (EC.mk h7 (by first | exact Le.refl _ | assumption))) (i := 1) (by rfl) (by kernel_rfl) ?_
          refine WL.call can21 rfl rfl ((by have := wn_c w7 (p := plK xs k) (e := 0) (i := 0) h7 rfl hl (plK_le hok hL4); simpa only [rd_k hok hL4 hk2, tn_k hok hk2, List.set_cons_zero] using this)) ?_
          rintro _ w8 ⟨rfl, h8⟩
          refine ⟨_, rfl, ?_⟩
          refine WL.nil ?_
          refine WE.next ?_
          refine WE.pure (g := none) hx 6 (by rfl) trivial (by kernel_rfl) (by kernel_rfl) (by kernel_rfl) (by kernel_rfl) (fun w_ => Runs.boolT (c := false) (Runs.neq rfl rfl) (by simp)) rfl ?_
          refine WE.fin (.inr (EC.mk h8 (by first | exact Le.refl _ | assumption))) (by kernel_rfl) ?_
          refine WN.thn ?_
          refine WC.condF rfl (rfl) ?_
          refine WC.skip ?_
          refine WN.blk ?_
          refine WN.thn ?_
          refine WC.reg ?_
          refine WL.v (Runs.move rfl) rfl ?_
          refine WL.v (Runs.addn rfl rfl (by omega)) rfl ?_
          refine WL.v (Runs.assign rfl) rfl ?_
          refine WL.nil ?_
          exact WN.again (k + 1) (by omega) ⟨rfl, rfl, rfl, rfl, rfl, trivial⟩ ⟨by omega, h8⟩
      · try simp only [decide_eq_true_eq, decide_eq_false_iff_not, Bool.not_eq_true', Bool.not_eq_false', Bool.and_eq_true, Int.not_lt, Int.not_le] at c6
        first
        | (exfalso; omega)
        | skip
          refine WC.exit ?_
          refine WX.thn ?_
          refine WX.cut ?_
          refine WX.hit ?_
          refine WN.thn ?_
          refine WC.seq ?_
          obtain rfl : k = xs.length := by omega
          refine WC.reg ?_
          refine WL.v (Runs.move rfl) rfl ?_
          refine WL.call can28 rfl rfl ((by have := rend_c w5 (p := plK xs xs.length) (e := 0) (i := 0) hL rfl; simpa only [rdEnd_all hok hL4] using this)) ?_
          rintro _ w9 ⟨rfl, h9⟩
          refine ⟨_, rfl, ?_⟩
          refine WL.v (Runs.move rfl) rfl ?_
          refine WL.v (Runs.extract rfl rfl) rfl ?_
          refine WL.v (Runs.extract rfl rfl) rfl ?_
          refine WL.v (Runs.assign rfl) rfl ?_
          refine WL.v (Runs.assign rfl) rfl ?_
          refine WL.nil ?_
          refine WN.thn ?_
          refine WC.seq ?_
          refine WC.reg ?_
          refine WL.v (Runs.move rfl) rfl ?_
          refine WL.v (Runs.boolT (c := true) (Runs.eql rfl rfl) rfl) rfl ?_
          refine WL.v (Runs.move rfl) rfl ?_
          refine WL.gon rfl rfl rfl ?_
          refine WL.v (Runs.move rfl) rfl ?_
          refine WL.gon rfl rfl rfl ?_
          refine WL.v (Runs.move rfl) rfl ?_
          refine WL.gon rfl rfl rfl ?_
          refine WL.v (Runs.intT (n := ((listB xs).length : Int)) (Runs.slen Try.underlying9 rfl rfl) rfl) rfl ?_
          refine WL.gon rfl rfl rfl ?_
          refine WL.v (Runs.boolT (c := true) (Runs.eql rfl rfl) (by simp)) rfl ?_
          refine WL.v (Runs.pick rfl rfl rfl) rfl ?_
          refine WL.v (Runs.move rfl) rfl ?_
          refine WL.gon rfl rfl rfl ?_
          refine WL.v (Runs.move rfl) rfl ?_
          refine WL.gon rfl rfl rfl ?_
          refine WL.call can20 rfl rfl (read_c _ (listB xs) h9) ?_
          rintro _ w10 ⟨rc, rfl, h10⟩
          refine ⟨_, rfl, ?_⟩
          refine WL.gon rfl rfl rfl ?_
          refine WL.call can26 rfl rfl ((by have := wl_c w10 (p := 0) (e := 0) (most := 200) (i := 0) h10 rfl hl (Nat.zero_le _); simpa only [rdL_all hok hn2, List.set_cons_zero] using this)) ?_
          rintro _ w11 ⟨G1, A1, cap1, hG1, rfl, hc1, hR1, h11⟩
          refine ⟨_, rfl, ?_⟩
          refine WL.gon rfl rfl rfl ?_
          refine WL.v (Runs.move rfl) rfl ?_
          refine WL.gon rfl rfl rfl ?_
          refine WL.call can25 rfl rfl (same_c _ h11 hR1 (hR.mono hG1) (by omega)) ?_
          rintro _ w12 ⟨rfl, h12⟩
          refine ⟨_, rfl, ?_⟩
          refine WL.v (Runs.pick rfl rfl rfl) rfl ?_
          refine WL.v (Runs.move rfl) rfl ?_
          refine WL.gon rfl rfl rfl ?_
          refine WL.call can9 rfl rfl (live_c _ h12) ?_
          rintro _ w13 ⟨rfl, h13⟩
          refine ⟨_, rfl, ?_⟩
          refine WL.v (Runs.pick rfl rfl rfl) rfl ?_
          refine WL.v (Runs.assign rfl) rfl ?_
          refine WL.nil ?_
          refine WN.thn ?_
          refine WC.ret ?_
          exact ret1 rfl rfl ⟨rfl, ((h13.drop 0).drop 0).weak hG1⟩
    · skip
      refine WC.reg ?_
      refine WL.v (Runs.move rfl) rfl ?_
      refine WL.v (Runs.boolT (c := true) (Runs.lseql (a := listB xs) (b := []) rfl rfl) (decide_eq_true (listB_n hok))) rfl ?_
      refine WL.nil ?_
      refine WN.thn ?_
      refine WC.condT rfl (rfl) ?_
      refine WC.seq ?_
      refine WC.seq ?_
      refine WC.reg ?_
      refine WL.v (Runs.assign rfl) rfl ?_
      refine WL.nil ?_
      refine WN.thn ?_
      refine WC.block ?_
      refine WC.loop (σ := Nat) (fun q_ => [(0, .slice A xs.length cap), (4, .int .i64 (q_ : Int))]) (fun q_ w => q_ ≤ xs.length ∧ (∀ j, j < q_ → mayN (xs.getD j 0)) ∧ St W F cs w) (fun q_ => xs.length - q_) (0) (by repeat (first | exact trivial | refine ⟨rfl, ?_⟩)) (⟨Nat.zero_le _, fun j hj => absurd hj (Nat.not_lt_zero _), h2⟩) ?_
      rintro i w14 ⟨hi, hall, hL⟩
      try dsimp only at hi hall hL
      refine WC.sub (s := [(0, .slice A xs.length cap), (4, .int .i64 (i : Int))]) (by repeat (first | exact trivial | refine ⟨rfl, ?_⟩)) ?_
      refine WC.seq ?_
      refine WC.seq ?_
      refine WC.reg ?_
      refine WL.v (Runs.move rfl) rfl ?_
      refine WL.v (Runs.move rfl) rfl ?_
      refine WL.v (Runs.llen Try.underlying22 rfl rfl) rfl ?_
      refine WL.v (Runs.lss rfl rfl) rfl ?_
      refine WL.nil ?_
      refine WN.thn ?_
      refine WC.cond rfl (fun c15 => ?_) (fun c15 => ?_)
      · try simp only [decide_eq_true_eq, decide_eq_false_iff_not, Bool.not_eq_true', Bool.not_eq_false', Bool.and_eq_true, Int.not_lt, Int.not_le] at c15
        first
        | (exfalso; omega)
        | skip
          refine WC.skip ?_
          refine WN.thn ?_
          refine WC.seq ?_
          refine WC.block ?_
          refine WC.seq ?_
          obtain ⟨ad, rfl, hrd⟩ := rd1 hR (by omega)
          refine WC.reg ?_
          refine WL.v (Runs.move rfl) rfl ?_
          refine WL.v (Runs.move rfl) rfl ?_
          refine WL.v (Runs.lidxN Try.underlying22 inf3 rfl rfl (n := i) rfl (by omega)) rfl ?_
          refine WL.v (Runs.intT (n := xs.getD i 0) (Runs.loadR (f := Vi) (0 : Int) hL hrd (n := i) (by omega) Try.underlying3 rfl rfl) rfl) rfl ?_
          refine WL.call can10 rfl rfl (wnum_c _ (xs.getD i 0) hL) ?_
          rintro _ w16 ⟨rfl, h16⟩
          refine ⟨_, rfl, ?_⟩
          refine WL.v (Runs.boolT (c := decide (numB (xs.getD i 0) = [])) (Runs.lseql (a := numB (xs.getD i 0)) (b := []) rfl rfl) rfl) rfl ?_
          refine WL.nil ?_
          refine WN.thn ?_
          refine WC.cond rfl (fun c17 => ?_) (fun c17 => ?_)
          · try simp only [decide_eq_true_eq, decide_eq_false_iff_not, Bool.not_eq_true', Bool.not_eq_false', Bool.and_eq_true, Int.not_lt, Int.not_le] at c17
            first
            | (exfalso; omega)
            | skip
              refine WC.seq ?_
              refine WC.reg ?_
              refine WL.call can9 rfl rfl (live_c _ h16) ?_
              rintro _ w18 ⟨rfl, h18⟩
              refine ⟨_, rfl, ?_⟩
              refine WL.v (Runs.assign rfl) rfl ?_
              refine WL.nil ?_
              refine WN.thn ?_
              refine WC.ret ?_
              exact ret1 rfl rfl ⟨rfl, h18⟩
          · try simp only [decide_eq_true_eq, decide_eq_false_iff_not, Bool.not_eq_true', Bool.not_eq_false', Bool.and_eq_true, Int.not_lt, Int.not_le] at c17
            first
            | (exfalso; omega)
            | skip
              refine WC.skip ?_
              refine WN.blk ?_
              refine WN.thn ?_
              refine WC.reg ?_
              refine WL.v (Runs.move rfl) rfl ?_
              refine WL.v (Runs.addn rfl rfl (by omega)) rfl ?_
              refine WL.v (Runs.assign rfl) rfl ?_
              refine WL.nil ?_
              exact WN.again (i + 1) (by omega) ⟨rfl, rfl, trivial⟩ ⟨by omega, fun j hj => (by
                by_cases e : j = i
                · subst e; exact numB_nil.1 c17
                · exact hall j (by omega)), h16⟩
      · try simp only [decide_eq_true_eq, decide_eq_false_iff_not, Bool.not_eq_true', Bool.not_eq_false', Bool.and_eq_true, Int.not_lt, Int.not_le] at c15
        first
        | (exfalso; omega)
        | skip
          refine WC.exit ?_
          refine WX.thn ?_
          refine WX.cut ?_
          refine WX.hit ?_
          refine WN.thn ?_
          refine WC.seq ?_
          refine WC.reg ?_
          refine WL.v (Runs.assign rfl) rfl ?_
          refine WL.nil ?_
          refine WN.thn ?_
          refine WC.ret ?_
          exact absurd (okL_all hall (by omega)) hok
end Wir
end Go.Proofs.Ytfiknofmniiehaa
