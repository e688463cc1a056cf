/- Walks of package tally: rows, closures, maps. -/
import Derived.Test.YtkgmlngmojnpmaaProg
import Derived.Test.YtkgmlngmojnpmaaTalM
namespace Go.Proofs.Ytkgmlngmojnpmaa
open Go Go.RowKit B
set_option linter.unusedVariables false
set_option linter.unusedSimpArgs false
namespace Tal

theorem mixed : Try.prog.follows .mixedOrders = true := by kernel_rfl
theorem inf3 : Inf Try.prog 3 (.int .i64 0) 1 8 := by unfold Inf; kernel_rfl
theorem inf52 : Inf Try.prog 52 (.pointer none) 1 8 := by unfold Inf; kernel_rfl
theorem inf56 : Inf Try.prog 56 (.pointer none) 1 8 := by unfold Inf; kernel_rfl
theorem can39 : B.Can Try.prog 39 := ⟨_, Try.func39, by kernel_rfl, rfl⟩   -- slices.IndexFunc[[]int,int]
def FI (pr : Int → Bool) (xs : List Int) (z : Int) : Prop := (∃ i : Nat, z = i ∧ i < xs.length ∧ (∀ x ∈ xs.take i, pr x = false) ∧ pr (xs.getD i 0) = true) ∨ (z = -1 ∧ ∀ x ∈ xs, pr x = false)
def kp (pr : Int → Bool) (xs : List Int) (j : Nat) : List Int := (xs.take j).filter fun x => !pr x
theorem kp_len (pr : Int → Bool) (xs : List Int) (j : Nat) : (kp pr xs j).length ≤ j := Nat.le_trans (List.length_filter_le _ _) (by rw [List.length_take]; omega)
theorem take_nx {xs : List Int} {i : Nat} (hi : i < xs.length) : xs.take (i + 1) = xs.take i ++ [xs.getD i 0] := by
  rw [List.take_succ_eq_append_getElem hi, List.getD_eq_getElem?_getD, List.getElem?_eq_getElem hi]; rfl
theorem kp_yes {pr : Int → Bool} {xs : List Int} {j : Nat} (hj : j < xs.length) (h : pr (xs.getD j 0) = false) : kp pr xs (j + 1) = kp pr xs j ++ [xs.getD j 0] := by
  unfold kp; rw [take_nx hj, List.filter_append, List.filter_cons_of_pos (by simp only [h]; rfl)]; rfl
theorem kp_no {pr : Int → Bool} {xs : List Int} {j : Nat} (hj : j < xs.length) (h : pr (xs.getD j 0) = true) : kp pr xs (j + 1) = kp pr xs j := by
  unfold kp; rw [take_nx hj, List.filter_append, List.filter_cons_of_neg (by simp only [h]; simp)]; simp
theorem kp_all {pr : Int → Bool} {xs : List Int} {i : Nat} (h : ∀ x ∈ xs.take i, pr x = false) : kp pr xs i = xs.take i := by
  unfold kp
  rw [List.filter_eq_self]
  intro x hx; simp [h x hx]
/-- the row, as it stands: what is kept, and behind it what was there -/
def row_ (pr : Int → Bool) (xs : List Int) (j : Nat) : List Int := kp pr xs j ++ xs.drop (kp pr xs j).length
theorem row_len (pr : Int → Bool) (xs : List Int) (j : Nat) (hj : j ≤ xs.length) : (row_ pr xs j).length = xs.length := by
  have := kp_len pr xs j
  unfold row_; rw [List.length_append, List.length_drop]; omega
theorem row_at (pr : Int → Bool) (xs : List Int) (j : Nat) (hj : j < xs.length) : (row_ pr xs j).getD j 0 = xs.getD j 0 := by
  have := kp_len pr xs j
  rw [List.getD_eq_getElem?_getD, List.getD_eq_getElem?_getD, row_, List.getElem?_append_right this, List.getElem?_drop]
  rw [show (kp pr xs j).length + (j - (kp pr xs j).length) = j by omega]
theorem row_set {pr : Int → Bool} {xs : List Int} {j : Nat} (hj : j < xs.length) (h : pr (xs.getD j 0) = false) : (row_ pr xs j).set (kp pr xs j).length (xs.getD j 0) = row_ pr xs (j + 1) := by
  have := kp_len pr xs j
  unfold row_
  rw [kp_yes hj h, List.set_append_right _ _ (Nat.le_refl _), Nat.sub_self, List.drop_eq_getElem_cons (show (kp pr xs j).length < xs.length by omega), List.set_cons_zero, List.length_append]
  simp
theorem row_skip {pr : Int → Bool} {xs : List Int} {j : Nat} (hj : j < xs.length) (h : pr (xs.getD j 0) = true) : row_ pr xs (j + 1) = row_ pr xs j := by
  unfold row_; rw [kp_no hj h]
theorem row_first {pr : Int → Bool} {xs : List Int} {i : Nat} (hi : i < xs.length) (h : ∀ x ∈ xs.take i, pr x = false) (hp : pr (xs.getD i 0) = true) : (kp pr xs (i + 1)).length = i ∧ row_ pr xs (i + 1) = xs := by
  have e : kp pr xs (i + 1) = xs.take i := by rw [kp_no hi hp, kp_all h]
  have e2 : (xs.take i).length = i := by rw [List.length_take]; omega
  unfold row_
  rw [e, e2]
  exact ⟨rfl, List.take_append_drop _ _⟩
theorem mem_at {xs : List Int} {j : Nat} (hj : j < xs.length) : xs.getD j 0 ∈ xs := by
  rw [List.getD_eq_getElem?_getD, List.getElem?_eq_getElem hj]; simp
theorem blit_tail (K xs : List Int) (zs : List Value) (off n : Nat) (hn : K.length + n = xs.length) (ho : off = K.length ∨ n = 0) : blit ((K ++ xs.drop K.length).map Vi ++ zs).toArray off (List.replicate n (Vi 0)) = (K.map Vi ++ (List.replicate n (Vi 0) ++ zs)).toArray := by
  apply Array.toList_inj.1
  rcases ho with rfl | rfl
  · rw [blit_toList _ _ _ (by simp; omega)]
    have hd : (List.drop (K.length + n) xs) = [] := List.drop_of_length_le (by omega)
    have e1 : (List.drop n ((List.drop K.length xs).map Vi ++ zs)) = zs := by
      rw [List.drop_append_of_le_length (by simp; omega), List.drop_of_length_le (by simp; omega), List.nil_append]
    simp [List.drop_append, hd]
    rw [List.drop_of_length_le (by simp), List.drop_of_length_le (by simp; omega), show n - (xs.length - K.length) = 0 by omega]; rfl
  · have hd : xs.drop K.length = [] := List.drop_of_length_le (by omega)
    simp [blit, hd]
set_option maxRecDepth 100000 in
set_option maxHeartbeats 1000000 in
theorem clone_c {W : World} {F : Snap} {cs : List Res} (w : World) {A : Option Addr} {cap : Nat} {xs : List Int} (h : St W F cs w) (hR : RdS (Kd.one Vi) F A xs) (h0 : 0 < xs.length) (hn : xs.length ≤ 100000) : Calls Try.prog 24 #[.slice A xs.length cap] w fun e w' => ∃ r v, e = .returned v ∧ Row 3 Vi r v xs ∧ St W F (r :: cs) w'  := by
  refine enter (P := Try.prog) (args := [.slice A xs.length cap]) Try.func24 rfl rfl rfl ?_
  obtain ⟨ad, rfl, hrd⟩ := rd1 hR h0
  refine WC.seq ?_
  refine WC.reg ?_
  refine WL.v (Runs.assign rfl) rfl ?_
  refine WL.nil ?_
  refine WN.thn ?_
  refine WC.seq ?_
  refine WC.seq ?_
  refine WC.reg ?_
  refine WL.v (Runs.move rfl) rfl ?_
  refine WL.v (Runs.nileql Try.underlying22 rfl rfl) rfl ?_
  refine WL.nil ?_
  refine WN.thn ?_
  refine WC.condF rfl (rfl) ?_
  refine WC.skip ?_
  refine WN.thn ?_
  refine WC.seq ?_
  refine WC.reg ?_
  refine WL.lit (vs := (([] : List Int)).map Vi) h rfl Try.underlying22 inf3 rfl rfl rfl rfl rfl ?_
  intro lit5 w1 h1
  refine WL.v (Runs.move rfl) rfl ?_
  refine WL.app (ys := xs) 0 h1 rfl rfl rfl rfl Try.underlying22 Try.underlying22 (.inr ⟨_, rfl⟩) inf3 rfl (Row.lit (xs := ([] : List Int)) rfl) (Src.rd hR h1 rfl (fun _ => rfl)) rfl rfl (by first | omega | (simp []; done) | (simp []; omega)) (by first | omega | (simp []; done) | (simp []; omega)) ?_
  intro r2 v2 w3 hr2 h3
  simp only [List.set_cons_zero, List.set_cons_succ] at h3
  refine WL.v (Runs.assign rfl) rfl ?_
  refine WL.nil ?_
  refine WN.thn ?_
  refine WC.ret ?_
  refine ret1 rfl rfl ⟨_, _, rfl, hr2, h3⟩
set_option maxRecDepth 100000 in
set_option maxHeartbeats 1000000 in
theorem clos_bool {W : World} {F : Snap} {cs : List Res} (w : World) (n : Int) (i j : Nat) {b3 m : Nat} {tt : TypeId} {l : List (Int × Value)} {ns : List Int} {os : List (Option Bool)} {o : Option Bool} (h : St W F cs w) (hj : cs[j]? = some [(b3, .cells #[.map (some m)] tt (0, 0))]) (hi : cs[i]? = some [(m, mobj l)]) (hm : MR .bool F ns os l) (ho : look n ns os = some o) : Calls Try.prog 37 #[Vi n, .pointer (some ⟨b3, 0, none⟩)] w fun e w' => e = .returned (.bool o.isSome) ∧ St W F cs w'  := by
  refine enter (P := Try.prog) (args := [Vi n, .pointer (some ⟨b3, 0, none⟩)]) Try.func37 rfl rfl rfl ?_
  obtain ⟨p, hp, hps⟩ : ∃ p, ((mfind n l 0).map (·.2)).getD (.pointer none) = .pointer p ∧ p.isSome = o.isSome := by
    rcases hm.find n 0 with ⟨h1, _⟩ | ⟨o', i', v, h1, h2, h3⟩
    · rw [ho] at h1; cases h1
    · rw [ho] at h1; cases h1
      obtain ⟨p, h4, h5⟩ := h3.ptr
      exact ⟨p, by rw [h2]; exact h4, h5⟩
  refine WC.seq ?_
  refine WC.reg ?_
  refine WL.v (Runs.assign rfl) rfl ?_
  refine WL.nil ?_
  refine WN.thn ?_
  refine WC.seq ?_
  refine WC.reg ?_
  refine WL.v (Runs.load1 Try.underlying44 rfl rfl (h.ocell hj rfl)) rfl ?_
  refine WL.v (Runs.move rfl) rfl ?_
  refine WL.v (Runs.valT (u := .pointer p) (Runs.lookup1 h i hi Try.underlying44 Try.underlying3 inf52 rfl rfl) hp) rfl ?_
  refine WL.v (Runs.pneq Try.underlying52 rfl rfl) rfl ?_
  refine WL.v (Runs.assign rfl) rfl ?_
  refine WL.nil ?_
  refine WN.thn ?_
  refine WC.ret ?_
  exact ret1 rfl rfl ⟨by rw [hps], h⟩
set_option maxRecDepth 100000 in
set_option maxHeartbeats 1000000 in
theorem clos_int {W : World} {F : Snap} {cs : List Res} (w : World) (n : Int) (i j : Nat) {b3 m : Nat} {tt : TypeId} {l : List (Int × Value)} {ns : List Int} {os : List (Option Int)} {o : Option Int} (h : St W F cs w) (hj : cs[j]? = some [(b3, .cells #[.map (some m)] tt (0, 0))]) (hi : cs[i]? = some [(m, mobj l)]) (hm : MR Vi F ns os l) (ho : look n ns os = some o) : Calls Try.prog 38 #[Vi n, .pointer (some ⟨b3, 0, none⟩)] w fun e w' => e = .returned (.bool o.isSome) ∧ St W F cs w'  := by
  refine enter (P := Try.prog) (args := [Vi n, .pointer (some ⟨b3, 0, none⟩)]) Try.func38 rfl rfl rfl ?_
  obtain ⟨p, hp, hps⟩ : ∃ p, ((mfind n l 0).map (·.2)).getD (.pointer none) = .pointer p ∧ p.isSome = o.isSome := by
    rcases hm.find n 0 with ⟨h1, _⟩ | ⟨o', i', v, h1, h2, h3⟩
    · rw [ho] at h1; cases h1
    · rw [ho] at h1; cases h1
      obtain ⟨p, h4, h5⟩ := h3.ptr
      exact ⟨p, by rw [h2]; exact h4, h5⟩
  refine WC.seq ?_
  refine WC.reg ?_
  refine WL.v (Runs.assign rfl) rfl ?_
  refine WL.nil ?_
  refine WN.thn ?_
  refine WC.seq ?_
  refine WC.reg ?_
  refine WL.v (Runs.load1 Try.underlying46 rfl rfl (h.ocell hj rfl)) rfl ?_
  refine WL.v (Runs.move rfl) rfl ?_
  refine WL.v (Runs.valT (u := .pointer p) (Runs.lookup1 h i hi Try.underlying46 Try.underlying3 inf56 rfl rfl) hp) rfl ?_
  refine WL.v (Runs.pneq Try.underlying56 rfl rfl) rfl ?_
  refine WL.v (Runs.assign rfl) rfl ?_
  refine WL.nil ?_
  refine WN.thn ?_
  refine WC.ret ?_
  exact ret1 rfl rfl ⟨by rw [hps], h⟩
set_option maxRecDepth 100000 in
set_option maxHeartbeats 1000000 in
theorem idx_c {W : World} {F : Snap} {cs : List Res} {r : Res} (w : World) (g : FuncId) (cp : Value) (pr : Int → Bool) {ad : Addr} {cap : Nat} {xs : List Int} (hg : B.Can Try.prog g) (h : St W F (r :: cs) w) (hr : Row 3 Vi r (.slice (some ad) xs.length cap) xs) (hn : xs.length ≤ 100000) (hcl : ∀ w n, n ∈ xs → St W F (r :: cs) w → Calls Try.prog g #[Vi n, cp] w fun e w' => e = .returned (.bool (pr n)) ∧ St W F (r :: cs) w') : Calls Try.prog 39 #[.slice (some ad) xs.length cap, .func (.func g) #[] #[cp]] w fun e w' => ∃ z, e = .returned (Vi z) ∧ FI pr xs z ∧ St W F (r :: cs) w'  := by
  refine enter (P := Try.prog) (args := [.slice (some ad) xs.length cap, .func (.func g) #[] #[cp]]) Try.func39 rfl rfl rfl ?_
  refine WC.seq ?_
  refine WC.reg ?_
  refine WL.v (Runs.assign rfl) rfl ?_
  refine WL.nil ?_
  refine WN.thn ?_
  refine WC.seq ?_
  refine WC.seq ?_
  refine WC.reg ?_
  refine WL.v (Runs.move rfl) rfl ?_
  refine WL.v (Runs.llen Try.underlying22 rfl rfl) rfl ?_
  refine WL.v (Runs.move rfl) rfl ?_
  refine WL.nil ?_
  refine WN.thn ?_
  refine WC.block ?_
  refine WC.loop (σ := Nat) (fun q_ => [(0, .slice (some ad) xs.length cap), (1, .func (.func g) #[] #[cp]), (7, .int .i64 (xs.length : Int)), (8, .int .i64 (q_ : Int))]) (fun q_ w => q_ ≤ xs.length ∧ (∀ x ∈ xs.take q_, pr x = false) ∧ St W F (r :: cs) w) (fun q_ => xs.length - q_) (0) (by repeat (first | exact trivial | refine ⟨rfl, ?_⟩)) (⟨by omega, by simp, h⟩) ?_
  rintro i w1 ⟨hi, hq, hL⟩
  try dsimp only at hi hq hL
  refine WC.sub (s := [(0, .slice (some ad) xs.length cap), (1, .func (.func g) #[] #[cp]), (7, .int .i64 (xs.length : Int)), (8, .int .i64 (i : Int))]) (by repeat (first | exact trivial | refine ⟨rfl, ?_⟩)) ?_
  refine WC.seq ?_
  refine WC.reg ?_
  refine WL.v (Runs.lss rfl rfl) rfl ?_
  refine WL.nil ?_
  refine WN.thn ?_
  refine WC.seq ?_
  refine WC.cond rfl (fun c2 => ?_) (fun c2 => ?_)
  · try simp only [decide_eq_true_eq, decide_eq_false_iff_not, Bool.not_eq_true', Bool.not_eq_false', Bool.and_eq_true, Int.not_lt, Int.not_le] at c2
    first
    | (exfalso; omega)
    | skip
      refine WC.skip ?_
      refine WN.thn ?_
      refine WC.seq ?_
      refine WC.block ?_
      refine WC.seq ?_
      refine WC.reg ?_
      refine WL.v (Runs.move rfl) rfl ?_
      refine WL.v (Runs.assign rfl) rfl ?_
      refine WL.nil ?_
      refine WN.thn ?_
      refine WC.seq ?_
      refine WC.reg ?_
      refine WL.v (Runs.move rfl) rfl ?_
      refine WL.v (Runs.move rfl) rfl ?_
      refine WL.v (Runs.move rfl) rfl ?_
      refine WL.v (Runs.lidxN Try.underlying22 inf3 rfl rfl (n := i) rfl (by omega)) rfl ?_
      refine WL.v (Runs.loadRow (0 : Int) hL 0 rfl hr (n := i) (by omega) Try.underlying3 rfl rfl) rfl ?_
      refine WL.callv hg rfl rfl rfl (hcl _ _ (mem_at (by omega)) hL) ?_
      rintro _ w3 ⟨rfl, h3⟩
      refine ⟨_, rfl, ?_⟩
      refine WL.nil ?_
      refine WN.thn ?_
      refine WC.cond rfl (fun c4 => ?_) (fun c4 => ?_)
      · try simp only [decide_eq_true_eq, decide_eq_false_iff_not, Bool.not_eq_true', Bool.not_eq_false', Bool.and_eq_true, Int.not_lt, Int.not_le] at c4
        first
        | (exfalso; omega)
        | skip
          refine WC.seq ?_
          refine WC.reg ?_
          refine WL.v (Runs.move rfl) rfl ?_
          refine WL.v (Runs.assign rfl) rfl ?_
          refine WL.nil ?_
          refine WN.thn ?_
          refine WC.ret ?_
          refine ret1 rfl rfl ⟨_, rfl, .inl ⟨i, rfl, by omega, hq, by assumption⟩, h3⟩
      · try simp only [decide_eq_true_eq, decide_eq_false_iff_not, Bool.not_eq_true', Bool.not_eq_false', Bool.and_eq_true, Int.not_lt, Int.not_le] at c4
        first
        | (exfalso; omega)
        | skip
          refine WC.skip ?_
          refine WN.blk ?_
          refine WN.thn ?_
          refine WC.reg ?_
          refine WL.v (Runs.addn rfl rfl (by omega)) rfl ?_
          refine WL.v (Runs.move rfl) rfl ?_
          refine WL.nil ?_
          refine WN.again (i + 1) (by omega) ⟨rfl, rfl, rfl, rfl, trivial⟩ ⟨by omega, ?_, h3⟩
          intro x hx
          rw [take_nx (by omega), List.mem_append] at hx
          rcases hx with hx | hx
          · exact hq x hx
          · simp only [List.mem_singleton] at hx; rw [hx]; simp_all
  · try simp only [decide_eq_true_eq, decide_eq_false_iff_not, Bool.not_eq_true', Bool.not_eq_false', Bool.and_eq_true, Int.not_lt, Int.not_le] at c2
    first
    | (exfalso; omega)
    | skip
      refine WC.exit ?_
      refine WX.thn ?_
      refine WX.cut ?_
      refine WX.hit ?_
      refine WN.thn ?_
      refine WC.seq ?_
      refine WC.reg ?_
      refine WL.v (Runs.assign rfl) rfl ?_
      refine WL.nil ?_
      refine WN.thn ?_
      refine WC.ret ?_
      obtain rfl : i = xs.length := by omega
      rw [List.take_of_length_le (Nat.le_refl _)] at hq
      exact ret1 rfl rfl ⟨_, rfl, .inr ⟨rfl, hq⟩, hL⟩
set_option maxRecDepth 100000 in
set_option maxHeartbeats 2000000 in
theorem del_c {W : World} {F : Snap} {cs : List Res} (w : World) (g : FuncId) (cp : Value) (pr : Int → Bool) {b : Nat} {xs : List Int} {zs : List Value} {fz : Nat × Nat} (hg : B.Can Try.prog g) (h : St W F ([(b, .cells (xs.map Vi ++ zs).toArray 3 fz)] :: cs) w) (hf : Free fz (xs.length + zs.length)) (hn : xs.length ≤ 100000) (hcl : ∀ r w n, n ∈ xs → St W F (r :: cs) w → Calls Try.prog g #[Vi n, cp] w fun e w' => e = .returned (.bool (pr n)) ∧ St W F (r :: cs) w') : Calls Try.prog 36 #[.slice (some ⟨b, 0, none⟩) xs.length (xs.length + zs.length), .func (.func g) #[] #[cp]] w fun e w' => ∃ r v, e = .returned v ∧ Row 3 Vi r v (xs.filter fun x => !pr x) ∧ St W F (r :: cs) w'  := by
  refine enter (P := Try.prog) (args := [.slice (some ⟨b, 0, none⟩) xs.length (xs.length + zs.length), .func (.func g) #[] #[cp]]) Try.func36 rfl rfl rfl ?_
  refine WC.seq ?_
  refine WC.reg ?_
  refine WL.v (Runs.assign rfl) rfl ?_
  refine WL.nil ?_
  refine WN.thn ?_
  refine WC.seq ?_
  refine WC.reg ?_
  refine WL.v (Runs.move rfl) rfl ?_
  refine WL.v (Runs.move rfl) rfl ?_
  refine WL.call can39 rfl rfl (idx_c _ g cp pr hg h (Row.mk_ rfl hf) hn (hcl _)) ?_
  rintro _ w1 ⟨z, rfl, hz, h1⟩
  refine ⟨_, rfl, ?_⟩
  refine WL.v (Runs.assign rfl) rfl ?_
  refine WL.nil ?_
  refine WN.thn ?_
  refine WC.seq ?_
  refine WC.seq ?_
  refine WC.reg ?_
  refine WL.v (Runs.move rfl) rfl ?_
  refine WL.v (Runs.eql rfl rfl) rfl ?_
  refine WL.nil ?_
  refine WN.thn ?_
  refine WC.cond rfl (fun c2 => ?_) (fun c2 => ?_)
  · try simp only [decide_eq_true_eq, decide_eq_false_iff_not, Bool.not_eq_true', Bool.not_eq_false', Bool.and_eq_true, Int.not_lt, Int.not_le] at c2
    first
    | (exfalso; omega)
    | skip
      refine WC.seq ?_
      refine WC.reg ?_
      refine WL.v (Runs.move rfl) rfl ?_
      refine WL.v (Runs.assign rfl) rfl ?_
      refine WL.nil ?_
      refine WN.thn ?_
      refine WC.ret ?_
      have hall : ∀ x ∈ xs, pr x = false := by
        rcases hz with ⟨i, rfl, _⟩ | ⟨_, hz⟩
        · omega
        · exact hz
      refine ret1 rfl rfl ⟨_, _, rfl, ?_, h1⟩
      rw [List.filter_eq_self.2 (fun x hx => by simp [hall x hx])]
      exact Row.mk_ rfl hf
  · try simp only [decide_eq_true_eq, decide_eq_false_iff_not, Bool.not_eq_true', Bool.not_eq_false', Bool.and_eq_true, Int.not_lt, Int.not_le] at c2
    first
    | (exfalso; omega)
    | skip
      refine WC.skip ?_
      refine WN.thn ?_
      refine WC.seq ?_
      refine WC.seq ?_
      refine WC.reg ?_
      obtain ⟨i0, rfl, hi0, hpre, hp0⟩ : ∃ i : Nat, z = i ∧ i < xs.length ∧ (∀ x ∈ xs.take i, pr x = false) ∧ pr (xs.getD i 0) = true := by
        rcases hz with hz | ⟨hz, _⟩
        · exact hz
        · omega
      have hfirst := row_first hi0 hpre hp0
      refine WL.v (Runs.move rfl) rfl ?_
      refine WL.v (Runs.addn rfl rfl (by omega)) rfl ?_
      refine WL.v (Runs.assign rfl) rfl ?_
      refine WL.nil ?_
      refine WN.thn ?_
      refine WC.block ?_
      refine WC.loop (σ := Nat) (fun q_ => [(0, .slice (some ⟨b, 0, none⟩) xs.length (xs.length + zs.length)), (1, .func (.func g) #[] #[cp]), (5, .int .i64 ((kp pr xs q_).length : Int)), (6, .int .i64 (q_ : Int))]) (fun q_ w => q_ ≤ xs.length ∧ St W F ([(b, .cells ((row_ pr xs q_).map Vi ++ zs).toArray 3 fz)] :: cs) w) (fun q_ => xs.length - q_) ((i0 + 1)) ⟨rfl, rfl, by rw [hfirst.1]; rfl, rfl, trivial⟩ (⟨by omega, by rw [hfirst.2]; exact h1⟩) ?_
      rintro j w3 ⟨hj, hL⟩
      try dsimp only at hj hL
      refine WC.sub (s := [(0, .slice (some ⟨b, 0, none⟩) xs.length (xs.length + zs.length)), (1, .func (.func g) #[] #[cp]), (5, .int .i64 ((kp pr xs j).length : Int)), (6, .int .i64 (j : Int))]) (by repeat (first | exact trivial | refine ⟨rfl, ?_⟩)) ?_
      have hkl := kp_len pr xs j
      have hrl := row_len pr xs j hj
      refine WC.seq ?_
      refine WC.seq ?_
      refine WC.reg ?_
      refine WL.v (Runs.move rfl) rfl ?_
      refine WL.v (Runs.move rfl) rfl ?_
      refine WL.v (Runs.llen Try.underlying22 rfl rfl) rfl ?_
      refine WL.v (Runs.lss rfl rfl) rfl ?_
      refine WL.nil ?_
      refine WN.thn ?_
      refine WC.cond rfl (fun c4 => ?_) (fun c4 => ?_)
      · try simp only [decide_eq_true_eq, decide_eq_false_iff_not, Bool.not_eq_true', Bool.not_eq_false', Bool.and_eq_true, Int.not_lt, Int.not_le] at c4
        first
        | (exfalso; omega)
        | skip
          refine WC.skip ?_
          refine WN.thn ?_
          refine WC.seq ?_
          refine WC.block ?_
          refine WC.seq ?_
          refine WC.reg ?_
          refine WL.v (Runs.move rfl) rfl ?_
          refine WL.v (Runs.move rfl) rfl ?_
          refine WL.v (Runs.lidxN Try.underlying22 inf3 rfl rfl (n := j) rfl (by omega)) rfl ?_
          refine WL.v (Runs.intT (n := xs.getD j 0) (Runs.loadRow (0 : Int) hL 0 rfl (Row.mk_ (b := b) (xs := row_ pr xs j) (zs := zs) (fz := fz) rfl (by rw [hrl]; exact hf)) (n := j) (by omega) Try.underlying3 rfl rfl) (row_at pr xs j (by omega))) rfl ?_
          refine WL.v (Runs.assign rfl) rfl ?_
          refine WL.nil ?_
          refine WN.thn ?_
          refine WC.seq ?_
          refine WC.reg ?_
          refine WL.v (Runs.move rfl) rfl ?_
          refine WL.v (Runs.move rfl) rfl ?_
          refine WL.callv hg rfl rfl rfl (hcl _ _ _ (mem_at (by omega)) hL) ?_
          rintro _ w5 ⟨rfl, h5⟩
          refine ⟨_, rfl, ?_⟩
          refine WL.v (Runs.not rfl) rfl ?_
          refine WL.nil ?_
          refine WN.thn ?_
          refine WC.cond rfl (fun c6 => ?_) (fun c6 => ?_)
          · try simp only [decide_eq_true_eq, decide_eq_false_iff_not, Bool.not_eq_true', Bool.not_eq_false', Bool.and_eq_true, Int.not_lt, Int.not_le] at c6
            first
            | (exfalso; omega)
            | skip
              refine WC.seq ?_
              refine WC.reg ?_
              refine WL.v (Runs.move rfl) rfl ?_
              refine WL.v (Runs.move rfl) rfl ?_
              refine WL.v (Runs.move rfl) rfl ?_
              refine WL.v (Runs.lidxN Try.underlying22 inf3 rfl rfl (n := (kp pr xs j).length) rfl (by omega)) rfl ?_
              refine WL.storeRow (n := (kp pr xs j).length) (u := xs.getD j 0) h5 0 rfl (by first | rfl | (simp [evs, lk, add_mk]; done)) rfl inf3 rfl (by rw [hrl]; exact hf) (by omega) ?_
              intro  w7 h7
              try simp only [List.set_cons_zero, List.set_cons_succ, List.eraseIdx_cons_zero, List.eraseIdx_cons_succ] at h7
              refine WL.nil ?_
              refine WN.thn ?_
              refine WC.reg ?_
              refine WL.v (Runs.move rfl) rfl ?_
              refine WL.v (Runs.addn rfl rfl (by omega)) rfl ?_
              refine WL.v (Runs.assign rfl) rfl ?_
              refine WL.nil ?_
              refine WN.blk ?_
              refine WN.thn ?_
              refine WC.reg ?_
              refine WL.v (Runs.move rfl) rfl ?_
              refine WL.v (Runs.addn rfl rfl (by omega)) rfl ?_
              refine WL.v (Runs.assign rfl) rfl ?_
              refine WL.nil ?_
              have hpf : pr (xs.getD j 0) = false := by simp_all
              refine WN.again (j + 1) (by omega) ⟨rfl, rfl, by rw [kp_yes (by omega) hpf, List.length_append]; rfl, rfl, trivial⟩ ⟨by omega, ?_⟩
              rw [← row_set (by omega) hpf]
              exact h7
          · try simp only [decide_eq_true_eq, decide_eq_false_iff_not, Bool.not_eq_true', Bool.not_eq_false', Bool.and_eq_true, Int.not_lt, Int.not_le] at c6
            first
            | (exfalso; omega)
            | skip
              refine WC.skip ?_
              refine WN.blk ?_
              refine WN.thn ?_
              refine WC.reg ?_
              refine WL.v (Runs.move rfl) rfl ?_
              refine WL.v (Runs.addn rfl rfl (by omega)) rfl ?_
              refine WL.v (Runs.assign rfl) rfl ?_
              refine WL.nil ?_
              have hpf : pr (xs.getD j 0) = true := by simp_all
              refine WN.again (j + 1) (by omega) ⟨rfl, rfl, by rw [kp_no (by omega) hpf]; rfl, rfl, trivial⟩ ⟨by omega, ?_⟩
              rw [row_skip (by omega) hpf]
              exact h5
      · try simp only [decide_eq_true_eq, decide_eq_false_iff_not, Bool.not_eq_true', Bool.not_eq_false', Bool.and_eq_true, Int.not_lt, Int.not_le] at c4
        first
        | (exfalso; omega)
        | skip
          refine WC.exit ?_
          refine WX.thn ?_
          refine WX.cut ?_
          refine WX.hit ?_
          refine WN.thn ?_
          refine WC.seq ?_
          refine WC.reg ?_
          refine WL.v (Runs.move rfl) rfl ?_
          refine WL.v (Runs.move rfl) rfl ?_
          refine WL.v (Runs.valT (u := .slice (some ⟨b, if xs.length + zs.length = (kp pr xs j).length then 0 else (kp pr xs j).length, none⟩) (xs.length - (kp pr xs j).length) (xs.length + zs.length - (kp pr xs j).length)) (Runs.lsl_lo Try.underlying22 inf3 rfl rfl (n := (kp pr xs j).length) rfl (by omega)) (by split <;> simp [add_mk])) rfl ?_
          refine WL.clear hL 0 rfl Try.underlying22 inf3 rfl rfl (by simpa [hrl] using hf) (by simp [hrl]; split <;> omega) ?_
          intro  w8 h8
          try simp only [List.set_cons_zero, List.set_cons_succ, List.eraseIdx_cons_zero, List.eraseIdx_cons_succ] at h8
          refine WL.nil ?_
          refine WN.thn ?_
          refine WC.seq ?_
          refine WC.reg ?_
          refine WL.v (Runs.move rfl) rfl ?_
          refine WL.v (Runs.move rfl) rfl ?_
          refine WL.v (Runs.lsl_hi Try.underlying22 inf3 rfl rfl (n := (kp pr xs j).length) rfl (by omega)) rfl ?_
          refine WL.v (Runs.assign rfl) rfl ?_
          refine WL.nil ?_
          refine WN.thn ?_
          refine WC.ret ?_
          obtain rfl : j = xs.length := by omega
          have hk : kp pr xs xs.length = xs.filter fun x => !pr x := by unfold kp; rw [List.take_of_length_le (Nat.le_refl _)]
          have hS := h8
          rw [show row_ pr xs xs.length = kp pr xs xs.length ++ xs.drop (kp pr xs xs.length).length from rfl, blit_tail _ _ _ _ _ (by omega) (by split <;> omega)] at hS
          rw [← hk]
          exact ret1 rfl rfl ⟨_, _, rfl, Row.mk_ (by simp; omega) (by simp; rw [show (kp pr xs xs.length).length + (xs.length - (kp pr xs xs.length).length + zs.length) = xs.length + zs.length by omega]; exact hf), hS⟩
end Tal
end Go.Proofs.Ytkgmlngmojnpmaa
