/- What the laws of chapter 02 have in common: some answers that the document gives. -/
import Derived.Test.YtfiknofmniiehaaBaseX
import Derived.Test.YtfiknofmniiehaaW9
namespace Go.Proofs.Ytfiknofmniiehaa
open Go Go.RowKit B
set_option linter.unusedVariables false
set_option linter.unusedSimpArgs false
namespace Wir

theorem can14 : B.Can Try.prog 14 := ⟨_, Try.func14, by kernel_rfl, rfl⟩   -- roundhouse/wire.List
theorem can16 : B.Can Try.prog 16 := ⟨_, Try.func16, by kernel_rfl, rfl⟩   -- roundhouse/wire.Encode
theorem can18 : B.Can Try.prog 18 := ⟨_, Try.func18, by kernel_rfl, rfl⟩   -- roundhouse/wire.Decode
def mL : M := ⟨2, -1, 3, 300, 0, 0, 0, [97, 98]⟩
theorem n300 : numB 300 = [2, 1, 44] := by simp [numB, numN, mayN, hi_s, hi_0]
theorem n0 : numB 0 = [0] := by simp [numB, numN, mayN, hi_0]
theorem n2 : numB 2 = [1, 2] := by simp [numB, numN, mayN, hi_s, hi_0]
theorem n4 : numB 4 = [1, 4] := by simp [numB, numN, mayN, hi_s, hi_0]
theorem n1 : numB 1 = [1, 1] := by simp [numB, numN, mayN, hi_s, hi_0]
theorem nm1 : numB (-1) = [] := by simp [numB, mayN]
theorem tab : textB [97, 98] = [1, 2, 97, 98] := by
  unfold textB
  rw [if_neg (by decide)]
  show numB 2 ++ _ = _
  rw [n2]; rfl
theorem encL : encB mL = [1, 2, 0, 1, 4, 2, 1, 44, 0, 0, 0, 1, 2, 97, 98] := by
  unfold encB
  rw [if_pos (by decide)]
  show (numsM mL).flatMap numB ++ textB [97, 98] = _
  rw [tab]
  show numB 2 ++ (numB (-1 + 1) ++ (numB (3 + 1) ++ (numB 300 ++ (numB 0 ++ (numB 0 ++ (numB 0 ++ [])))))) ++ [1, 2, 97, 98] = _
  rw [show (-1 + 1 : Int) = 0 from rfl, show (3 + 1 : Int) = 4 from rfl, n2, n0, n4, n300]; rfl
theorem l10 : listB [1, 0] = [1, 2, 1, 1, 0] := by
  unfold listB
  rw [if_neg (by decide), if_pos (by decide)]
  show numB 2 ++ (numB 1 ++ (numB 0 ++ [])) = _
  rw [n2, n1, n0]; rfl
theorem decL : decB [1, 2, 0, 1, 4, 2, 1, 44, 0, 0, 0, 1, 2, 97, 98] = (mL, 0) := by
  have h1 : decE [1, 2, 0, 1, 4, 2, 1, 44, 0, 0, 0, 1, 2, 97, 98] = 0 := by decide +kernel
  have h2 : decM [1, 2, 0, 1, 4, 2, 1, 44, 0, 0, 0, 1, 2, 97, 98] = mL := by
    unfold decM mL
    simp only [M.mk.injEq]
    refine ⟨by decide +kernel, by decide +kernel, by decide +kernel, by decide +kernel, by decide +kernel, by decide +kernel, by decide +kernel, by decide +kernel⟩
  unfold decB
  rw [h1, h2, if_neg (by decide), if_pos (by decide)]
theorem decL1 : decB ([1, 2, 0, 1, 4, 2, 1, 44, 0, 0, 0, 1, 2, 97, 98] ++ [120]) = (M0, 4) := by
  have h1 : decE ([1, 2, 0, 1, 4, 2, 1, 44, 0, 0, 0, 1, 2, 97, 98] ++ [120]) = 4 := by decide +kernel
  unfold decB
  rw [h1, if_pos (by decide)]
theorem decL2 : decB [2, 0] = (M0, 2) := by
  have h1 : decE [2, 0] = 2 := by decide +kernel
  unfold decB
  rw [h1, if_pos (by decide)]
theorem decL3 : decB [7] = (M0, 3) := by
  have h1 : decE [7] = 3 := by decide +kernel
  unfold decB
  rw [h1, if_pos (by decide)]
theorem eqM (w : World) (m n : M) : (Op.equalIn 10000 24 m.val n.val).run Try.prog w = .ok (decide (m.k = n.k) && (decide (m.f = n.f) && (decide (m.t = n.t) && (decide (m.j = n.j) && (decide (m.ep = n.ep) && (decide (m.st = n.st) && (decide (m.ar = n.ar) && (decide (m.tx = n.tx) && true)))))))) w := by
  unfold M.val
  refine eqA_of (d := 9999) Try.underlying24 (by kernel_rfl) ?_
  exact eqf_int (d := 9998) rfl Try.underlying3 rfl rfl (eqf_int (d := 9998) rfl Try.underlying3 rfl rfl (eqf_int (d := 9998) rfl Try.underlying3 rfl rfl (eqf_int (d := 9998) rfl Try.underlying3 rfl rfl (eqf_int (d := 9998) rfl Try.underlying3 rfl rfl (eqf_int (d := 9998) rfl Try.underlying3 rfl rfl (eqf_int (d := 9998) rfl Try.underlying3 rfl rfl (eqf_str (d := 9998) rfl Try.underlying9 rfl rfl eqf_nil)))))))
theorem lv_enc {W : World} {F : Snap} {cs : List Res} (w : World) (h : St W F cs w) : Calls Try.prog 16 #[mL.val] w fun r w' => r = .returned (.string (bs [1, 2, 0, 1, 4, 2, 1, 44, 0, 0, 0, 1, 2, 97, 98])) ∧ St W F cs w' := by
  have := enc_c w mL h (by decide)
  rw [encL] at this
  exact this
theorem lv_d0 {W : World} {F : Snap} {cs : List Res} (w : World) (h : St W F cs w) : Calls Try.prog 18 #[.string (bs [1, 2, 0, 1, 4, 2, 1, 44, 0, 0, 0, 1, 2, 97, 98])] w fun r w' => r = .returned (.tuple #[mL.val, Vi 0]) ∧ St W F cs w' := by
  have := dec_c w [1, 2, 0, 1, 4, 2, 1, 44, 0, 0, 0, 1, 2, 97, 98] h (by decide)
  rw [decL] at this
  exact this
theorem lv_d1 {W : World} {F : Snap} {cs : List Res} (w : World) (h : St W F cs w) : Calls Try.prog 18 #[.string (bs ([1, 2, 0, 1, 4, 2, 1, 44, 0, 0, 0, 1, 2, 97, 98] ++ [120]))] w fun r w' => r = .returned (.tuple #[M0.val, Vi 4]) ∧ St W F cs w' := by
  have := dec_c w ([1, 2, 0, 1, 4, 2, 1, 44, 0, 0, 0, 1, 2, 97, 98] ++ [120]) h (by decide)
  rw [decL1] at this
  exact this
theorem lv_d2 {W : World} {F : Snap} {cs : List Res} (w : World) (h : St W F cs w) : Calls Try.prog 18 #[.string (bs [2, 0])] w fun r w' => r = .returned (.tuple #[M0.val, Vi 2]) ∧ St W F cs w' := by
  have := dec_c w [2, 0] h (by decide)
  rw [decL2] at this
  exact this
theorem lv_d3 {W : World} {F : Snap} {cs : List Res} (w : World) (h : St W F cs w) : Calls Try.prog 18 #[.string (bs [7])] w fun r w' => r = .returned (.tuple #[M0.val, Vi 3]) ∧ St W F cs w' := by
  have := dec_c w [7] h (by decide)
  rw [decL3] at this
  exact this
theorem lv_n300 {W : World} {F : Snap} {cs : List Res} (w : World) (h : St W F cs w) : Calls Try.prog 10 #[Vi 300] w fun r w' => r = .returned (.string (bs [2, 1, 44])) ∧ St W F cs w' := by
  have := wnum_c w 300 h
  rw [n300] at this
  exact this
theorem lv_n0 {W : World} {F : Snap} {cs : List Res} (w : World) (h : St W F cs w) : Calls Try.prog 10 #[Vi 0] w fun r w' => r = .returned (.string (bs [0])) ∧ St W F cs w' := by
  have := wnum_c w 0 h
  rw [n0] at this
  exact this
theorem lv_nm {W : World} {F : Snap} {cs : List Res} (w : World) (h : St W F cs w) : Calls Try.prog 10 #[Vi (-1)] w fun r w' => r = .returned (.string (bs [])) ∧ St W F cs w' := by
  have := wnum_c w (-1) h
  rw [nm1] at this
  exact this
theorem lv_t {W : World} {F : Snap} {cs : List Res} (w : World) (h : St W F cs w) : Calls Try.prog 12 #[.string (bs [97, 98])] w fun r w' => r = .returned (.string (bs [1, 2, 97, 98])) ∧ St W F cs w' := by
  have := wtext_c w [97, 98] h (by decide)
  rw [tab] at this
  exact this
set_option maxRecDepth 100000 in
set_option maxHeartbeats 8000000 in
theorem live_c {W : World} {F : Snap} {cs : List Res} (w : World) (h : St W F cs w) : Calls Try.prog 9 #[] w fun r w' => r = .returned (.bool true) ∧ St W F cs w'  := by
  refine enter (P := Try.prog) (args := []) Try.func9 rfl rfl rfl ?_
  refine WC.seq ?_
  refine WC.reg ?_
  refine WL.v (Runs.assign rfl) rfl ?_
  refine WL.nil ?_
  refine WN.thn ?_
  refine WC.seq ?_
  refine WC.reg ?_
  refine WL.v (Runs.build (vs := [(0, Vi 2), (1, Vi (-1)), (2, Vi 3), (3, Vi 300), (7, .string (bs [97, 98]))]) (cells := #[Vi 2, Vi (-1), Vi 3, Vi 300, Vi 0, Vi 0, Vi 0, .string (bs [97, 98])]) rfl (by kernel_rfl)) rfl ?_
  refine WL.alloc' rfl h inf24 ?_
  intro b1 w1 h1
  refine WL.storeAll h1 0 rfl rfl rfl inf24 rfl rfl rfl (Free.zero _) ?_
  intro  w2 h2
  try simp only [List.set_cons_zero, List.set_cons_succ, List.eraseIdx_cons_zero, List.eraseIdx_cons_succ] at h2
  refine WL.nil ?_
  refine WN.thn ?_
  refine WC.seq ?_
  refine WC.reg ?_
  refine WL.v (Runs.loadAll h2 0 rfl Try.underlying24 rfl inf24 rfl rfl) rfl ?_
  refine WL.call can16 rfl rfl (lv_enc _ h2) ?_
  rintro _ w3 ⟨rfl, h3⟩
  refine ⟨_, rfl, ?_⟩
  refine WL.v (Runs.assign rfl) rfl ?_
  refine WL.nil ?_
  refine WN.thn ?_
  refine WC.seq ?_
  refine WC.reg ?_
  refine WL.v (Runs.move rfl) rfl ?_
  refine WL.call can18 rfl rfl (lv_d0 _ h3) ?_
  rintro _ w4 ⟨rfl, h4⟩
  refine ⟨_, rfl, ?_⟩
  refine WL.v (Runs.move rfl) rfl ?_
  refine WL.v (Runs.extract rfl rfl) rfl ?_
  refine WL.v (Runs.extract rfl rfl) rfl ?_
  refine WL.alloc' rfl h4 inf24 ?_
  intro b3 w5 h5
  refine WL.storeAll h5 0 rfl rfl rfl inf24 rfl rfl rfl (Free.zero _) ?_
  intro  w6 h6
  try simp only [List.set_cons_zero, List.set_cons_succ, List.eraseIdx_cons_zero, List.eraseIdx_cons_succ] at h6
  refine WL.v (Runs.assign rfl) rfl ?_
  refine WL.nil ?_
  refine WN.thn ?_
  refine WC.seq ?_
  refine WC.reg ?_
  refine WL.v (Runs.move rfl) rfl ?_
  refine WL.v (Runs.lsadd (a := [1, 2, 0, 1, 4, 2, 1, 44, 0, 0, 0, 1, 2, 97, 98]) (b := [120]) rfl rfl (by decide)) rfl ?_
  refine WL.call can18 rfl rfl (lv_d1 _ h6) ?_
  rintro _ w7 ⟨rfl, h7⟩
  refine ⟨_, rfl, ?_⟩
  refine WL.v (Runs.move rfl) rfl ?_
  refine WL.v (Runs.extract rfl rfl) rfl ?_
  refine WL.v (Runs.extract rfl rfl) rfl ?_
  refine WL.alloc' rfl h7 inf24 ?_
  intro b5 w8 h8
  refine WL.storeAll h8 0 rfl rfl rfl inf24 rfl rfl rfl (Free.zero _) ?_
  intro  w9 h9
  try simp only [List.set_cons_zero, List.set_cons_succ, List.eraseIdx_cons_zero, List.eraseIdx_cons_succ] at h9
  refine WL.v (Runs.assign rfl) rfl ?_
  refine WL.nil ?_
  refine WN.thn ?_
  refine WC.seq ?_
  refine WC.reg ?_
  refine WL.call can18 rfl rfl (lv_d2 _ h9) ?_
  rintro _ w10 ⟨rfl, h10⟩
  refine ⟨_, rfl, ?_⟩
  refine WL.v (Runs.move rfl) rfl ?_
  refine WL.v (Runs.extract rfl rfl) rfl ?_
  refine WL.v (Runs.extract rfl rfl) rfl ?_
  refine WL.alloc' rfl h10 inf24 ?_
  intro b7 w11 h11
  refine WL.storeAll h11 0 rfl rfl rfl inf24 rfl rfl rfl (Free.zero _) ?_
  intro  w12 h12
  try simp only [List.set_cons_zero, List.set_cons_succ, List.eraseIdx_cons_zero, List.eraseIdx_cons_succ] at h12
  refine WL.v (Runs.assign rfl) rfl ?_
  refine WL.nil ?_
  refine WN.thn ?_
  refine WC.seq ?_
  refine WC.reg ?_
  refine WL.call can18 rfl rfl (lv_d3 _ h12) ?_
  rintro _ w13 ⟨rfl, h13⟩
  refine ⟨_, rfl, ?_⟩
  refine WL.v (Runs.move rfl) rfl ?_
  refine WL.v (Runs.extract rfl rfl) rfl ?_
  refine WL.v (Runs.extract rfl rfl) rfl ?_
  refine WL.alloc' rfl h13 inf24 ?_
  intro b9 w14 h14
  refine WL.storeAll h14 0 rfl rfl rfl inf24 rfl rfl rfl (Free.zero _) ?_
  intro  w15 h15
  try simp only [List.set_cons_zero, List.set_cons_succ, List.eraseIdx_cons_zero, List.eraseIdx_cons_succ] at h15
  refine WL.v (Runs.assign rfl) rfl ?_
  refine WL.nil ?_
  refine WN.thn ?_
  refine WC.seq ?_
  refine WC.reg ?_
  refine WL.call can10 rfl rfl (lv_n300 _ h15) ?_
  rintro _ w16 ⟨rfl, h16⟩
  refine ⟨_, rfl, ?_⟩
  refine WL.v (Runs.boolT (c := true) (Runs.lseql (a := [2, 1, 44]) (b := [2, 1, 44]) rfl rfl) (by decide)) rfl ?_
  refine WL.v (Runs.move rfl) rfl ?_
  refine WL.gon rfl rfl rfl ?_
  refine WL.call can10 rfl rfl (lv_n0 _ h16) ?_
  rintro _ w17 ⟨rfl, h17⟩
  refine ⟨_, rfl, ?_⟩
  refine WL.gon rfl rfl rfl ?_
  refine WL.v (Runs.boolT (c := true) (Runs.lseql (a := [0]) (b := [0]) rfl rfl) (by decide)) rfl ?_
  refine WL.v (Runs.pick rfl rfl rfl) rfl ?_
  refine WL.v (Runs.move rfl) rfl ?_
  refine WL.gon rfl rfl rfl ?_
  refine WL.call can12 rfl rfl (lv_t _ h17) ?_
  rintro _ w18 ⟨rfl, h18⟩
  refine ⟨_, rfl, ?_⟩
  refine WL.gon rfl rfl rfl ?_
  refine WL.v (Runs.boolT (c := true) (Runs.lseql (a := [1, 2, 97, 98]) (b := [1, 2, 97, 98]) rfl rfl) (by decide)) rfl ?_
  refine WL.v (Runs.pick rfl rfl rfl) rfl ?_
  refine WL.v (Runs.move rfl) rfl ?_
  refine WL.gon rfl rfl rfl ?_
  refine WL.lit (vs := (([1, 0] : List Int)).map Vi) h18 rfl Try.underlying22 inf3 rfl rfl rfl rfl rfl ?_
  intro lit44 w19 h19
  obtain ⟨G, gl, g2, g3⟩ := St.litRd (f := Vi) (xs := [1, 0]) h19
  refine WL.gon rfl rfl rfl ?_
  refine WL.call can14 rfl rfl (wlist_c (A := some ⟨lit44, 0, none⟩) (cap := 2) (xs := [1, 0]) _ g3 g2 (by simp)) ?_
  rintro _ wl ⟨rfl, hl⟩
  refine ⟨_, rfl, ?_⟩
  refine WL.gon rfl rfl rfl ?_
  refine WL.v (Runs.boolT (c := true) (Runs.lseql (a := listB [1, 0]) (b := [1, 2, 1, 1, 0]) rfl rfl) (by rw [l10]; decide)) rfl ?_
  refine WL.v (Runs.pick rfl rfl rfl) rfl ?_
  refine WL.v (Runs.move rfl) rfl ?_
  refine WL.gon rfl rfl rfl ?_
  refine WL.v (Runs.loadAll hl 3 rfl Try.underlying24 rfl inf24 rfl rfl) rfl ?_
  refine WL.gon rfl rfl rfl ?_
  refine WL.v (Runs.loadAll hl 4 rfl Try.underlying24 rfl inf24 rfl rfl) rfl ?_
  refine WL.gon rfl rfl rfl ?_
  refine WL.v (Runs.boolT (c := true) (Runs.aeql (by kernel_rfl) rfl rfl (eqM _ mL mL)) (by decide)) rfl ?_
  refine WL.v (Runs.pick rfl rfl rfl) rfl ?_
  refine WL.v (Runs.move rfl) rfl ?_
  refine WL.gon rfl rfl rfl ?_
  refine WL.v (Runs.move rfl) rfl ?_
  refine WL.gon rfl rfl rfl ?_
  refine WL.v (Runs.boolT (c := true) (Runs.eql rfl rfl) (by decide)) rfl ?_
  refine WL.v (Runs.pick rfl rfl rfl) rfl ?_
  refine WL.v (Runs.move rfl) rfl ?_
  refine WL.gon rfl rfl rfl ?_
  refine WL.v (Runs.move rfl) rfl ?_
  refine WL.gon rfl rfl rfl ?_
  refine WL.v (Runs.boolT (c := true) (Runs.eql rfl rfl) (by decide)) rfl ?_
  refine WL.v (Runs.pick rfl rfl rfl) rfl ?_
  refine WL.v (Runs.move rfl) rfl ?_
  refine WL.gon rfl rfl rfl ?_
  refine WL.v (Runs.move rfl) rfl ?_
  refine WL.gon rfl rfl rfl ?_
  refine WL.v (Runs.boolT (c := true) (Runs.eql rfl rfl) (by decide)) rfl ?_
  refine WL.v (Runs.pick rfl rfl rfl) rfl ?_
  refine WL.v (Runs.move rfl) rfl ?_
  refine WL.gon rfl rfl rfl ?_
  refine WL.v (Runs.move rfl) rfl ?_
  refine WL.gon rfl rfl rfl ?_
  refine WL.v (Runs.boolT (c := true) (Runs.eql rfl rfl) (by decide)) rfl ?_
  refine WL.v (Runs.pick rfl rfl rfl) rfl ?_
  refine WL.v (Runs.move rfl) rfl ?_
  refine WL.gon rfl rfl rfl ?_
  refine WL.call can10 rfl rfl (lv_nm _ hl) ?_
  rintro _ w20 ⟨rfl, h20⟩
  refine ⟨_, rfl, ?_⟩
  refine WL.gon rfl rfl rfl ?_
  refine WL.v (Runs.boolT (c := true) (Runs.lseql (a := []) (b := []) rfl rfl) (by decide)) rfl ?_
  refine WL.v (Runs.pick rfl rfl rfl) rfl ?_
  refine WL.v (Runs.assign rfl) rfl ?_
  refine WL.nil ?_
  refine WN.thn ?_
  refine WC.ret ?_
  exact ret1 rfl rfl ⟨rfl, ((((((h20.drop 0).drop 0).drop 0).drop 0).drop 0)).weak gl⟩
end Wir
end Go.Proofs.Ytfiknofmniiehaa
