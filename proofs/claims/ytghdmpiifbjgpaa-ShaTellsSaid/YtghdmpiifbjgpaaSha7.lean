/- The laws of chapter 01 that need no reference: sizes and bits. -/
import Derived.Test.YtghdmpiifbjgpaaBaseJ
import Derived.Test.YtghdmpiifbjgpaaSha6
namespace Go.Proofs.Ytghdmpiifbjgpaa
open Go Go.RowKit B
set_option linter.unusedVariables false
set_option linter.unusedSimpArgs false
namespace Sha
open ShaM (rotr Wd D8)


theorem hmac_len (k s : List UInt8) : (ShaM.hmac k s).length = 32 := by unfold ShaM.hmac; exact of_len _
theorem padded_zero (k : List UInt8) (b : UInt8) (h : k.length < 64) : ShaM.padded (k ++ [0]) b = ShaM.padded k b := by
  unfold ShaM.padded
  apply List.map_congr_left
  intro i hi
  congr 1
  simp only [List.getD_eq_getElem?_getD]
  rcases Nat.lt_trichotomy i k.length with h1 | h1 | h1
  · rw [List.getElem?_append_left h1]
  · subst h1; simp
  · rw [List.getElem?_eq_none (by simp; omega), List.getElem?_eq_none (by omega)]
theorem hmac_zero (k s : List UInt8) (h : k.length < 64) : ShaM.hmac (k ++ [0]) s = ShaM.hmac k s := by
  have h1 : ¬ (k ++ [0]).length > 64 := by rw [List.length_append]; show ¬ _ + 1 > 64; omega
  have h2 : ¬ k.length > 64 := by omega
  simp only [ShaM.hmac, if_neg h1, if_neg h2, padded_zero _ _ h]
theorem hmac_of (k s : List UInt8) (h : 64 < k.length) : ShaM.hmac (ShaM.of k) s = ShaM.hmac k s := by
  have h1 : ¬ (ShaM.of k).length > 64 := by rw [of_len]; omega
  simp only [ShaM.hmac, if_neg h1, if_pos h]
theorem hex_app (a b : List UInt8) : ShaM.hex (a ++ b) = ShaM.hex a ++ ShaM.hex b := by simp [ShaM.hex]
theorem mk_app (a b : List UInt8) : (⟨(a ++ b).toArray⟩ : ByteArray) = ⟨a.toArray⟩ ++ ⟨b.toArray⟩ := by
  apply string_ext; rw [dl_app]
set_option maxRecDepth 100000 in
set_option maxHeartbeats 1000000 in
theorem sizes_1 {W : World} {F : Snap} {cs : List Res} (w : World) (key : ByteArray) (s : ByteArray) (h : St W F cs w) (hb : 200 < s.size) : Calls Try.prog 6 #[.string key, .string s] w fun e w' => e = .returned (.bool true) ∧ St W F cs w'  := by
  refine enter (P := Try.prog) (args := [.string key, .string s]) Try.func6 rfl rfl rfl ?_
  refine WC.seq ?_
  refine WC.reg ?_
  refine WL.v (Runs.assign rfl) rfl ?_
  refine WL.nil ?_
  refine WN.thn ?_
  refine WC.seq ?_
  refine WC.seq ?_
  refine WC.reg ?_
  refine WL.v (Runs.move rfl) rfl ?_
  refine WL.v (Runs.slen Try.underlying9 rfl rfl) rfl ?_
  refine WL.v (Runs.boolT (c := true) (Runs.gtr rfl rfl) (by first | (rw [decide_eq_true_eq]; omega) | (rw [decide_eq_false_iff_not]; omega) | (simp [size_mk, hex_len, of_len, hmac_len]; done) | (simp [size_mk, hex_len, of_len, hmac_len]; omega))) rfl ?_
  refine WL.v (Runs.move rfl) rfl ?_
  refine WL.goff rfl rfl rfl rfl ?_
  refine WL.goff rfl rfl rfl rfl ?_
  refine WL.goff rfl rfl rfl rfl ?_
  refine WL.v (Runs.pick rfl rfl rfl) rfl ?_
  refine WL.nil ?_
  refine WN.thn ?_
  refine WC.condT rfl (rfl) ?_
  refine WC.seq ?_
  refine WC.reg ?_
  refine WL.call can8 rfl rfl (live_c _ h) ?_
  rintro _ w1 ⟨rfl, h1⟩
  refine ⟨_, rfl, ?_⟩
  refine WL.v (Runs.assign rfl) rfl ?_
  refine WL.nil ?_
  refine WN.thn ?_
  refine WC.ret ?_
  exact ret1 rfl rfl ⟨rfl, h1⟩
set_option maxRecDepth 100000 in
set_option maxHeartbeats 1000000 in
theorem sizes_2 {W : World} {F : Snap} {cs : List Res} (w : World) (key : ByteArray) (s : ByteArray) (h : St W F cs w) (hs : s.size ≤ 200) (hb : 200 < key.size) : Calls Try.prog 6 #[.string key, .string s] w fun e w' => e = .returned (.bool true) ∧ St W F cs w'  := by
  refine enter (P := Try.prog) (args := [.string key, .string s]) Try.func6 rfl rfl rfl ?_
  refine WC.seq ?_
  refine WC.reg ?_
  refine WL.v (Runs.assign rfl) rfl ?_
  refine WL.nil ?_
  refine WN.thn ?_
  refine WC.seq ?_
  refine WC.seq ?_
  refine WC.reg ?_
  refine WL.v (Runs.move rfl) rfl ?_
  refine WL.v (Runs.slen Try.underlying9 rfl rfl) rfl ?_
  refine WL.v (Runs.boolT (c := false) (Runs.gtr rfl rfl) (by first | (rw [decide_eq_true_eq]; omega) | (rw [decide_eq_false_iff_not]; omega) | (simp [size_mk, hex_len, of_len, hmac_len]; done) | (simp [size_mk, hex_len, of_len, hmac_len]; omega))) rfl ?_
  refine WL.v (Runs.move rfl) rfl ?_
  refine WL.gon rfl rfl rfl ?_
  refine WL.v (Runs.move rfl) rfl ?_
  refine WL.gon rfl rfl rfl ?_
  refine WL.v (Runs.slen Try.underlying9 rfl rfl) rfl ?_
  refine WL.gon rfl rfl rfl ?_
  refine WL.v (Runs.boolT (c := true) (Runs.gtr rfl rfl) (by first | (rw [decide_eq_true_eq]; omega) | (rw [decide_eq_false_iff_not]; omega) | (simp [size_mk, hex_len, of_len, hmac_len]; done) | (simp [size_mk, hex_len, of_len, hmac_len]; omega))) rfl ?_
  refine WL.v (Runs.pick rfl rfl rfl) rfl ?_
  refine WL.nil ?_
  refine WN.thn ?_
  refine WC.condT rfl (rfl) ?_
  refine WC.seq ?_
  refine WC.reg ?_
  refine WL.call can8 rfl rfl (live_c _ h) ?_
  rintro _ w1 ⟨rfl, h1⟩
  refine ⟨_, rfl, ?_⟩
  refine WL.v (Runs.assign rfl) rfl ?_
  refine WL.nil ?_
  refine WN.thn ?_
  refine WC.ret ?_
  exact ret1 rfl rfl ⟨rfl, h1⟩
set_option maxRecDepth 100000 in
set_option maxHeartbeats 1000000 in
theorem sizes_3 {W : World} {F : Snap} {cs : List Res} (w : World) (key : ByteArray) (s : ByteArray) (h : St W F cs w) (hs : s.size ≤ 200) (hk : key.size ≤ 200) (hb : key.size < 64) : Calls Try.prog 6 #[.string key, .string s] w fun e w' => e = .returned (.bool true) ∧ St W F cs w'  := by
  refine enter (P := Try.prog) (args := [.string key, .string s]) Try.func6 rfl rfl rfl ?_
  refine WC.seq ?_
  refine WC.reg ?_
  refine WL.v (Runs.assign rfl) rfl ?_
  refine WL.nil ?_
  refine WN.thn ?_
  refine WC.seq ?_
  refine WC.seq ?_
  refine WC.reg ?_
  refine WL.v (Runs.move rfl) rfl ?_
  refine WL.v (Runs.slen Try.underlying9 rfl rfl) rfl ?_
  refine WL.v (Runs.boolT (c := false) (Runs.gtr rfl rfl) (by first | (rw [decide_eq_true_eq]; omega) | (rw [decide_eq_false_iff_not]; omega) | (simp [size_mk, hex_len, of_len, hmac_len]; done) | (simp [size_mk, hex_len, of_len, hmac_len]; omega))) rfl ?_
  refine WL.v (Runs.move rfl) rfl ?_
  refine WL.gon rfl rfl rfl ?_
  refine WL.v (Runs.move rfl) rfl ?_
  refine WL.gon rfl rfl rfl ?_
  refine WL.v (Runs.slen Try.underlying9 rfl rfl) rfl ?_
  refine WL.gon rfl rfl rfl ?_
  refine WL.v (Runs.boolT (c := false) (Runs.gtr rfl rfl) (by first | (rw [decide_eq_true_eq]; omega) | (rw [decide_eq_false_iff_not]; omega) | (simp [size_mk, hex_len, of_len, hmac_len]; done) | (simp [size_mk, hex_len, of_len, hmac_len]; omega))) rfl ?_
  refine WL.v (Runs.pick rfl rfl rfl) rfl ?_
  refine WL.nil ?_
  refine WN.thn ?_
  refine WC.condF rfl (rfl) ?_
  refine WC.skip ?_
  refine WN.thn ?_
  refine WC.seq ?_
  refine WC.reg ?_
  refine WL.v (Runs.move rfl) rfl ?_
  refine WL.v (Runs.move rfl) rfl ?_
  refine WL.call can13 rfl rfl (hmac_c _ _ _ h (by first | decide | omega | (simp [ByteArray.size_append, padded_len, of_len, hex_len, hmac_len, size_mk]; done) | (simp [ByteArray.size_append, padded_len, of_len, hex_len, hmac_len, size_mk]; omega)) (by first | decide | omega | (simp [ByteArray.size_append, padded_len, of_len, hex_len, hmac_len, size_mk]; done) | (simp [ByteArray.size_append, padded_len, of_len, hex_len, hmac_len, size_mk]; omega))) ?_
  rintro _ w1 ⟨rfl, h1⟩
  refine ⟨_, rfl, ?_⟩
  refine WL.v (Runs.assign rfl) rfl ?_
  refine WL.nil ?_
  refine WN.thn ?_
  refine WC.seq ?_
  refine WC.seq ?_
  refine WC.reg ?_
  refine WL.v (Runs.move rfl) rfl ?_
  refine WL.call can9 rfl rfl (of_c _ _ h1 (by first | decide | omega | (simp [ByteArray.size_append, padded_len, of_len, hex_len, hmac_len, size_mk]; done) | (simp [ByteArray.size_append, padded_len, of_len, hex_len, hmac_len, size_mk]; omega))) ?_
  rintro _ w2 ⟨rfl, h2⟩
  refine ⟨_, rfl, ?_⟩
  refine WL.v (Runs.slen Try.underlying9 rfl rfl) rfl ?_
  refine WL.v (Runs.boolT (c := false) (Runs.neq rfl rfl) (by first | (rw [decide_eq_true_eq]; omega) | (rw [decide_eq_false_iff_not]; omega) | (simp [size_mk, hex_len, of_len, hmac_len]; done) | (simp [size_mk, hex_len, of_len, hmac_len]; omega))) rfl ?_
  refine WL.v (Runs.move rfl) rfl ?_
  refine WL.gon rfl rfl rfl ?_
  refine WL.v (Runs.move rfl) rfl ?_
  refine WL.gon rfl rfl rfl ?_
  refine WL.v (Runs.slen Try.underlying9 rfl rfl) rfl ?_
  refine WL.gon rfl rfl rfl ?_
  refine WL.v (Runs.boolT (c := false) (Runs.neq rfl rfl) (by first | (rw [decide_eq_true_eq]; omega) | (rw [decide_eq_false_iff_not]; omega) | (simp [size_mk, hex_len, of_len, hmac_len]; done) | (simp [size_mk, hex_len, of_len, hmac_len]; omega))) rfl ?_
  refine WL.v (Runs.pick rfl rfl rfl) rfl ?_
  refine WL.v (Runs.move rfl) rfl ?_
  refine WL.gon rfl rfl rfl ?_
  refine WL.v (Runs.move rfl) rfl ?_
  refine WL.gon rfl rfl rfl ?_
  refine WL.call can11 rfl rfl (hex_c _ _ h2 (by first | decide | omega | (simp [ByteArray.size_append, padded_len, of_len, hex_len, hmac_len, size_mk]; done) | (simp [ByteArray.size_append, padded_len, of_len, hex_len, hmac_len, size_mk]; omega))) ?_
  rintro _ w3 ⟨rfl, h3⟩
  refine ⟨_, rfl, ?_⟩
  refine WL.gon rfl rfl rfl ?_
  refine WL.v (Runs.slen Try.underlying9 rfl rfl) rfl ?_
  refine WL.gon rfl rfl rfl ?_
  refine WL.v (Runs.boolT (c := false) (Runs.neq rfl rfl) (by first | (rw [decide_eq_true_eq]; omega) | (rw [decide_eq_false_iff_not]; omega) | (simp [size_mk, hex_len, of_len, hmac_len]; done) | (simp [size_mk, hex_len, of_len, hmac_len]; omega))) rfl ?_
  refine WL.v (Runs.pick rfl rfl rfl) rfl ?_
  refine WL.nil ?_
  refine WN.thn ?_
  refine WC.condF rfl (rfl) ?_
  refine WC.skip ?_
  refine WN.thn ?_
  refine WC.seq ?_
  refine WC.seq ?_
  refine WC.reg ?_
  refine WL.v (Runs.move rfl) rfl ?_
  refine WL.v (Runs.slen Try.underlying9 rfl rfl) rfl ?_
  refine WL.v (Runs.boolT (c := true) (Runs.lss rfl rfl) (by first | (rw [decide_eq_true_eq]; omega) | (rw [decide_eq_false_iff_not]; omega) | (simp [size_mk, hex_len, of_len, hmac_len]; done) | (simp [size_mk, hex_len, of_len, hmac_len]; omega))) rfl ?_
  refine WL.nil ?_
  refine WN.thn ?_
  refine WC.condT rfl (rfl) ?_
  refine WC.seq ?_
  refine WC.reg ?_
  refine WL.v (Runs.move rfl) rfl ?_
  refine WL.v (Runs.sadd rfl rfl (by show _ + 1 ≤ _; omega)) rfl ?_
  refine WL.v (Runs.move rfl) rfl ?_
  refine WL.call can13 rfl rfl (hmac_c _ _ _ h3 (by rw [ByteArray.size_append]; show _ + 1 ≤ _; omega) (by omega)) ?_
  rintro _ w4 ⟨rfl, h4⟩
  refine ⟨_, rfl, ?_⟩
  refine WL.v (Runs.move rfl) rfl ?_
  refine WL.v (Runs.boolT (c := true) (Runs.seql rfl rfl) (by rw [decide_eq_true_eq, dl_app]; exact congrArg (fun l : List UInt8 => (⟨l.toArray⟩ : ByteArray)) (hmac_zero _ _ (by simp; omega)))) rfl ?_
  refine WL.v (Runs.move rfl) rfl ?_
  refine WL.gon rfl rfl rfl ?_
  refine WL.call can8 rfl rfl (live_c _ h4) ?_
  rintro _ w5 ⟨rfl, h5⟩
  refine ⟨_, rfl, ?_⟩
  refine WL.v (Runs.pick rfl rfl rfl) rfl ?_
  refine WL.v (Runs.assign rfl) rfl ?_
  refine WL.nil ?_
  refine WN.thn ?_
  refine WC.ret ?_
  exact ret1 rfl rfl ⟨rfl, h5⟩
set_option maxRecDepth 100000 in
set_option maxHeartbeats 1000000 in
theorem sizes_4 {W : World} {F : Snap} {cs : List Res} (w : World) (key : ByteArray) (s : ByteArray) (h : St W F cs w) (hs : s.size ≤ 200) (hk : key.size ≤ 200) (hb : key.size = 64) : Calls Try.prog 6 #[.string key, .string s] w fun e w' => e = .returned (.bool true) ∧ St W F cs w'  := by
  refine enter (P := Try.prog) (args := [.string key, .string s]) Try.func6 rfl rfl rfl ?_
  refine WC.seq ?_
  refine WC.reg ?_
  refine WL.v (Runs.assign rfl) rfl ?_
  refine WL.nil ?_
  refine WN.thn ?_
  refine WC.seq ?_
  refine WC.seq ?_
  refine WC.reg ?_
  refine WL.v (Runs.move rfl) rfl ?_
  refine WL.v (Runs.slen Try.underlying9 rfl rfl) rfl ?_
  refine WL.v (Runs.boolT (c := false) (Runs.gtr rfl rfl) (by first | (rw [decide_eq_true_eq]; omega) | (rw [decide_eq_false_iff_not]; omega) | (simp [size_mk, hex_len, of_len, hmac_len]; done) | (simp [size_mk, hex_len, of_len, hmac_len]; omega))) rfl ?_
  refine WL.v (Runs.move rfl) rfl ?_
  refine WL.gon rfl rfl rfl ?_
  refine WL.v (Runs.move rfl) rfl ?_
  refine WL.gon rfl rfl rfl ?_
  refine WL.v (Runs.slen Try.underlying9 rfl rfl) rfl ?_
  refine WL.gon rfl rfl rfl ?_
  refine WL.v (Runs.boolT (c := false) (Runs.gtr rfl rfl) (by first | (rw [decide_eq_true_eq]; omega) | (rw [decide_eq_false_iff_not]; omega) | (simp [size_mk, hex_len, of_len, hmac_len]; done) | (simp [size_mk, hex_len, of_len, hmac_len]; omega))) rfl ?_
  refine WL.v (Runs.pick rfl rfl rfl) rfl ?_
  refine WL.nil ?_
  refine WN.thn ?_
  refine WC.condF rfl (rfl) ?_
  refine WC.skip ?_
  refine WN.thn ?_
  refine WC.seq ?_
  refine WC.reg ?_
  refine WL.v (Runs.move rfl) rfl ?_
  refine WL.v (Runs.move rfl) rfl ?_
  refine WL.call can13 rfl rfl (hmac_c _ _ _ h (by first | decide | omega | (simp [ByteArray.size_append, padded_len, of_len, hex_len, hmac_len, size_mk]; done) | (simp [ByteArray.size_append, padded_len, of_len, hex_len, hmac_len, size_mk]; omega)) (by first | decide | omega | (simp [ByteArray.size_append, padded_len, of_len, hex_len, hmac_len, size_mk]; done) | (simp [ByteArray.size_append, padded_len, of_len, hex_len, hmac_len, size_mk]; omega))) ?_
  rintro _ w1 ⟨rfl, h1⟩
  refine ⟨_, rfl, ?_⟩
  refine WL.v (Runs.assign rfl) rfl ?_
  refine WL.nil ?_
  refine WN.thn ?_
  refine WC.seq ?_
  refine WC.seq ?_
  refine WC.reg ?_
  refine WL.v (Runs.move rfl) rfl ?_
  refine WL.call can9 rfl rfl (of_c _ _ h1 (by first | decide | omega | (simp [ByteArray.size_append, padded_len, of_len, hex_len, hmac_len, size_mk]; done) | (simp [ByteArray.size_append, padded_len, of_len, hex_len, hmac_len, size_mk]; omega))) ?_
  rintro _ w2 ⟨rfl, h2⟩
  refine ⟨_, rfl, ?_⟩
  refine WL.v (Runs.slen Try.underlying9 rfl rfl) rfl ?_
  refine WL.v (Runs.boolT (c := false) (Runs.neq rfl rfl) (by first | (rw [decide_eq_true_eq]; omega) | (rw [decide_eq_false_iff_not]; omega) | (simp [size_mk, hex_len, of_len, hmac_len]; done) | (simp [size_mk, hex_len, of_len, hmac_len]; omega))) rfl ?_
  refine WL.v (Runs.move rfl) rfl ?_
  refine WL.gon rfl rfl rfl ?_
  refine WL.v (Runs.move rfl) rfl ?_
  refine WL.gon rfl rfl rfl ?_
  refine WL.v (Runs.slen Try.underlying9 rfl rfl) rfl ?_
  refine WL.gon rfl rfl rfl ?_
  refine WL.v (Runs.boolT (c := false) (Runs.neq rfl rfl) (by first | (rw [decide_eq_true_eq]; omega) | (rw [decide_eq_false_iff_not]; omega) | (simp [size_mk, hex_len, of_len, hmac_len]; done) | (simp [size_mk, hex_len, of_len, hmac_len]; omega))) rfl ?_
  refine WL.v (Runs.pick rfl rfl rfl) rfl ?_
  refine WL.v (Runs.move rfl) rfl ?_
  refine WL.gon rfl rfl rfl ?_
  refine WL.v (Runs.move rfl) rfl ?_
  refine WL.gon rfl rfl rfl ?_
  refine WL.call can11 rfl rfl (hex_c _ _ h2 (by first | decide | omega | (simp [ByteArray.size_append, padded_len, of_len, hex_len, hmac_len, size_mk]; done) | (simp [ByteArray.size_append, padded_len, of_len, hex_len, hmac_len, size_mk]; omega))) ?_
  rintro _ w3 ⟨rfl, h3⟩
  refine ⟨_, rfl, ?_⟩
  refine WL.gon rfl rfl rfl ?_
  refine WL.v (Runs.slen Try.underlying9 rfl rfl) rfl ?_
  refine WL.gon rfl rfl rfl ?_
  refine WL.v (Runs.boolT (c := false) (Runs.neq rfl rfl) (by first | (rw [decide_eq_true_eq]; omega) | (rw [decide_eq_false_iff_not]; omega) | (simp [size_mk, hex_len, of_len, hmac_len]; done) | (simp [size_mk, hex_len, of_len, hmac_len]; omega))) rfl ?_
  refine WL.v (Runs.pick rfl rfl rfl) rfl ?_
  refine WL.nil ?_
  refine WN.thn ?_
  refine WC.condF rfl (rfl) ?_
  refine WC.skip ?_
  refine WN.thn ?_
  refine WC.seq ?_
  refine WC.seq ?_
  refine WC.reg ?_
  refine WL.v (Runs.move rfl) rfl ?_
  refine WL.v (Runs.slen Try.underlying9 rfl rfl) rfl ?_
  refine WL.v (Runs.boolT (c := false) (Runs.lss rfl rfl) (by first | (rw [decide_eq_true_eq]; omega) | (rw [decide_eq_false_iff_not]; omega) | (simp [size_mk, hex_len, of_len, hmac_len]; done) | (simp [size_mk, hex_len, of_len, hmac_len]; omega))) rfl ?_
  refine WL.nil ?_
  refine WN.thn ?_
  refine WC.condF rfl (rfl) ?_
  refine WC.skip ?_
  refine WN.thn ?_
  refine WC.seq ?_
  refine WC.reg ?_
  refine WL.v (Runs.move rfl) rfl ?_
  refine WL.v (Runs.slen Try.underlying9 rfl rfl) rfl ?_
  refine WL.v (Runs.boolT (c := true) (Runs.eql rfl rfl) (by first | (rw [decide_eq_true_eq]; omega) | (rw [decide_eq_false_iff_not]; omega) | (simp [size_mk, hex_len, of_len, hmac_len]; done) | (simp [size_mk, hex_len, of_len, hmac_len]; omega))) rfl ?_
  refine WL.v (Runs.move rfl) rfl ?_
  refine WL.goff rfl rfl rfl rfl ?_
  refine WL.goff rfl rfl rfl rfl ?_
  refine WL.goff rfl rfl rfl rfl ?_
  refine WL.goff rfl rfl rfl rfl ?_
  refine WL.goff rfl rfl rfl rfl ?_
  refine WL.goff rfl rfl rfl rfl ?_
  refine WL.v (Runs.pick rfl rfl rfl) rfl ?_
  refine WL.v (Runs.move rfl) rfl ?_
  refine WL.gon rfl rfl rfl ?_
  refine WL.call can8 rfl rfl (live_c _ h3) ?_
  rintro _ w4 ⟨rfl, h4⟩
  refine ⟨_, rfl, ?_⟩
  refine WL.v (Runs.pick rfl rfl rfl) rfl ?_
  refine WL.v (Runs.assign rfl) rfl ?_
  refine WL.nil ?_
  refine WN.thn ?_
  refine WC.ret ?_
  exact ret1 rfl rfl ⟨rfl, h4⟩
set_option maxRecDepth 100000 in
set_option maxHeartbeats 1000000 in
theorem sizes_5 {W : World} {F : Snap} {cs : List Res} (w : World) (key : ByteArray) (s : ByteArray) (h : St W F cs w) (hs : s.size ≤ 200) (hk : key.size ≤ 200) (hb : 64 < key.size) : Calls Try.prog 6 #[.string key, .string s] w fun e w' => e = .returned (.bool true) ∧ St W F cs w'  := by
  refine enter (P := Try.prog) (args := [.string key, .string s]) Try.func6 rfl rfl rfl ?_
  refine WC.seq ?_
  refine WC.reg ?_
  refine WL.v (Runs.assign rfl) rfl ?_
  refine WL.nil ?_
  refine WN.thn ?_
  refine WC.seq ?_
  refine WC.seq ?_
  refine WC.reg ?_
  refine WL.v (Runs.move rfl) rfl ?_
  refine WL.v (Runs.slen Try.underlying9 rfl rfl) rfl ?_
  refine WL.v (Runs.boolT (c := false) (Runs.gtr rfl rfl) (by first | (rw [decide_eq_true_eq]; omega) | (rw [decide_eq_false_iff_not]; omega) | (simp [size_mk, hex_len, of_len, hmac_len]; done) | (simp [size_mk, hex_len, of_len, hmac_len]; omega))) rfl ?_
  refine WL.v (Runs.move rfl) rfl ?_
  refine WL.gon rfl rfl rfl ?_
  refine WL.v (Runs.move rfl) rfl ?_
  refine WL.gon rfl rfl rfl ?_
  refine WL.v (Runs.slen Try.underlying9 rfl rfl) rfl ?_
  refine WL.gon rfl rfl rfl ?_
  refine WL.v (Runs.boolT (c := false) (Runs.gtr rfl rfl) (by first | (rw [decide_eq_true_eq]; omega) | (rw [decide_eq_false_iff_not]; omega) | (simp [size_mk, hex_len, of_len, hmac_len]; done) | (simp [size_mk, hex_len, of_len, hmac_len]; omega))) rfl ?_
  refine WL.v (Runs.pick rfl rfl rfl) rfl ?_
  refine WL.nil ?_
  refine WN.thn ?_
  refine WC.condF rfl (rfl) ?_
  refine WC.skip ?_
  refine WN.thn ?_
  refine WC.seq ?_
  refine WC.reg ?_
  refine WL.v (Runs.move rfl) rfl ?_
  refine WL.v (Runs.move rfl) rfl ?_
  refine WL.call can13 rfl rfl (hmac_c _ _ _ h (by first | decide | omega | (simp [ByteArray.size_append, padded_len, of_len, hex_len, hmac_len, size_mk]; done) | (simp [ByteArray.size_append, padded_len, of_len, hex_len, hmac_len, size_mk]; omega)) (by first | decide | omega | (simp [ByteArray.size_append, padded_len, of_len, hex_len, hmac_len, size_mk]; done) | (simp [ByteArray.size_append, padded_len, of_len, hex_len, hmac_len, size_mk]; omega))) ?_
  rintro _ w1 ⟨rfl, h1⟩
  refine ⟨_, rfl, ?_⟩
  refine WL.v (Runs.assign rfl) rfl ?_
  refine WL.nil ?_
  refine WN.thn ?_
  refine WC.seq ?_
  refine WC.seq ?_
  refine WC.reg ?_
  refine WL.v (Runs.move rfl) rfl ?_
  refine WL.call can9 rfl rfl (of_c _ _ h1 (by first | decide | omega | (simp [ByteArray.size_append, padded_len, of_len, hex_len, hmac_len, size_mk]; done) | (simp [ByteArray.size_append, padded_len, of_len, hex_len, hmac_len, size_mk]; omega))) ?_
  rintro _ w2 ⟨rfl, h2⟩
  refine ⟨_, rfl, ?_⟩
  refine WL.v (Runs.slen Try.underlying9 rfl rfl) rfl ?_
  refine WL.v (Runs.boolT (c := false) (Runs.neq rfl rfl) (by first | (rw [decide_eq_true_eq]; omega) | (rw [decide_eq_false_iff_not]; omega) | (simp [size_mk, hex_len, of_len, hmac_len]; done) | (simp [size_mk, hex_len, of_len, hmac_len]; omega))) rfl ?_
  refine WL.v (Runs.move rfl) rfl ?_
  refine WL.gon rfl rfl rfl ?_
  refine WL.v (Runs.move rfl) rfl ?_
  refine WL.gon rfl rfl rfl ?_
  refine WL.v (Runs.slen Try.underlying9 rfl rfl) rfl ?_
  refine WL.gon rfl rfl rfl ?_
  refine WL.v (Runs.boolT (c := false) (Runs.neq rfl rfl) (by first | (rw [decide_eq_true_eq]; omega) | (rw [decide_eq_false_iff_not]; omega) | (simp [size_mk, hex_len, of_len, hmac_len]; done) | (simp [size_mk, hex_len, of_len, hmac_len]; omega))) rfl ?_
  refine WL.v (Runs.pick rfl rfl rfl) rfl ?_
  refine WL.v (Runs.move rfl) rfl ?_
  refine WL.gon rfl rfl rfl ?_
  refine WL.v (Runs.move rfl) rfl ?_
  refine WL.gon rfl rfl rfl ?_
  refine WL.call can11 rfl rfl (hex_c _ _ h2 (by first | decide | omega | (simp [ByteArray.size_append, padded_len, of_len, hex_len, hmac_len, size_mk]; done) | (simp [ByteArray.size_append, padded_len, of_len, hex_len, hmac_len, size_mk]; omega))) ?_
  rintro _ w3 ⟨rfl, h3⟩
  refine ⟨_, rfl, ?_⟩
  refine WL.gon rfl rfl rfl ?_
  refine WL.v (Runs.slen Try.underlying9 rfl rfl) rfl ?_
  refine WL.gon rfl rfl rfl ?_
  refine WL.v (Runs.boolT (c := false) (Runs.neq rfl rfl) (by first | (rw [decide_eq_true_eq]; omega) | (rw [decide_eq_false_iff_not]; omega) | (simp [size_mk, hex_len, of_len, hmac_len]; done) | (simp [size_mk, hex_len, of_len, hmac_len]; omega))) rfl ?_
  refine WL.v (Runs.pick rfl rfl rfl) rfl ?_
  refine WL.nil ?_
  refine WN.thn ?_
  refine WC.condF rfl (rfl) ?_
  refine WC.skip ?_
  refine WN.thn ?_
  refine WC.seq ?_
  refine WC.seq ?_
  refine WC.reg ?_
  refine WL.v (Runs.move rfl) rfl ?_
  refine WL.v (Runs.slen Try.underlying9 rfl rfl) rfl ?_
  refine WL.v (Runs.boolT (c := false) (Runs.lss rfl rfl) (by first | (rw [decide_eq_true_eq]; omega) | (rw [decide_eq_false_iff_not]; omega) | (simp [size_mk, hex_len, of_len, hmac_len]; done) | (simp [size_mk, hex_len, of_len, hmac_len]; omega))) rfl ?_
  refine WL.nil ?_
  refine WN.thn ?_
  refine WC.condF rfl (rfl) ?_
  refine WC.skip ?_
  refine WN.thn ?_
  refine WC.seq ?_
  refine WC.reg ?_
  refine WL.v (Runs.move rfl) rfl ?_
  refine WL.v (Runs.slen Try.underlying9 rfl rfl) rfl ?_
  refine WL.v (Runs.boolT (c := false) (Runs.eql rfl rfl) (by first | (rw [decide_eq_true_eq]; omega) | (rw [decide_eq_false_iff_not]; omega) | (simp [size_mk, hex_len, of_len, hmac_len]; done) | (simp [size_mk, hex_len, of_len, hmac_len]; omega))) rfl ?_
  refine WL.v (Runs.move rfl) rfl ?_
  refine WL.gon rfl rfl rfl ?_
  refine WL.v (Runs.move rfl) rfl ?_
  refine WL.gon rfl rfl rfl ?_
  refine WL.call can9 rfl rfl (of_c _ _ h3 (by first | decide | omega | (simp [ByteArray.size_append, padded_len, of_len, hex_len, hmac_len, size_mk]; done) | (simp [ByteArray.size_append, padded_len, of_len, hex_len, hmac_len, size_mk]; omega))) ?_
  rintro _ w4 ⟨rfl, h4⟩
  refine ⟨_, rfl, ?_⟩
  refine WL.gon rfl rfl rfl ?_
  refine WL.v (Runs.move rfl) rfl ?_
  refine WL.gon rfl rfl rfl ?_
  refine WL.call can13 rfl rfl (hmac_c _ _ _ h4 (by first | decide | omega | (simp [ByteArray.size_append, padded_len, of_len, hex_len, hmac_len, size_mk]; done) | (simp [ByteArray.size_append, padded_len, of_len, hex_len, hmac_len, size_mk]; omega)) (by first | decide | omega | (simp [ByteArray.size_append, padded_len, of_len, hex_len, hmac_len, size_mk]; done) | (simp [ByteArray.size_append, padded_len, of_len, hex_len, hmac_len, size_mk]; omega))) ?_
  rintro _ w5 ⟨rfl, h5⟩
  refine ⟨_, rfl, ?_⟩
  refine WL.gon rfl rfl rfl ?_
  refine WL.v (Runs.move rfl) rfl ?_
  refine WL.gon rfl rfl rfl ?_
  refine WL.v (Runs.boolT (c := true) (Runs.seql rfl rfl) (by rw [decide_eq_true_eq, dl_mk]; exact congrArg (fun l : List UInt8 => (⟨l.toArray⟩ : ByteArray)) (hmac_of _ _ (by simp; omega)))) rfl ?_
  refine WL.v (Runs.pick rfl rfl rfl) rfl ?_
  refine WL.v (Runs.move rfl) rfl ?_
  refine WL.gon rfl rfl rfl ?_
  refine WL.call can8 rfl rfl (live_c _ h5) ?_
  rintro _ w6 ⟨rfl, h6⟩
  refine ⟨_, rfl, ?_⟩
  refine WL.v (Runs.pick rfl rfl rfl) rfl ?_
  refine WL.v (Runs.assign rfl) rfl ?_
  refine WL.nil ?_
  refine WN.thn ?_
  refine WC.ret ?_
  exact ret1 rfl rfl ⟨rfl, h6⟩
theorem sizes_law {W : World} {F : Snap} {cs : List Res} (w : World) (key s : ByteArray) (h : St W F cs w) : Calls Try.prog 6 #[.string key, .string s] w fun e w' => e = .returned (.bool true) ∧ St W F cs w' := by
  by_cases h1 : 200 < s.size
  · exact sizes_1 w key s h h1
  · by_cases h2 : 200 < key.size
    · exact sizes_2 w key s h (by omega) h2
    · rcases Nat.lt_trichotomy key.size 64 with h3 | h3 | h3
      · exact sizes_3 w key s h (by omega) (by omega) h3
      · exact sizes_4 w key s h (by omega) (by omega) h3
      · exact sizes_5 w key s h (by omega) (by omega) h3
set_option maxRecDepth 100000 in
set_option maxHeartbeats 1000000 in
theorem bits_1 {W : World} {F : Snap} {cs : List Res} (w : World) (a : ByteArray) (b : ByteArray) (h : St W F cs w) (hb : 200 < a.size) : Calls Try.prog 7 #[.string a, .string b] w fun e w' => e = .returned (.bool true) ∧ St W F cs w'  := by
  refine enter (P := Try.prog) (args := [.string a, .string b]) Try.func7 rfl rfl rfl ?_
  refine WC.seq ?_
  refine WC.reg ?_
  refine WL.v (Runs.assign rfl) rfl ?_
  refine WL.nil ?_
  refine WN.thn ?_
  refine WC.seq ?_
  refine WC.seq ?_
  refine WC.reg ?_
  refine WL.v (Runs.move rfl) rfl ?_
  refine WL.v (Runs.slen Try.underlying9 rfl rfl) rfl ?_
  refine WL.v (Runs.boolT (c := true) (Runs.gtr rfl rfl) (by first | (rw [decide_eq_true_eq]; omega) | (rw [decide_eq_false_iff_not]; omega) | (simp [size_mk, hex_len, of_len, hmac_len]; done) | (simp [size_mk, hex_len, of_len, hmac_len]; omega))) rfl ?_
  refine WL.v (Runs.move rfl) rfl ?_
  refine WL.goff rfl rfl rfl rfl ?_
  refine WL.goff rfl rfl rfl rfl ?_
  refine WL.goff rfl rfl rfl rfl ?_
  refine WL.v (Runs.pick rfl rfl rfl) rfl ?_
  refine WL.nil ?_
  refine WN.thn ?_
  refine WC.condT rfl (rfl) ?_
  refine WC.seq ?_
  refine WC.reg ?_
  refine WL.call can8 rfl rfl (live_c _ h) ?_
  rintro _ w1 ⟨rfl, h1⟩
  refine ⟨_, rfl, ?_⟩
  refine WL.v (Runs.assign rfl) rfl ?_
  refine WL.nil ?_
  refine WN.thn ?_
  refine WC.ret ?_
  exact ret1 rfl rfl ⟨rfl, h1⟩
set_option maxRecDepth 100000 in
set_option maxHeartbeats 1000000 in
theorem bits_2 {W : World} {F : Snap} {cs : List Res} (w : World) (a : ByteArray) (b : ByteArray) (h : St W F cs w) (hs : a.size ≤ 200) (hb : 200 < b.size) : Calls Try.prog 7 #[.string a, .string b] w fun e w' => e = .returned (.bool true) ∧ St W F cs w'  := by
  refine enter (P := Try.prog) (args := [.string a, .string b]) Try.func7 rfl rfl rfl ?_
  refine WC.seq ?_
  refine WC.reg ?_
  refine WL.v (Runs.assign rfl) rfl ?_
  refine WL.nil ?_
  refine WN.thn ?_
  refine WC.seq ?_
  refine WC.seq ?_
  refine WC.reg ?_
  refine WL.v (Runs.move rfl) rfl ?_
  refine WL.v (Runs.slen Try.underlying9 rfl rfl) rfl ?_
  refine WL.v (Runs.boolT (c := false) (Runs.gtr rfl rfl) (by first | (rw [decide_eq_true_eq]; omega) | (rw [decide_eq_false_iff_not]; omega) | (simp [size_mk, hex_len, of_len, hmac_len]; done) | (simp [size_mk, hex_len, of_len, hmac_len]; omega))) rfl ?_
  refine WL.v (Runs.move rfl) rfl ?_
  refine WL.gon rfl rfl rfl ?_
  refine WL.v (Runs.move rfl) rfl ?_
  refine WL.gon rfl rfl rfl ?_
  refine WL.v (Runs.slen Try.underlying9 rfl rfl) rfl ?_
  refine WL.gon rfl rfl rfl ?_
  refine WL.v (Runs.boolT (c := true) (Runs.gtr rfl rfl) (by first | (rw [decide_eq_true_eq]; omega) | (rw [decide_eq_false_iff_not]; omega) | (simp [size_mk, hex_len, of_len, hmac_len]; done) | (simp [size_mk, hex_len, of_len, hmac_len]; omega))) rfl ?_
  refine WL.v (Runs.pick rfl rfl rfl) rfl ?_
  refine WL.nil ?_
  refine WN.thn ?_
  refine WC.condT rfl (rfl) ?_
  refine WC.seq ?_
  refine WC.reg ?_
  refine WL.call can8 rfl rfl (live_c _ h) ?_
  rintro _ w1 ⟨rfl, h1⟩
  refine ⟨_, rfl, ?_⟩
  refine WL.v (Runs.assign rfl) rfl ?_
  refine WL.nil ?_
  refine WN.thn ?_
  refine WC.ret ?_
  exact ret1 rfl rfl ⟨rfl, h1⟩
set_option maxRecDepth 100000 in
set_option maxHeartbeats 1000000 in
theorem bits_3 {W : World} {F : Snap} {cs : List Res} (w : World) (a : ByteArray) (b : ByteArray) (h : St W F cs w) (hs : a.size ≤ 200) (hb : b.size ≤ 200) : Calls Try.prog 7 #[.string a, .string b] w fun e w' => e = .returned (.bool true) ∧ St W F cs w'  := by
  refine enter (P := Try.prog) (args := [.string a, .string b]) Try.func7 rfl rfl rfl ?_
  refine WC.seq ?_
  refine WC.reg ?_
  refine WL.v (Runs.assign rfl) rfl ?_
  refine WL.nil ?_
  refine WN.thn ?_
  refine WC.seq ?_
  refine WC.seq ?_
  refine WC.reg ?_
  refine WL.v (Runs.move rfl) rfl ?_
  refine WL.v (Runs.slen Try.underlying9 rfl rfl) rfl ?_
  refine WL.v (Runs.boolT (c := false) (Runs.gtr rfl rfl) (by first | (rw [decide_eq_true_eq]; omega) | (rw [decide_eq_false_iff_not]; omega) | (simp [size_mk, hex_len, of_len, hmac_len]; done) | (simp [size_mk, hex_len, of_len, hmac_len]; omega))) rfl ?_
  refine WL.v (Runs.move rfl) rfl ?_
  refine WL.gon rfl rfl rfl ?_
  refine WL.v (Runs.move rfl) rfl ?_
  refine WL.gon rfl rfl rfl ?_
  refine WL.v (Runs.slen Try.underlying9 rfl rfl) rfl ?_
  refine WL.gon rfl rfl rfl ?_
  refine WL.v (Runs.boolT (c := false) (Runs.gtr rfl rfl) (by first | (rw [decide_eq_true_eq]; omega) | (rw [decide_eq_false_iff_not]; omega) | (simp [size_mk, hex_len, of_len, hmac_len]; done) | (simp [size_mk, hex_len, of_len, hmac_len]; omega))) rfl ?_
  refine WL.v (Runs.pick rfl rfl rfl) rfl ?_
  refine WL.nil ?_
  refine WN.thn ?_
  refine WC.condF rfl (rfl) ?_
  refine WC.skip ?_
  refine WN.thn ?_
  refine WC.seq ?_
  refine WC.reg ?_
  refine WL.v (Runs.move rfl) rfl ?_
  refine WL.v (Runs.move rfl) rfl ?_
  refine WL.v (Runs.sadd rfl rfl (by omega)) rfl ?_
  refine WL.call can9 rfl rfl (of_c _ _ h (by first | decide | omega | (simp [ByteArray.size_append, padded_len, of_len, hex_len, hmac_len, size_mk]; done) | (simp [ByteArray.size_append, padded_len, of_len, hex_len, hmac_len, size_mk]; omega))) ?_
  rintro _ w1 ⟨rfl, h1⟩
  refine ⟨_, rfl, ?_⟩
  refine WL.v (Runs.move rfl) rfl ?_
  refine WL.v (Runs.move rfl) rfl ?_
  refine WL.v (Runs.sadd rfl rfl (by omega)) rfl ?_
  refine WL.call can9 rfl rfl (of_c _ _ h1 (by first | decide | omega | (simp [ByteArray.size_append, padded_len, of_len, hex_len, hmac_len, size_mk]; done) | (simp [ByteArray.size_append, padded_len, of_len, hex_len, hmac_len, size_mk]; omega))) ?_
  rintro _ w2 ⟨rfl, h2⟩
  refine ⟨_, rfl, ?_⟩
  refine WL.v (Runs.boolT (c := true) (Runs.seql rfl rfl) (by simp)) rfl ?_
  refine WL.v (Runs.move rfl) rfl ?_
  refine WL.gon rfl rfl rfl ?_
  refine WL.v (Runs.move rfl) rfl ?_
  refine WL.gon rfl rfl rfl ?_
  refine WL.v (Runs.move rfl) rfl ?_
  refine WL.gon rfl rfl rfl ?_
  refine WL.v (Runs.sadd rfl rfl (by omega)) rfl ?_
  refine WL.gon rfl rfl rfl ?_
  refine WL.call can11 rfl rfl (hex_c _ _ h2 (by first | decide | omega | (simp [ByteArray.size_append, padded_len, of_len, hex_len, hmac_len, size_mk]; done) | (simp [ByteArray.size_append, padded_len, of_len, hex_len, hmac_len, size_mk]; omega))) ?_
  rintro _ w3 ⟨rfl, h3⟩
  refine ⟨_, rfl, ?_⟩
  refine WL.gon rfl rfl rfl ?_
  refine WL.v (Runs.move rfl) rfl ?_
  refine WL.gon rfl rfl rfl ?_
  refine WL.call can11 rfl rfl (hex_c _ _ h3 (by first | decide | omega | (simp [ByteArray.size_append, padded_len, of_len, hex_len, hmac_len, size_mk]; done) | (simp [ByteArray.size_append, padded_len, of_len, hex_len, hmac_len, size_mk]; omega))) ?_
  rintro _ w4 ⟨rfl, h4⟩
  refine ⟨_, rfl, ?_⟩
  refine WL.gon rfl rfl rfl ?_
  refine WL.v (Runs.move rfl) rfl ?_
  refine WL.gon rfl rfl rfl ?_
  refine WL.call can11 rfl rfl (hex_c _ _ h4 (by first | decide | omega | (simp [ByteArray.size_append, padded_len, of_len, hex_len, hmac_len, size_mk]; done) | (simp [ByteArray.size_append, padded_len, of_len, hex_len, hmac_len, size_mk]; omega))) ?_
  rintro _ w5 ⟨rfl, h5⟩
  refine ⟨_, rfl, ?_⟩
  refine WL.gon rfl rfl rfl ?_
  refine WL.v (Runs.sadd rfl rfl (by first | omega | (simp [size_mk, hex_len]; omega))) rfl ?_
  refine WL.gon rfl rfl rfl ?_
  refine WL.v (Runs.boolT (c := true) (Runs.seql rfl rfl) (by rw [decide_eq_true_eq, dl_app, hex_app, mk_app])) rfl ?_
  refine WL.v (Runs.pick rfl rfl rfl) rfl ?_
  refine WL.v (Runs.move rfl) rfl ?_
  refine WL.gon rfl rfl rfl ?_
  refine WL.v (Runs.move rfl) rfl ?_
  refine WL.gon rfl rfl rfl ?_
  refine WL.call can11 rfl rfl (hex_c _ _ h5 (by first | decide | omega | (simp [ByteArray.size_append, padded_len, of_len, hex_len, hmac_len, size_mk]; done) | (simp [ByteArray.size_append, padded_len, of_len, hex_len, hmac_len, size_mk]; omega))) ?_
  rintro _ w6 ⟨rfl, h6⟩
  refine ⟨_, rfl, ?_⟩
  refine WL.gon rfl rfl rfl ?_
  refine WL.v (Runs.slen Try.underlying9 rfl rfl) rfl ?_
  refine WL.gon rfl rfl rfl ?_
  refine WL.v (Runs.move rfl) rfl ?_
  refine WL.gon rfl rfl rfl ?_
  refine WL.v (Runs.slen Try.underlying9 rfl rfl) rfl ?_
  refine WL.gon rfl rfl rfl ?_
  refine WL.v (Runs.muln rfl rfl (by omega)) rfl ?_
  refine WL.gon rfl rfl rfl ?_
  refine WL.v (Runs.boolT (c := true) (Runs.eql rfl rfl) (by first | (rw [decide_eq_true_eq]; omega) | (rw [decide_eq_false_iff_not]; omega) | (simp [size_mk, hex_len, of_len, hmac_len]; done) | (simp [size_mk, hex_len, of_len, hmac_len]; omega))) rfl ?_
  refine WL.v (Runs.pick rfl rfl rfl) rfl ?_
  refine WL.v (Runs.move rfl) rfl ?_
  refine WL.gon rfl rfl rfl ?_
  refine WL.call can8 rfl rfl (live_c _ h6) ?_
  rintro _ w7 ⟨rfl, h7⟩
  refine ⟨_, rfl, ?_⟩
  refine WL.v (Runs.pick rfl rfl rfl) rfl ?_
  refine WL.v (Runs.assign rfl) rfl ?_
  refine WL.nil ?_
  refine WN.thn ?_
  refine WC.ret ?_
  exact ret1 rfl rfl ⟨rfl, h7⟩
theorem bits_law {W : World} {F : Snap} {cs : List Res} (w : World) (a b : ByteArray) (h : St W F cs w) : Calls Try.prog 7 #[.string a, .string b] w fun e w' => e = .returned (.bool true) ∧ St W F cs w' := by
  by_cases h1 : 200 < a.size
  · exact bits_1 w a b h h1
  · by_cases h2 : 200 < b.size
    · exact bits_2 w a b h (by omega) h2
    · exact bits_3 w a b h (by omega) (by omega)
end Sha
end Go.Proofs.Ytghdmpiifbjgpaa
