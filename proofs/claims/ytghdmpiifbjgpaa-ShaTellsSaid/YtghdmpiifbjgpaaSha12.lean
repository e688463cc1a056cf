/- The laws of chapter 01 that name the reference. -/
import Derived.Test.YtghdmpiifbjgpaaBaseJ
import Derived.Test.YtghdmpiifbjgpaaSha11
namespace Go.Proofs.Ytghdmpiifbjgpaa
open Go Go.RowKit B
set_option linter.unusedVariables false
set_option linter.unusedSimpArgs false
namespace Sha
open ShaM (rotr Wd D8)

theorem can12 : B.Can Try.prog 12 := ⟨_, Try.func12, by kernel_rfl, rfl⟩   -- roundhouse/roundhouseref01.Hex
theorem can14 : B.Can Try.prog 14 := ⟨_, Try.func14, by kernel_rfl, rfl⟩   -- roundhouse/roundhouseref01.Hmac
set_option maxRecDepth 100000 in
set_option maxHeartbeats 1000000 in
theorem tells_1 {W : World} {F : Snap} {cs : List Res} (w : World) (s : ByteArray) (h : St W F cs w) (hb : 400 < s.size) : Calls Try.prog 3 #[.string s] w fun e w' => e = .returned (.bool true) ∧ St W F cs w'  := by
  refine enter (P := Try.prog) (args := [.string s]) Try.func3 rfl rfl rfl ?_
  refine WC.seq ?_
  refine WC.reg ?_
  refine WL.v (Runs.assign rfl) rfl ?_
  refine WL.nil ?_
  refine WN.thn ?_
  refine WC.seq ?_
  refine WC.seq ?_
  refine WC.reg ?_
  refine WL.v (Runs.move rfl) rfl ?_
  refine WL.v (Runs.slen Try.underlying9 rfl rfl) rfl ?_
  refine WL.v (Runs.boolT (c := true) (Runs.gtr rfl rfl) (by first | (rw [decide_eq_true_eq]; omega) | (rw [decide_eq_false_iff_not]; omega) | (simp [size_mk, hex_len, of_len, hmac_len]; done) | (simp [size_mk, hex_len, of_len, hmac_len]; omega))) rfl ?_
  refine WL.nil ?_
  refine WN.thn ?_
  refine WC.condT rfl (rfl) ?_
  refine WC.seq ?_
  refine WC.reg ?_
  refine WL.call can8 rfl rfl (live_c _ h) ?_
  rintro _ w1 ⟨rfl, h1⟩
  refine ⟨_, rfl, ?_⟩
  refine WL.v (Runs.assign rfl) rfl ?_
  refine WL.nil ?_
  refine WN.thn ?_
  refine WC.ret ?_
  exact ret1 rfl rfl ⟨rfl, h1⟩
set_option maxRecDepth 100000 in
set_option maxHeartbeats 1000000 in
theorem tells_2 {W : World} {F : Snap} {cs : List Res} (w : World) (s : ByteArray) (h : St W F cs w) (hb : s.size ≤ 400) : Calls Try.prog 3 #[.string s] w fun e w' => e = .returned (.bool true) ∧ St W F cs w'  := by
  refine enter (P := Try.prog) (args := [.string s]) Try.func3 rfl rfl rfl ?_
  refine WC.seq ?_
  refine WC.reg ?_
  refine WL.v (Runs.assign rfl) rfl ?_
  refine WL.nil ?_
  refine WN.thn ?_
  refine WC.seq ?_
  refine WC.seq ?_
  refine WC.reg ?_
  refine WL.v (Runs.move rfl) rfl ?_
  refine WL.v (Runs.slen Try.underlying9 rfl rfl) rfl ?_
  refine WL.v (Runs.boolT (c := false) (Runs.gtr rfl rfl) (by first | (rw [decide_eq_true_eq]; omega) | (rw [decide_eq_false_iff_not]; omega) | (simp [size_mk, hex_len, of_len, hmac_len]; done) | (simp [size_mk, hex_len, of_len, hmac_len]; omega))) rfl ?_
  refine WL.nil ?_
  refine WN.thn ?_
  refine WC.condF rfl (rfl) ?_
  refine WC.skip ?_
  refine WN.thn ?_
  refine WC.seq ?_
  refine WC.reg ?_
  refine WL.v (Runs.move rfl) rfl ?_
  refine WL.call can9 rfl rfl (of_c _ _ h (by first | decide | omega | (simp [ByteArray.size_append, padded_len, of_len, hex_len, hmac_len, size_mk]; done) | (simp [ByteArray.size_append, padded_len, of_len, hex_len, hmac_len, size_mk]; omega))) ?_
  rintro _ w1 ⟨rfl, h1⟩
  refine ⟨_, rfl, ?_⟩
  refine WL.v (Runs.move rfl) rfl ?_
  refine WL.call can10 rfl rfl (rof_c _ _ h1 (by first | decide | omega | (simp [ByteArray.size_append, padded_len, of_len, hex_len, hmac_len, size_mk]; done) | (simp [ByteArray.size_append, padded_len, of_len, hex_len, hmac_len, size_mk]; omega))) ?_
  rintro _ w2 ⟨rfl, h2⟩
  refine ⟨_, rfl, ?_⟩
  refine WL.v (Runs.boolT (c := true) (Runs.seql rfl rfl) (by simp)) rfl ?_
  refine WL.v (Runs.move rfl) rfl ?_
  refine WL.gon rfl rfl rfl ?_
  refine WL.v (Runs.move rfl) rfl ?_
  refine WL.gon rfl rfl rfl ?_
  refine WL.call can11 rfl rfl (hex_c _ _ h2 (by first | decide | omega | (simp [ByteArray.size_append, padded_len, of_len, hex_len, hmac_len, size_mk]; done) | (simp [ByteArray.size_append, padded_len, of_len, hex_len, hmac_len, size_mk]; omega))) ?_
  rintro _ w3 ⟨rfl, h3⟩
  refine ⟨_, rfl, ?_⟩
  refine WL.gon rfl rfl rfl ?_
  refine WL.v (Runs.move rfl) rfl ?_
  refine WL.gon rfl rfl rfl ?_
  refine WL.call can12 rfl rfl (rhex_c _ _ h3 (by first | decide | omega | (simp [ByteArray.size_append, padded_len, of_len, hex_len, hmac_len, size_mk]; done) | (simp [ByteArray.size_append, padded_len, of_len, hex_len, hmac_len, size_mk]; omega))) ?_
  rintro _ w4 ⟨rfl, h4⟩
  refine ⟨_, rfl, ?_⟩
  refine WL.gon rfl rfl rfl ?_
  refine WL.v (Runs.boolT (c := true) (Runs.seql rfl rfl) (by simp)) rfl ?_
  refine WL.v (Runs.pick rfl rfl rfl) rfl ?_
  refine WL.v (Runs.move rfl) rfl ?_
  refine WL.gon rfl rfl rfl ?_
  refine WL.call can8 rfl rfl (live_c _ h4) ?_
  rintro _ w5 ⟨rfl, h5⟩
  refine ⟨_, rfl, ?_⟩
  refine WL.v (Runs.pick rfl rfl rfl) rfl ?_
  refine WL.v (Runs.assign rfl) rfl ?_
  refine WL.nil ?_
  refine WN.thn ?_
  refine WC.ret ?_
  exact ret1 rfl rfl ⟨rfl, h5⟩
theorem tells_law {W : World} {F : Snap} {cs : List Res} (w : World) (s : ByteArray) (h : St W F cs w) : Calls Try.prog 3 #[.string s] w fun e w' => e = .returned (.bool true) ∧ St W F cs w' := by
  by_cases h1 : 400 < s.size
  · exact tells_1 w s h h1
  · exact tells_2 w s h (by omega)
set_option maxRecDepth 100000 in
set_option maxHeartbeats 1000000 in
theorem tags_1 {W : World} {F : Snap} {cs : List Res} (w : World) (key : ByteArray) (s : ByteArray) (h : St W F cs w) (hb : 200 < s.size) : Calls Try.prog 4 #[.string key, .string s] w fun e w' => e = .returned (.bool true) ∧ St W F cs w'  := by
  refine enter (P := Try.prog) (args := [.string key, .string s]) Try.func4 rfl rfl rfl ?_
  refine WC.seq ?_
  refine WC.reg ?_
  refine WL.v (Runs.assign rfl) rfl ?_
  refine WL.nil ?_
  refine WN.thn ?_
  refine WC.seq ?_
  refine WC.seq ?_
  refine WC.reg ?_
  refine WL.v (Runs.move rfl) rfl ?_
  refine WL.v (Runs.slen Try.underlying9 rfl rfl) rfl ?_
  refine WL.v (Runs.boolT (c := true) (Runs.gtr rfl rfl) (by first | (rw [decide_eq_true_eq]; omega) | (rw [decide_eq_false_iff_not]; omega) | (simp [size_mk, hex_len, of_len, hmac_len]; done) | (simp [size_mk, hex_len, of_len, hmac_len]; omega))) rfl ?_
  refine WL.v (Runs.move rfl) rfl ?_
  refine WL.goff rfl rfl rfl rfl ?_
  refine WL.goff rfl rfl rfl rfl ?_
  refine WL.goff rfl rfl rfl rfl ?_
  refine WL.v (Runs.pick rfl rfl rfl) rfl ?_
  refine WL.nil ?_
  refine WN.thn ?_
  refine WC.condT rfl (rfl) ?_
  refine WC.seq ?_
  refine WC.reg ?_
  refine WL.call can8 rfl rfl (live_c _ h) ?_
  rintro _ w1 ⟨rfl, h1⟩
  refine ⟨_, rfl, ?_⟩
  refine WL.v (Runs.assign rfl) rfl ?_
  refine WL.nil ?_
  refine WN.thn ?_
  refine WC.ret ?_
  exact ret1 rfl rfl ⟨rfl, h1⟩
set_option maxRecDepth 100000 in
set_option maxHeartbeats 1000000 in
theorem tags_2 {W : World} {F : Snap} {cs : List Res} (w : World) (key : ByteArray) (s : ByteArray) (h : St W F cs w) (hs : s.size ≤ 200) (hb : 200 < key.size) : Calls Try.prog 4 #[.string key, .string s] w fun e w' => e = .returned (.bool true) ∧ St W F cs w'  := by
  refine enter (P := Try.prog) (args := [.string key, .string s]) Try.func4 rfl rfl rfl ?_
  refine WC.seq ?_
  refine WC.reg ?_
  refine WL.v (Runs.assign rfl) rfl ?_
  refine WL.nil ?_
  refine WN.thn ?_
  refine WC.seq ?_
  refine WC.seq ?_
  refine WC.reg ?_
  refine WL.v (Runs.move rfl) rfl ?_
  refine WL.v (Runs.slen Try.underlying9 rfl rfl) rfl ?_
  refine WL.v (Runs.boolT (c := false) (Runs.gtr rfl rfl) (by first | (rw [decide_eq_true_eq]; omega) | (rw [decide_eq_false_iff_not]; omega) | (simp [size_mk, hex_len, of_len, hmac_len]; done) | (simp [size_mk, hex_len, of_len, hmac_len]; omega))) rfl ?_
  refine WL.v (Runs.move rfl) rfl ?_
  refine WL.gon rfl rfl rfl ?_
  refine WL.v (Runs.move rfl) rfl ?_
  refine WL.gon rfl rfl rfl ?_
  refine WL.v (Runs.slen Try.underlying9 rfl rfl) rfl ?_
  refine WL.gon rfl rfl rfl ?_
  refine WL.v (Runs.boolT (c := true) (Runs.gtr rfl rfl) (by first | (rw [decide_eq_true_eq]; omega) | (rw [decide_eq_false_iff_not]; omega) | (simp [size_mk, hex_len, of_len, hmac_len]; done) | (simp [size_mk, hex_len, of_len, hmac_len]; omega))) rfl ?_
  refine WL.v (Runs.pick rfl rfl rfl) rfl ?_
  refine WL.nil ?_
  refine WN.thn ?_
  refine WC.condT rfl (rfl) ?_
  refine WC.seq ?_
  refine WC.reg ?_
  refine WL.call can8 rfl rfl (live_c _ h) ?_
  rintro _ w1 ⟨rfl, h1⟩
  refine ⟨_, rfl, ?_⟩
  refine WL.v (Runs.assign rfl) rfl ?_
  refine WL.nil ?_
  refine WN.thn ?_
  refine WC.ret ?_
  exact ret1 rfl rfl ⟨rfl, h1⟩
set_option maxRecDepth 100000 in
set_option maxHeartbeats 1000000 in
theorem tags_3 {W : World} {F : Snap} {cs : List Res} (w : World) (key : ByteArray) (s : ByteArray) (h : St W F cs w) (hs : s.size ≤ 200) (hk : key.size ≤ 200) : Calls Try.prog 4 #[.string key, .string s] w fun e w' => e = .returned (.bool true) ∧ St W F cs w'  := by
  refine enter (P := Try.prog) (args := [.string key, .string s]) Try.func4 rfl rfl rfl ?_
  refine WC.seq ?_
  refine WC.reg ?_
  refine WL.v (Runs.assign rfl) rfl ?_
  refine WL.nil ?_
  refine WN.thn ?_
  refine WC.seq ?_
  refine WC.seq ?_
  refine WC.reg ?_
  refine WL.v (Runs.move rfl) rfl ?_
  refine WL.v (Runs.slen Try.underlying9 rfl rfl) rfl ?_
  refine WL.v (Runs.boolT (c := false) (Runs.gtr rfl rfl) (by first | (rw [decide_eq_true_eq]; omega) | (rw [decide_eq_false_iff_not]; omega) | (simp [size_mk, hex_len, of_len, hmac_len]; done) | (simp [size_mk, hex_len, of_len, hmac_len]; omega))) rfl ?_
  refine WL.v (Runs.move rfl) rfl ?_
  refine WL.gon rfl rfl rfl ?_
  refine WL.v (Runs.move rfl) rfl ?_
  refine WL.gon rfl rfl rfl ?_
  refine WL.v (Runs.slen Try.underlying9 rfl rfl) rfl ?_
  refine WL.gon rfl rfl rfl ?_
  refine WL.v (Runs.boolT (c := false) (Runs.gtr rfl rfl) (by first | (rw [decide_eq_true_eq]; omega) | (rw [decide_eq_false_iff_not]; omega) | (simp [size_mk, hex_len, of_len, hmac_len]; done) | (simp [size_mk, hex_len, of_len, hmac_len]; omega))) rfl ?_
  refine WL.v (Runs.pick rfl rfl rfl) rfl ?_
  refine WL.nil ?_
  refine WN.thn ?_
  refine WC.condF rfl (rfl) ?_
  refine WC.skip ?_
  refine WN.thn ?_
  refine WC.seq ?_
  refine WC.reg ?_
  refine WL.v (Runs.move rfl) rfl ?_
  refine WL.v (Runs.move rfl) rfl ?_
  refine WL.call can13 rfl rfl (hmac_c _ _ _ h (by first | decide | omega | (simp [ByteArray.size_append, padded_len, of_len, hex_len, hmac_len, size_mk]; done) | (simp [ByteArray.size_append, padded_len, of_len, hex_len, hmac_len, size_mk]; omega)) (by first | decide | omega | (simp [ByteArray.size_append, padded_len, of_len, hex_len, hmac_len, size_mk]; done) | (simp [ByteArray.size_append, padded_len, of_len, hex_len, hmac_len, size_mk]; omega))) ?_
  rintro _ w1 ⟨rfl, h1⟩
  refine ⟨_, rfl, ?_⟩
  refine WL.v (Runs.move rfl) rfl ?_
  refine WL.v (Runs.move rfl) rfl ?_
  refine WL.call can14 rfl rfl (rhmac_c _ _ _ h1 (by first | decide | omega | (simp [ByteArray.size_append, padded_len, of_len, hex_len, hmac_len, size_mk]; done) | (simp [ByteArray.size_append, padded_len, of_len, hex_len, hmac_len, size_mk]; omega)) (by first | decide | omega | (simp [ByteArray.size_append, padded_len, of_len, hex_len, hmac_len, size_mk]; done) | (simp [ByteArray.size_append, padded_len, of_len, hex_len, hmac_len, size_mk]; omega))) ?_
  rintro _ w2 ⟨rfl, h2⟩
  refine ⟨_, rfl, ?_⟩
  refine WL.v (Runs.boolT (c := true) (Runs.seql rfl rfl) (by simp)) rfl ?_
  refine WL.v (Runs.move rfl) rfl ?_
  refine WL.gon rfl rfl rfl ?_
  refine WL.call can8 rfl rfl (live_c _ h2) ?_
  rintro _ w3 ⟨rfl, h3⟩
  refine ⟨_, rfl, ?_⟩
  refine WL.v (Runs.pick rfl rfl rfl) rfl ?_
  refine WL.v (Runs.assign rfl) rfl ?_
  refine WL.nil ?_
  refine WN.thn ?_
  refine WC.ret ?_
  exact ret1 rfl rfl ⟨rfl, h3⟩
theorem tags_law {W : World} {F : Snap} {cs : List Res} (w : World) (key s : ByteArray) (h : St W F cs w) : Calls Try.prog 4 #[.string key, .string s] w fun e w' => e = .returned (.bool true) ∧ St W F cs w' := by
  by_cases h1 : 200 < s.size
  · exact tags_1 w key s h h1
  · by_cases h2 : 200 < key.size
    · exact tags_2 w key s h (by omega) h2
    · exact tags_3 w key s h (by omega) (by omega)
end Sha
end Go.Proofs.Ytghdmpiifbjgpaa
