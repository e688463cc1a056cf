/- The laws of chapter 01 that need no reference. -/
import Derived.Test.YtghdmpiifbjgpaaBaseJ
import Derived.Test.YtghdmpiifbjgpaaSha5
namespace Go.Proofs.Ytghdmpiifbjgpaa
open Go Go.RowKit B
set_option linter.unusedVariables false
set_option linter.unusedSimpArgs false
namespace Sha
open ShaM (rotr Wd D8)

theorem can8 : B.Can Try.prog 8 := ⟨_, Try.func8, by kernel_rfl, rfl⟩   -- roundhouse/roundhouselaw01.live
theorem can11 : B.Can Try.prog 11 := ⟨_, Try.func11, by kernel_rfl, rfl⟩   -- roundhouse/sha.Hex
theorem can13 : B.Can Try.prog 13 := ⟨_, Try.func13, by kernel_rfl, rfl⟩   -- roundhouse/sha.Hmac
theorem can15 : B.Can Try.prog 15 := ⟨_, Try.func15, by kernel_rfl, rfl⟩   -- roundhouse/sha.Same
theorem same_is {W : World} {F : Snap} {cs : List Res} (w : World) (a b : ByteArray) (c : Bool) (h : St W F cs w) (ha : a.size ≤ 9223372036854775807) (hc : decide (a = b) = c) : Calls Try.prog 15 #[.string a, .string b] w fun e w' => e = .returned (.bool c) ∧ St W F cs w' := hc ▸ same_c w a b h ha
set_option maxRecDepth 100000 in
set_option maxHeartbeats 1000000 in
theorem live_c {W : World} {F : Snap} {cs : List Res} (w : World) (h : St W F cs w) : Calls Try.prog 8 #[] w fun e w' => e = .returned (.bool true) ∧ St W F cs w'  := by
  refine enter (P := Try.prog) (args := []) Try.func8 rfl rfl rfl ?_
  refine WC.seq ?_
  refine WC.reg ?_
  refine WL.v (Runs.assign rfl) rfl ?_
  refine WL.nil ?_
  refine WN.thn ?_
  refine WC.seq ?_
  refine WC.reg ?_
  refine WL.call can9 rfl rfl (of_c _ _ h (by first | decide | omega | (simp [ByteArray.size_append, padded_len, of_len, hex_len, size_mk]; done) | (simp [ByteArray.size_append, padded_len, of_len, hex_len, size_mk]; omega))) ?_
  rintro _ w1 ⟨rfl, h1⟩
  refine ⟨_, rfl, ?_⟩
  refine WL.call can11 rfl rfl (hex_c _ _ h1 (by first | decide | omega | (simp [ByteArray.size_append, padded_len, of_len, hex_len, size_mk]; done) | (simp [ByteArray.size_append, padded_len, of_len, hex_len, size_mk]; omega))) ?_
  rintro _ w2 ⟨rfl, h2⟩
  refine ⟨_, rfl, ?_⟩
  refine WL.v (Runs.boolT (c := true) (Runs.seql rfl rfl) (by decide +kernel)) rfl ?_
  refine WL.v (Runs.move rfl) rfl ?_
  refine WL.gon rfl rfl rfl ?_
  refine WL.call can9 rfl rfl (of_c _ _ h2 (by first | decide | omega | (simp [ByteArray.size_append, padded_len, of_len, hex_len, size_mk]; done) | (simp [ByteArray.size_append, padded_len, of_len, hex_len, size_mk]; omega))) ?_
  rintro _ w3 ⟨rfl, h3⟩
  refine ⟨_, rfl, ?_⟩
  refine WL.gon rfl rfl rfl ?_
  refine WL.call can11 rfl rfl (hex_c _ _ h3 (by first | decide | omega | (simp [ByteArray.size_append, padded_len, of_len, hex_len, size_mk]; done) | (simp [ByteArray.size_append, padded_len, of_len, hex_len, size_mk]; omega))) ?_
  rintro _ w4 ⟨rfl, h4⟩
  refine ⟨_, rfl, ?_⟩
  refine WL.gon rfl rfl rfl ?_
  refine WL.v (Runs.boolT (c := true) (Runs.seql rfl rfl) (by decide +kernel)) rfl ?_
  refine WL.v (Runs.pick rfl rfl rfl) rfl ?_
  refine WL.v (Runs.move rfl) rfl ?_
  refine WL.gon rfl rfl rfl ?_
  refine WL.call can13 rfl rfl (hmac_c _ _ _ h4 (by first | decide | omega | (simp [ByteArray.size_append, padded_len, of_len, hex_len, size_mk]; done) | (simp [ByteArray.size_append, padded_len, of_len, hex_len, size_mk]; omega)) (by first | decide | omega | (simp [ByteArray.size_append, padded_len, of_len, hex_len, size_mk]; done) | (simp [ByteArray.size_append, padded_len, of_len, hex_len, size_mk]; omega))) ?_
  rintro _ w5 ⟨rfl, h5⟩
  refine ⟨_, rfl, ?_⟩
  refine WL.gon rfl rfl rfl ?_
  refine WL.call can11 rfl rfl (hex_c _ _ h5 (by first | decide | omega | (simp [ByteArray.size_append, padded_len, of_len, hex_len, size_mk]; done) | (simp [ByteArray.size_append, padded_len, of_len, hex_len, size_mk]; omega))) ?_
  rintro _ w6 ⟨rfl, h6⟩
  refine ⟨_, rfl, ?_⟩
  refine WL.gon rfl rfl rfl ?_
  refine WL.v (Runs.boolT (c := true) (Runs.seql rfl rfl) (by decide +kernel)) rfl ?_
  refine WL.v (Runs.pick rfl rfl rfl) rfl ?_
  refine WL.v (Runs.move rfl) rfl ?_
  refine WL.gon rfl rfl rfl ?_
  refine WL.call can15 rfl rfl (same_is _ _ _ true h6 (by decide) (by decide +kernel)) ?_
  rintro _ w7 ⟨rfl, h7⟩
  refine ⟨_, rfl, ?_⟩
  refine WL.v (Runs.pick rfl rfl rfl) rfl ?_
  refine WL.v (Runs.move rfl) rfl ?_
  refine WL.gon rfl rfl rfl ?_
  refine WL.call can15 rfl rfl (same_is _ _ _ false h7 (by decide) (by decide +kernel)) ?_
  rintro _ w8 ⟨rfl, h8⟩
  refine ⟨_, rfl, ?_⟩
  refine WL.gon rfl rfl rfl ?_
  refine WL.v (Runs.not rfl) rfl ?_
  refine WL.v (Runs.pick rfl rfl rfl) rfl ?_
  refine WL.v (Runs.move rfl) rfl ?_
  refine WL.gon rfl rfl rfl ?_
  refine WL.call can15 rfl rfl (same_is _ _ _ false h8 (by decide) (by decide +kernel)) ?_
  rintro _ w9 ⟨rfl, h9⟩
  refine ⟨_, rfl, ?_⟩
  refine WL.gon rfl rfl rfl ?_
  refine WL.v (Runs.not rfl) rfl ?_
  refine WL.v (Runs.pick rfl rfl rfl) rfl ?_
  refine WL.v (Runs.assign rfl) rfl ?_
  refine WL.nil ?_
  refine WN.thn ?_
  refine WC.ret ?_
  exact ret1 rfl rfl ⟨rfl, h9⟩
set_option maxRecDepth 100000 in
set_option maxHeartbeats 1000000 in
theorem same_law {W : World} {F : Snap} {cs : List Res} (w : World) (a : ByteArray) (b : ByteArray) (h : St W F cs w) (ha : a.size ≤ 9223372036854775807) : Calls Try.prog 5 #[.string a, .string b] w fun e w' => e = .returned (.bool true) ∧ St W F cs w'  := by
  refine enter (P := Try.prog) (args := [.string a, .string b]) Try.func5 rfl rfl rfl ?_
  refine WC.seq ?_
  refine WC.reg ?_
  refine WL.v (Runs.assign rfl) rfl ?_
  refine WL.nil ?_
  refine WN.thn ?_
  refine WC.seq ?_
  refine WC.reg ?_
  refine WL.v (Runs.move rfl) rfl ?_
  refine WL.v (Runs.move rfl) rfl ?_
  refine WL.call can15 rfl rfl (same_c _ _ _ h (by first | decide | omega | (simp [ByteArray.size_append, padded_len, of_len, hex_len, size_mk]; done) | (simp [ByteArray.size_append, padded_len, of_len, hex_len, size_mk]; omega))) ?_
  rintro _ w1 ⟨rfl, h1⟩
  refine ⟨_, rfl, ?_⟩
  refine WL.v (Runs.move rfl) rfl ?_
  refine WL.v (Runs.move rfl) rfl ?_
  refine WL.v (Runs.seql rfl rfl) rfl ?_
  refine WL.v (Runs.boolT (c := true) (Runs.eqlb Try.underlying4 rfl rfl) (by simp)) rfl ?_
  refine WL.v (Runs.move rfl) rfl ?_
  refine WL.gon rfl rfl rfl ?_
  refine WL.v (Runs.move rfl) rfl ?_
  refine WL.gon rfl rfl rfl ?_
  refine WL.v (Runs.move rfl) rfl ?_
  refine WL.gon rfl rfl rfl ?_
  refine WL.call can15 rfl rfl (same_is _ _ _ true h1 (by omega) (by simp)) ?_
  rintro _ w2 ⟨rfl, h2⟩
  refine ⟨_, rfl, ?_⟩
  refine WL.v (Runs.pick rfl rfl rfl) rfl ?_
  refine WL.v (Runs.move rfl) rfl ?_
  refine WL.gon rfl rfl rfl ?_
  refine WL.call can8 rfl rfl (live_c _ h2) ?_
  rintro _ w3 ⟨rfl, h3⟩
  refine ⟨_, rfl, ?_⟩
  refine WL.v (Runs.pick rfl rfl rfl) rfl ?_
  refine WL.v (Runs.assign rfl) rfl ?_
  refine WL.nil ?_
  refine WN.thn ?_
  refine WC.ret ?_
  exact ret1 rfl rfl ⟨rfl, h3⟩
end Sha
end Go.Proofs.Ytghdmpiifbjgpaa
