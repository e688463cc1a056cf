/- Joined texts: Sha11 .. X13. -/
import Derived.Test.YtifdpllfbaogcaaGreatQ4
import Derived.KernelRfl
set_option linter.unusedVariables false
set_option linter.unusedSimpArgs false
set_option maxRecDepth 100000
set_option maxHeartbeats 32000000
namespace Go.Proofs.YtifdpllfbaogcaaGreat
open Go Go.RowKit B Tryz
variable {W : World} {F : Snap}
section
variable {cs : List Res}
open ShaM (rotr Wd D8)
namespace Sha
theorem mk_app (a b : List UInt8) : (⟨(a ++ b).toArray⟩ : ByteArray) = ⟨a.toArray⟩ ++ ⟨b.toArray⟩ := by
 apply string_ext; rw [dl_app]
theorem cell8 {xs : List UInt8} {j : Nat} {b : UInt8} (hb : xs[j]? = some b) : ((xs.map V8).toArray)[0 + j]? = some (.int .u8 (b.toNat : Int)) := by simp [hb]
theorem rof_c (w : World) (s : ByteArray) (h : St W F cs w) (hs : s.size ≤ 1000000) : Calls prog 172 #[.string s] w fun e w' => e = .returned (.string ⟨(ShaM.of s.data.toList).toArray⟩) ∧ St W F cs w'  := by
 refine enter (args := [.string s]) func172 rfl rfl rfl ?_
 obtain ⟨S, hS⟩ : ∃ S, S = s.data.toList := ⟨_, rfl⟩
 have hSl : S.length = s.size := by rw [hS]; simp
 have hp : ShaM.pads S.length = (119 - S.length % 64) % 64 := rfl
 have hpc := @rpad_c
 rw [← hS]
 refine Wi<|C0 1 rfl<|We<|X2 (vs := (ShaM.first.list).map VI) h rfl underlying33 inf3 rfl rfl rfl rfl rfl fun lit8 w1 h1=>C0 1 rfl<|J0 (H0 (N0 (L0 ?_)))
 obtain ⟨G0, hle0, hR0, hS0⟩ := St.litRd (f := VI) (xs := ShaM.first.list) h1
 refine C0 1 rfl<|V1 (cn func180) rfl rfl (hS ▸ rpad_c _ s hS0 (by omega)) ?_
 rintro _ w2 ⟨G3, A3, cap3, hle3, rfl, hc3, hrd3, h2⟩
 refine ⟨_, rfl,C0 1 rfl<|J0 (H0 (N0 (N0 (L0 ?_))))⟩
 have hpl := pad_len S
 have hpp : (ShaM.pad S).length = 64 * ((ShaM.pad S).length / 64) := by rw [pad_len]; omega
 generalize hP : ShaM.pad S = P at *
 refine C0 1 rfl<|Wj<|B3 (σ := Nat × Snap × Option Addr × Nat × D8) (fun q_ => [(3, .slice q_.2.2.1 q_.2.2.2.2.list.length q_.2.2.2.1), (4, .slice A3 P.length cap3), (5, .int .i64 ((64 * q_.1 : Nat) : Int))]) (fun q_ w => 64 * q_.1 ≤ P.length ∧ Le G3 q_.2.1 ∧ RdS (Kd.one VI) q_.2.1 q_.2.2.1 q_.2.2.2.2.list ∧ ShaM.blocks (P.length / 64 - q_.1) q_.2.2.2.2 (P.drop (64 * q_.1)) = ShaM.blocks (P.length / 64) ShaM.first P ∧ St W q_.2.1 cs w) (fun q_ => P.length - 64 * q_.1) (⟨0, G3, some ⟨lit8, 0, none⟩, 8, ShaM.first⟩) (⟨by omega, Le.refl _, hR0.mono hle3, rfl, h2⟩) ?_
 rintro ⟨k, G, A, cap, dd⟩ w4 ⟨hk, hG, hRd, hB, hL⟩
 try dsimp only at hk hG hRd hB hL
 refine W2 [(3, .slice A dd.list.length cap), (4, .slice A3 P.length cap3), (5, .int .i64 ((64 * k : Nat) : Int))] ?_
 have hb1 := (by omega : (64 * k : Nat) ≤ 2000000)
 refine N0<|Wi<|C0 2 rfl<|I0 (Y0 underlying33 rfl rfl) rfl<|I0 (Q1 rfl rfl) rfl<|Wa<|Z0 rfl (fun c5 => ?_) (fun c5 => ?_)
 ·try simp only [DD] at c5
  refine U0<|H0<|N0<|M1<|L0<|C0 4 rfl<|I0 (V0 rfl rfl (by omega)) rfl<|I0 (Runs.lsl_lh underlying33 inf3 rfl rfl rfl (n := 64 * k) (m := 64 * k + 64) (by omega) (by omega) (by omega) (by omega)) rfl<|V1 (cn func181) rfl rfl (by have hb := rblock_c (Ah := A) (Ab := if cap3 = 64 * k then A3 else A3.map (·.add (64 * k))) (caph := cap) (capb := cap3 - 64 * k) (bs := (P.drop (64 * k)).take 64) w4 dd hL hRd ((by simpa [Kd.one] using ((hrd3.mono hG).drop (64 * k) (cap := cap3) (by omega)).take 64)) (by rw [List.length_take, List.length_drop]; omega); rw [show ((P.drop (64 * k)).take 64).length = 64 * k + 64 - 64 * k by rw [List.length_take, List.length_drop]; omega] at hb; simpa using hb) ?_
  rintro _ w6 ⟨G7, A7, cap7, hle7, rfl, hc7, hrd7, h6⟩
  refine ⟨_, rfl,C0 1 rfl<|J0<|N1<|H0<|L0<|C0 1 rfl<|I0 (V0 rfl rfl (by omega)) rfl<|C0 1 rfl<|J0<|F1 (⟨k + 1, G7, A7, cap7, ShaM.block dd ((P.drop (64 * k)).take 64)⟩ : Nat × Snap × Option Addr × Nat × D8) (by show P.length - 64 * (k + 1) < P.length - 64 * k; omega) ⟨rfl, rfl, ?_, trivial⟩ ⟨by show 64 * (k + 1) ≤ _; omega, Le.trans hG hle7, hrd7, ?_, h6⟩⟩
  ·show some (Value.int .i64 (((64 * k : Nat) : Int) + 64)) = some (Value.int .i64 ((64 * (k + 1) : Nat) : Int))
   rw [show ((64 * k : Nat) : Int) + 64 = ((64 * (k + 1) : Nat) : Int) by omega]
  show ShaM.blocks (P.length / 64 - (k + 1)) (ShaM.block dd ((P.drop (64 * k)).take 64)) (P.drop (64 * (k + 1))) = _
  rw [← hB, show P.length / 64 - k = (P.length / 64 - (k + 1)) + 1 by omega, ← ShaR.bl_step, List.drop_drop, show 64 * (k + 1) = 64 * k + 64 by omega]
 try simp only [DD] at c5
 refine U1<|B2<|WX.cut<|E2<|H0<|N0<|L0 ?_
 obtain ⟨ax, rfl, hh⟩ := rd1 hRd (by rw [list_len]; omega)
 have hD : ShaM.blocks (P.length / 64) ShaM.first P = dd := by rw [← hB, show P.length / 64 - k = 0 by omega]; rfl
 refine C0 1 rfl<|Wh<|C0 1 rfl<|Wj<|B3 (σ := Nat) (fun q_ => [(3, .slice (some ax) dd.list.length cap), (6, .string ⟨((dd.list.take q_).flatMap ShaM.out4).toArray⟩), (7, .int .i64 (q_ : Int))]) (fun q_ w => q_ ≤ 8 ∧ St W G cs w) (fun q_ => 8 - q_) (0) (⟨by omega, hL⟩) ?_
 rintro i w8 ⟨hi, hL⟩
 try dsimp only at hi hL
 refine W2 [(3, .slice (some ax) dd.list.length cap), (6, .string ⟨((dd.list.take i).flatMap ShaM.out4).toArray⟩), (7, .int .i64 (i : Int))] ?_
 have hx := (dd.list.getD i 0).isLt
 have hlen : ((dd.list.take i).flatMap ShaM.out4).length = 4 * i := by rw [flat_len, List.length_take, list_len]; omega
 refine N0<|Wi<|C0 1 rfl<|I0 (Q1 rfl rfl) rfl<|Wa<|Z0 rfl (fun c9 => ?_) (fun c9 => ?_)
 ·try simp only [DD] at c9
  refine U0<|H0<|N0<|M1<|Q4 (fun w_ => St W _ _ w_) (fun k => Nat.beq k 27 || Nat.beq k 28) mixed (by kernel_rfl) (hL.drew)<|fun hx =>K4 hx 3 rfl<|F2 hx (by rfl) rfl (fun w_ => W0 underlying33 inf3 rfl rfl (n := i) (by omega) (by rw [list_len]; omega)) rfl<|W3 14 hx (by rfl) rfl (by kernel_rfl) (fun w_ hC_ => I1 (f := VI) (0 : Wd) hC_ hh (n := i) (by rw [list_len]; omega) underlying3 rfl rfl) rfl<|F2 hx (by rfl) rfl (fun w_ => Z5 rfl rfl (by omega) (by omega)) rfl<|F2 hx (by rfl) rfl (fun w_ => R0 (n := ((UInt8.ofNat ((dd.list.getD i 0) >>> 24).toNat).toNat : Int)) (W4 underlying3 underlying5 rfl (m := (dd.list.getD i 0).toNat / 16777216) (by first | rfl | omega | (simp; done))) (ShaR.o24 _)) rfl<|K4 hx 2 rfl<|F2 hx (by rfl) rfl (fun w_ => W0 underlying33 inf3 rfl rfl (n := i) (by omega) (by rw [list_len]; omega)) rfl<|W3 14 hx (by rfl) rfl (by kernel_rfl) (fun w_ hC_ => I1 (f := VI) (0 : Wd) hC_ hh (n := i) (by rw [list_len]; omega) underlying3 rfl rfl) rfl<|F2 hx (by rfl) rfl (fun w_ => Z5 rfl rfl (by omega) (by omega)) rfl<|F2 hx (by rfl) rfl (fun w_ => J5 rfl rfl (by omega) (by omega)) rfl<|F2 hx (by rfl) rfl (fun w_ => R0 (n := ((UInt8.ofNat ((dd.list.getD i 0) >>> 16).toNat).toNat : Int)) (W4 underlying3 underlying5 rfl (m := (dd.list.getD i 0).toNat / 65536 % 256) (by first | rfl | omega | (simp; done))) (ShaR.o16 _)) rfl<|K4 hx 2 rfl<|F2 hx (by rfl) rfl (fun w_ => W0 underlying33 inf3 rfl rfl (n := i) (by omega) (by rw [list_len]; omega)) rfl<|W3 14 hx (by rfl) rfl (by kernel_rfl) (fun w_ hC_ => I1 (f := VI) (0 : Wd) hC_ hh (n := i) (by rw [list_len]; omega) underlying3 rfl rfl) rfl<|F2 hx (by rfl) rfl (fun w_ => Z5 rfl rfl (by omega) (by omega)) rfl<|F2 hx (by rfl) rfl (fun w_ => J5 rfl rfl (by omega) (by omega)) rfl<|F2 hx (by rfl) rfl (fun w_ => R0 (n := ((UInt8.ofNat ((dd.list.getD i 0) >>> 8).toNat).toNat : Int)) (W4 underlying3 underlying5 rfl (m := (dd.list.getD i 0).toNat / 256 % 256) (by first | rfl | omega | (simp; done))) (ShaR.o8 _)) rfl<|K4 hx 2 rfl<|F2 hx (by rfl) rfl (fun w_ => W0 underlying33 inf3 rfl rfl (n := i) (by omega) (by rw [list_len]; omega)) rfl<|W3 14 hx (by rfl) rfl (by kernel_rfl) (fun w_ hC_ => I1 (f := VI) (0 : Wd) hC_ hh (n := i) (by rw [list_len]; omega) underlying3 rfl rfl) rfl<|F2 hx (by rfl) rfl (fun w_ => J5 rfl rfl (by omega) (by omega)) rfl<|F2 hx (by rfl) rfl (fun w_ => R0 (n := ((UInt8.ofNat (dd.list.getD i 0).toNat).toNat : Int)) (W4 underlying3 underlying5 rfl (m := (dd.list.getD i 0).toNat % 256) (by first | rfl | omega | (simp; done))) (ShaR.o0 _)) rfl<|Z4 hx rfl (by decide) (by kernel_rfl) fun w10 h10=>F5 (by rfl) rfl (by kernel_rfl)<|X2 (vs := (ShaM.out4 (dd.list.getD i 0)).map V8) h10 rfl underlying120 inf5 rfl rfl rfl rfl rfl fun lit55 w11 h11=>J0<|I4<|F5 (by rfl) rfl (by kernel_rfl)<|I0 (Y5 (bs := ShaM.out4 (dd.list.getD i 0)) underlying120 underlying5 underlying9 rfl (by rfl) (.inr ⟨_, rfl, fun j b hb => by rw [add_mk]; exact h11.ocell (i := 0) rfl (cell8 (xs := ShaM.out4 (dd.list.getD i 0)) hb)⟩)) rfl<|J0<|I4<|X3 hx (by rfl) (fun w_ => Runs.strT (b := ⟨((dd.list.take (i + 1)).flatMap ShaM.out4).toArray⟩) (U4 rfl rfl (by rw [size_mk, size_mk, hlen]; show _ + 4 ≤ _; omega)) (by rw [take_flat (by rw [list_len]; omega), mk_app])) rfl<|X3 hx (by rfl) (fun w_ => Runs.assign rfl) rfl<|B5 rfl (by kernel_rfl)<|N1<|H0<|L0<|C0 1 rfl<|I0 (V0 rfl rfl (by omega)) rfl<|C0 1 rfl<|J0<|F1 (i + 1) (by omega) ⟨rfl, rfl, rfl, trivial⟩ ⟨by omega, h11.drop 0⟩
 try simp only [DD] at c9
 refine U1<|B2<|WX.cut<|E2<|H0<|Wi<|C0 2 rfl<|J0 (H0 (O1 ?_))
 obtain rfl : i = 8 := by omega
 refine ret1 rfl rfl ⟨?_, hL.weak (Le.trans (Le.trans hle0 hle3) hG)⟩
 rw [show ShaM.of S = dd.list.flatMap ShaM.out4 by unfold ShaM.of; rw [hP, hD], List.take_of_length_le (by rw [list_len]; omega)]
theorem tur_len (f : Nat → UInt8) (i : Nat) : ((List.range i).map f).length = i := by simp
theorem tur_next (f : Nat → UInt8) (i : Nat) : (List.range (i + 1)).map f = (List.range i).map f ++ [f i] := by simp [List.range_succ]
theorem to8_of (x : UInt8) : ((UInt8.ofNat x.toNat).toNat : Int) = (x.toNat : Int) := by
 rw [UInt8.toNat_ofNat']; have := x.toNat_lt; omega
theorem getD_out (l : List UInt8) (i : Nat) (h : l.length ≤ i) : l.getD i 0 = 0 := by rw [gD, List.getElem?_eq_none h]; rfl
theorem tur_c (w : World) (key : ByteArray) (by_ : UInt8) (h : St W F cs w) : Calls prog 173 #[.string key, VB by_] w fun e w' => e = .returned (.string ⟨(ShaM.padded key.data.toList by_).toArray⟩) ∧ St W F cs w'  := by
 refine enter (args := [.string key, VB by_]) func173 rfl rfl rfl<|Wi<|C0 1 rfl<|We<|C0 1 rfl<|Wh<|C0 1 rfl<|Wj<|B3 (σ := Nat) (fun q_ => [(0, .string key), (1, VB by_), (5, .string ⟨((List.range q_).map fun j => key.data.toList.getD j 0 ^^^ by_).toArray⟩), (6, .int .i64 (q_ : Int))]) (fun q_ w => q_ ≤ 64 ∧ St W F cs w) (fun q_ => 64 - q_) (0) (⟨by omega, h⟩) ?_
 rintro i w1 ⟨hi, hL⟩
 try dsimp only at hi hL
 refine W2 [(0, .string key), (1, VB by_), (5, .string ⟨((List.range i).map fun j => key.data.toList.getD j 0 ^^^ by_).toArray⟩), (6, .int .i64 (i : Int))]<|N0<|Wi<|C0 1 rfl<|I0 (Q1 rfl rfl) rfl<|Wa<|Z0 rfl (fun c2 => ?_) (fun c2 => ?_)
 ·try simp only [DD] at c2
  refine U0<|H0<|N0<|M1<|Wi<|C0 1 rfl<|Wh<|C0 2 rfl<|I0 (E3 underlying9 rfl rfl) rfl<|I0 (Q1 rfl rfl) rfl<|Wa<|Z0 rfl (fun c3 => ?_) (fun c3 => ?_)
  ·try simp only [DD] at c3
   refine L0<|C0 2 rfl<|I0 (E7 underlying9 rfl rfl (n := i) rfl (by omega)) rfl<|I0 (V5 underlying5 underlying3 rfl) rfl<|C0 1 rfl<|Wf<|C0 3 rfl<|I0 (R0 (n := ((key.data.toList.getD i 0 ^^^ by_).toNat : Int)) (Runs.xorB rfl rfl) rfl) rfl<|I0 (R0 (n := ((key.data.toList.getD i 0 ^^^ by_).toNat : Int)) (W4 underlying3 underlying5 rfl rfl) (to8_of _)) rfl<|X2 (vs := (([key.data.toList.getD i 0 ^^^ by_] : List UInt8)).map V8) hL rfl underlying120 inf5 rfl rfl rfl rfl rfl fun lit25 w4 h4=>I0 (Y5 (bs := [key.data.toList.getD i 0 ^^^ by_]) underlying120 underlying5 underlying9 rfl (by rfl) (.inr ⟨_, rfl, fun j b hb => by rw [add_mk]; exact h4.ocell (i := 0) rfl (cell8 (xs := [key.data.toList.getD i 0 ^^^ by_]) hb)⟩)) rfl<|I0 (Runs.strT (b := ⟨((List.range (i + 1)).map fun j => key.data.toList.getD j 0 ^^^ by_).toArray⟩) (U4 rfl rfl (by rw [size_mk, size_mk, tur_len]; show _ + 1 ≤ _; omega)) (by rw [tur_next, mk_app])) rfl<|C0 1 rfl<|J0<|N1<|H0<|L0<|C0 1 rfl<|I0 (V0 rfl rfl (by omega)) rfl<|C0 1 rfl<|J0<|F1 (i + 1) (by omega) ⟨rfl, rfl, rfl, rfl, trivial⟩ ⟨by omega, h4.drop 0⟩
  try simp only [DD] at c3
  refine U0 (H0 (L0 ?_))
  have hg : key.data.toList.getD i 0 = 0 := getD_out _ _ (by simp; omega)
  refine C0 3 rfl<|I0 (R0 (n := ((key.data.toList.getD i 0 ^^^ by_).toNat : Int)) (Runs.xorB (a := 0) rfl rfl) (by rw [hg])) rfl<|I0 (R0 (n := ((key.data.toList.getD i 0 ^^^ by_).toNat : Int)) (W4 underlying3 underlying5 rfl rfl) (to8_of _)) rfl<|X2 (vs := (([key.data.toList.getD i 0 ^^^ by_] : List UInt8)).map V8) hL rfl underlying120 inf5 rfl rfl rfl rfl rfl fun lit25 w5 h5=>I0 (Y5 (bs := [key.data.toList.getD i 0 ^^^ by_]) underlying120 underlying5 underlying9 rfl (by rfl) (.inr ⟨_, rfl, fun j b hb => by rw [add_mk]; exact h5.ocell (i := 0) rfl (cell8 (xs := [key.data.toList.getD i 0 ^^^ by_]) hb)⟩)) rfl<|I0 (Runs.strT (b := ⟨((List.range (i + 1)).map fun j => key.data.toList.getD j 0 ^^^ by_).toArray⟩) (U4 rfl rfl (by rw [size_mk, size_mk, tur_len]; show _ + 1 ≤ _; omega)) (by rw [tur_next, mk_app])) rfl<|C0 1 rfl<|J0<|N1<|H0<|L0<|C0 1 rfl<|I0 (V0 rfl rfl (by omega)) rfl<|C0 1 rfl<|J0<|F1 (i + 1) (by omega) ⟨rfl, rfl, rfl, rfl, trivial⟩ ⟨by omega, h5.drop 0⟩
 try simp only [DD] at c2
 refine U1<|B2<|WX.cut<|E2<|H0<|Wi<|C0 2 rfl<|J0 (H0 (O1 ?_))
 obtain rfl : i = 64 := by omega
 exact ret1 rfl rfl ⟨rfl, hL⟩
theorem rhmac_c (w : World) (key s : ByteArray) (h : St W F cs w) (hk : key.size ≤ 900000) (hs : s.size ≤ 900000) : Calls prog 159 #[.string key, .string s] w fun e w' => e = .returned (.string ⟨(ShaM.hmac key.data.toList s.data.toList).toArray⟩) ∧ St W F cs w'  := by
 refine enter (args := [.string key, .string s]) func159 rfl rfl rfl<|Wi<|C0 1 rfl<|Wh<|C0 1 rfl<|I0 (E3 underlying9 rfl rfl) rfl<|I0 (Y1 rfl rfl) rfl<|Wa<|Z0 rfl (fun c1 => ?_) (fun c1 => ?_)
 ·try simp only [DD] at c1
  refine L0<|C0 1 rfl<|C1 (cn func172) rfl rfl (rof_c _ _ h (by first | omega | (simp [ByteArray.size_append, padded_len, of_len, size_mk]; done) | (simp [ByteArray.size_append, padded_len, of_len, size_mk]; omega))) fun w2 h2 =>C0 1 rfl<|We<|C0 1 rfl<|C1 (cn func173) rfl rfl (tur_c _ _ 92 h2) fun w3 h3 =>C0 1 rfl<|C1 (cn func173) rfl rfl (tur_c _ _ 54 h3) fun w4 h4 =>C0 1 rfl<|I0 (U4 rfl rfl (by simp [padded_len, size_mk]; omega)) rfl<|C1 (cn func172) rfl rfl (rof_c _ _ h4 (by first | omega | (simp [ByteArray.size_append, padded_len, of_len, size_mk]; done) | (simp [ByteArray.size_append, padded_len, of_len, size_mk]; omega))) fun w5 h5 =>I0 (U4 rfl rfl (by simp [padded_len, of_len, size_mk])) rfl<|C1 (cn func172) rfl rfl (rof_c _ _ h5 (by first | omega | (simp [ByteArray.size_append, padded_len, of_len, size_mk]; done) | (simp [ByteArray.size_append, padded_len, of_len, size_mk]; omega))) fun w6 h6 =>C0 1 rfl<|Wg<|ret1 rfl rfl ⟨?_, h6⟩
  have hkl : key.data.toList.length = key.size := by simp
  simp only [dl_mk, dl_app, ShaM.hmac, hkl]
  first
  |rw [if_pos (by omega)]
  |rw [if_neg (by omega)]
 try simp only [DD] at c1
 refine Wk<|C0 1 rfl<|C1 (cn func173) rfl rfl (tur_c _ _ 92 h) fun w7 h7 =>C0 1 rfl<|C1 (cn func173) rfl rfl (tur_c _ _ 54 h7) fun w8 h8 =>C0 1 rfl<|I0 (U4 rfl rfl (by simp [padded_len, size_mk]; omega)) rfl<|C1 (cn func172) rfl rfl (rof_c _ _ h8 (by first | omega | (simp [ByteArray.size_append, padded_len, of_len, size_mk]; done) | (simp [ByteArray.size_append, padded_len, of_len, size_mk]; omega))) fun w9 h9 =>I0 (U4 rfl rfl (by simp [padded_len, of_len, size_mk])) rfl<|C1 (cn func172) rfl rfl (rof_c _ _ h9 (by first | omega | (simp [ByteArray.size_append, padded_len, of_len, size_mk]; done) | (simp [ByteArray.size_append, padded_len, of_len, size_mk]; omega))) fun w10 h10 =>C0 1 rfl<|Wg<|ret1 rfl rfl ⟨?_, h10⟩
 have hkl : key.data.toList.length = key.size := by simp
 simp only [dl_mk, dl_app, ShaM.hmac, hkl]
 first
 |rw [if_pos (by omega)]
 |rw [if_neg (by omega)]
end Sha
open Wir (Vi mayN)
namespace Cr
theorem first10 (P0 P1 P2 P3 P4 P5 P6 P7 P8 P9 : Prop) : (P0) ∨ (¬ P0 ∧ P1) ∨ (¬ P0 ∧ ¬ P1 ∧ P2) ∨ (¬ P0 ∧ ¬ P1 ∧ ¬ P2 ∧ P3) ∨ (¬ P0 ∧ ¬ P1 ∧ ¬ P2 ∧ ¬ P3 ∧ P4) ∨ (¬ P0 ∧ ¬ P1 ∧ ¬ P2 ∧ ¬ P3 ∧ ¬ P4 ∧ P5) ∨ (¬ P0 ∧ ¬ P1 ∧ ¬ P2 ∧ ¬ P3 ∧ ¬ P4 ∧ ¬ P5 ∧ P6) ∨ (¬ P0 ∧ ¬ P1 ∧ ¬ P2 ∧ ¬ P3 ∧ ¬ P4 ∧ ¬ P5 ∧ ¬ P6 ∧ P7) ∨ (¬ P0 ∧ ¬ P1 ∧ ¬ P2 ∧ ¬ P3 ∧ ¬ P4 ∧ ¬ P5 ∧ ¬ P6 ∧ ¬ P7 ∧ P8) ∨ (¬ P0 ∧ ¬ P1 ∧ ¬ P2 ∧ ¬ P3 ∧ ¬ P4 ∧ ¬ P5 ∧ ¬ P6 ∧ ¬ P7 ∧ ¬ P8 ∧ P9) ∨ (¬ P0 ∧ ¬ P1 ∧ ¬ P2 ∧ ¬ P3 ∧ ¬ P4 ∧ ¬ P5 ∧ ¬ P6 ∧ ¬ P7 ∧ ¬ P8 ∧ ¬ P9) := by
 by_cases h0 : P0
 ·exact .inl h0
 by_cases h1 : P1
 ·exact .inr (.inl ⟨h0, h1⟩)
 by_cases h2 : P2
 ·exact .inr (.inr (.inl ⟨h0, h1, h2⟩))
 by_cases h3 : P3
 ·exact .inr (.inr (.inr (.inl ⟨h0, h1, h2, h3⟩)))
 by_cases h4 : P4
 ·exact .inr (.inr (.inr (.inr (.inl ⟨h0, h1, h2, h3, h4⟩))))
 by_cases h5 : P5
 ·exact .inr (.inr (.inr (.inr (.inr (.inl ⟨h0, h1, h2, h3, h4, h5⟩)))))
 by_cases h6 : P6
 ·exact .inr (.inr (.inr (.inr (.inr (.inr (.inl ⟨h0, h1, h2, h3, h4, h5, h6⟩))))))
 by_cases h7 : P7
 ·exact .inr (.inr (.inr (.inr (.inr (.inr (.inr (.inl ⟨h0, h1, h2, h3, h4, h5, h6, h7⟩)))))))
 by_cases h8 : P8
 ·exact .inr (.inr (.inr (.inr (.inr (.inr (.inr (.inr (.inl ⟨h0, h1, h2, h3, h4, h5, h6, h7, h8⟩))))))))
 by_cases h9 : P9
 ·exact .inr (.inr (.inr (.inr (.inr (.inr (.inr (.inr (.inr (.inl ⟨h0, h1, h2, h3, h4, h5, h6, h7, h8, h9⟩)))))))))
 exact .inr (.inr (.inr (.inr (.inr (.inr (.inr (.inr (.inr (.inr (⟨h0, h1, h2, h3, h4, h5, h6, h7, h8, h9⟩))))))))))
theorem node_ge {xs : List Int} {n : Nat} (h : ∀ i, i < n → ndAt xs i) : ∀ i, i < n → (i : Int) ≤ xs.getD i 0
 |0, hi => by
  have := (h 0 hi).1
  have e : lastOf xs 0 = -1 := rfl
  omega
 |i + 1, hi => by
  have h1 := node_ge h i (by omega)
  have h2 := (h (i + 1) hi).1
  have e : lastOf xs (i + 1) = xs.getD i 0 := rfl
  omega
theorem nodes_len {xs : List Int} (h : nodesOk xs) : xs.length ≤ 16 := by
 have h0 := h.2
 have h1 := node_ge h.1 (xs.length - 1) (by omega)
 have h2 := (h.1 (xs.length - 1) (by omega)).2
 omega
theorem last_ge {xs : List Int} {i : Nat} (h : ∀ j, j < i → ndAt xs j) : -1 ≤ lastOf xs i := by
 unfold lastOf
 split
 ·omega
 have := node_ge h (i - 1) (by omega)
 omega
theorem last_0 (xs : List Int) : lastOf xs 0 = -1 := rfl
theorem last_s {xs : List Int} {i : Nat} (h : 0 < i) : lastOf xs i = xs.getD (i - 1) 0 := if_neg (by omega)
theorem numCase (n : Int) : n < 0 ∨ (0 ≤ n ∧ 1099511627776 < n) ∨ (0 ≤ n ∧ n ≤ 1099511627776) := by omega
theorem nodeCase (x p : Int) (i : Nat) : x < 0 ∨ (0 ≤ x ∧ 15 < x) ∨ (0 ≤ x ∧ x ≤ 15 ∧ i = 0) ∨ (0 ≤ x ∧ x ≤ 15 ∧ 0 < i ∧ x ≤ p) ∨ (0 ≤ x ∧ x ≤ 15 ∧ 0 < i ∧ p < x) := by omega
theorem number_c (w : World) (n : Int) (h : St W F cs w) : Calls prog 179 #[Vi n] w fun r w' => r = .returned (.bool (decide (mayN n))) ∧ St W F cs w'  := by
 refine enter (args := [Vi n]) func179 rfl rfl rfl<|Wi<|C0 1 rfl<|J0 (H0 (N0 ?_))
 rcases numCase n with h0 | ⟨h0, h1⟩ | ⟨h0, h1⟩
 ·refine L0<|C0 1 rfl<|I0 (Bf (T1 rfl rfl) (dN (by omega))) rfl<|C0 5 rfl<|Wg<|ret1 rfl rfl ⟨?_, h⟩
  rw [dN (fun hh : mayN n => by unfold mayN at hh; omega)]; rfl
 ·refine L0<|C0 1 rfl<|I0 (Bt (T1 rfl rfl) (dA (by omega))) rfl<|C0 2 rfl<|Q0 rfl<|I0 (Bf (Z1 rfl rfl) (dN (by omega))) rfl<|C0 2 rfl<|Wg<|ret1 rfl rfl ⟨?_, h⟩
  rw [dN (fun hh : mayN n => by unfold mayN at hh; omega)]; rfl
 refine L0<|C0 1 rfl<|I0 (Bt (T1 rfl rfl) (dA (by omega))) rfl<|C0 2 rfl<|Q0 rfl<|I0 (Bt (Z1 rfl rfl) (dA (by omega))) rfl<|C0 2 rfl<|Wg<|ret1 rfl rfl ⟨?_, h⟩
 rw [dA (show mayN n from ⟨h0, h1⟩)]; rfl
theorem qcheck_c (w : World) {A : Option Addr} {cap : Nat} {c : C} (h : St W F cs w) (hR : RdS (Kd.one Vi) F A c.nd) (hn : c.nd.length ≤ 9223372036854775807) : Calls prog 170 #[.agg #[Vi c.jb, Vi c.ep, Vi c.st, Vi c.fr, Vi c.un, .slice A c.nd.length cap, Vi c.co]] w fun r w' => r = .returned (Vi (checkM c)) ∧ St W F cs w'  := by
 refine enter (args := [.agg #[Vi c.jb, Vi c.ep, Vi c.st, Vi c.fr, Vi c.un, .slice A c.nd.length cap, Vi c.co]]) func170 rfl rfl rfl<|Wi<|J3 rfl h rfl fun b1 w1 h1=>C0 1 rfl<|J0 (H0 (N0 (N0 ?_)))
 rcases first10 (¬ mayN c.jb) (¬ mayN c.st) (¬ mayN c.fr) (¬ mayN c.un) (c.ep < 0) (8 < c.ep) (c.co < 1) (256 < c.co) (c.nd.length < 1) (16 < c.nd.length) with q0 | ⟨q0, q1⟩ | ⟨q0, q1, q2⟩ | ⟨q0, q1, q2, q3⟩ | ⟨q0, q1, q2, q3, q4⟩ | ⟨q0, q1, q2, q3, q4, q5⟩ | ⟨q0, q1, q2, q3, q4, q5, q6⟩ | ⟨q0, q1, q2, q3, q4, q5, q6, q7⟩ | ⟨q0, q1, q2, q3, q4, q5, q6, q7, q8⟩ | ⟨q0, q1, q2, q3, q4, q5, q6, q7, q8, q9⟩ | ⟨q0, q1, q2, q3, q4, q5, q6, q7, q8, q9⟩
 ·refine L0<|H1 h1 [0] 2 rfl<|C1 (cn func179) rfl rfl (number_c _ c.jb h1) fun w2 h2 =>I0 (Bt (R1 rfl) (by rw [dN q0]; rfl)) rfl<|C0 50 rfl<|Wa<|J1 rfl (rfl)<|Wi<|C0 1 rfl<|Wg<|ret1 rfl rfl ⟨?_, h2.drop 0⟩
  rw [show checkM c = 1 from if_neg (fun hh => q0 hh.1)]
 ·refine L0<|H1 h1 [0] 2 rfl<|C1 (cn func179) rfl rfl (number_c _ c.jb h1) fun w3 h3 =>I0 (Bf (R1 rfl) (by rw [dA (Decidable.of_not_not q0)]; rfl)) rfl<|H1 h3 [0] 3 rfl<|Q0 rfl<|C1 (cn func179) rfl rfl (number_c _ c.st h3) fun w4 h4 =>Q0 rfl<|I0 (Bt (R1 rfl) (by rw [dN q1]; rfl)) rfl<|C0 45 rfl<|Wa<|J1 rfl (rfl)<|Wi<|C0 1 rfl<|Wg<|ret1 rfl rfl ⟨?_, h4.drop 0⟩
  rw [show checkM c = 1 from if_neg (fun hh => q1 hh.2.1)]
 ·refine L0<|H1 h1 [0] 2 rfl<|C1 (cn func179) rfl rfl (number_c _ c.jb h1) fun w5 h5 =>I0 (Bf (R1 rfl) (by rw [dA (Decidable.of_not_not q0)]; rfl)) rfl<|H1 h5 [0] 3 rfl<|Q0 rfl<|C1 (cn func179) rfl rfl (number_c _ c.st h5) fun w6 h6 =>Q0 rfl<|I0 (Bf (R1 rfl) (by rw [dA (Decidable.of_not_not q1)]; rfl)) rfl<|H1 h6 [0] 4 rfl<|Q0 rfl<|C1 (cn func179) rfl rfl (number_c _ c.fr h6) fun w7 h7 =>Q0 rfl<|I0 (Bt (R1 rfl) (by rw [dN q2]; rfl)) rfl<|C0 39 rfl<|Wa<|J1 rfl (rfl)<|Wi<|C0 1 rfl<|Wg<|ret1 rfl rfl ⟨?_, h7.drop 0⟩
  rw [show checkM c = 1 from if_neg (fun hh => q2 hh.2.2.1)]
 ·refine L0<|H1 h1 [0] 2 rfl<|C1 (cn func179) rfl rfl (number_c _ c.jb h1) fun w8 h8 =>I0 (Bf (R1 rfl) (by rw [dA (Decidable.of_not_not q0)]; rfl)) rfl<|H1 h8 [0] 3 rfl<|Q0 rfl<|C1 (cn func179) rfl rfl (number_c _ c.st h8) fun w9 h9 =>Q0 rfl<|I0 (Bf (R1 rfl) (by rw [dA (Decidable.of_not_not q1)]; rfl)) rfl<|H1 h9 [0] 4 rfl<|Q0 rfl<|C1 (cn func179) rfl rfl (number_c _ c.fr h9) fun w10 h10 =>Q0 rfl<|I0 (Bf (R1 rfl) (by rw [dA (Decidable.of_not_not q2)]; rfl)) rfl<|H1 h10 [0] 4 rfl<|Q0 rfl<|C1 (cn func179) rfl rfl (number_c _ c.un h10) fun w11 h11 =>Q0 rfl<|I0 (Bt (R1 rfl) (by rw [dN q3]; rfl)) rfl<|C0 33 rfl<|Wa<|J1 rfl (rfl)<|Wi<|C0 1 rfl<|Wg<|ret1 rfl rfl ⟨?_, h11.drop 0⟩
  rw [show checkM c = 1 from if_neg (fun hh => q3 hh.2.2.2.1)]
 ·refine L0<|H1 h1 [0] 2 rfl<|C1 (cn func179) rfl rfl (number_c _ c.jb h1) fun w12 h12 =>I0 (Bf (R1 rfl) (by rw [dA (Decidable.of_not_not q0)]; rfl)) rfl<|H1 h12 [0] 3 rfl<|Q0 rfl<|C1 (cn func179) rfl rfl (number_c _ c.st h12) fun w13 h13 =>Q0 rfl<|I0 (Bf (R1 rfl) (by rw [dA (Decidable.of_not_not q1)]; rfl)) rfl<|H1 h13 [0] 4 rfl<|Q0 rfl<|C1 (cn func179) rfl rfl (number_c _ c.fr h13) fun w14 h14 =>Q0 rfl<|I0 (Bf (R1 rfl) (by rw [dA (Decidable.of_not_not q2)]; rfl)) rfl<|H1 h14 [0] 4 rfl<|Q0 rfl<|C1 (cn func179) rfl rfl (number_c _ c.un h14) fun w15 h15 =>Q0 rfl<|I0 (Bf (R1 rfl) (by rw [dA (Decidable.of_not_not q3)]; rfl)) rfl<|H1 h15 [0] 4 rfl<|Q0 rfl<|I0 (Bt (Q1 rfl rfl) (dA (by omega))) rfl<|C0 28 rfl<|Wa<|J1 rfl (rfl)<|Wi<|C0 1 rfl<|J0 (H0 (O1 ?_))
  have hz : ¬ okC c := fun hh => by
   obtain ⟨g0, g1, g2, g3, ⟨g4, g4b⟩, ⟨g5, g5b⟩, g6⟩ := hh
   have g7 := nodes_len g6
   have g8 := g6.2
   omega
  refine ret1 rfl rfl ⟨?_, h15.drop 0⟩
  rw [show checkM c = 1 from if_neg hz]
 ·refine L0<|H1 h1 [0] 2 rfl<|C1 (cn func179) rfl rfl (number_c _ c.jb h1) fun w16 h16 =>I0 (Bf (R1 rfl) (by rw [dA (Decidable.of_not_not q0)]; rfl)) rfl<|H1 h16 [0] 3 rfl<|Q0 rfl<|C1 (cn func179) rfl rfl (number_c _ c.st h16) fun w17 h17 =>Q0 rfl<|I0 (Bf (R1 rfl) (by rw [dA (Decidable.of_not_not q1)]; rfl)) rfl<|H1 h17 [0] 4 rfl<|Q0 rfl<|C1 (cn func179) rfl rfl (number_c _ c.fr h17) fun w18 h18 =>Q0 rfl<|I0 (Bf (R1 rfl) (by rw [dA (Decidable.of_not_not q2)]; rfl)) rfl<|H1 h18 [0] 4 rfl<|Q0 rfl<|C1 (cn func179) rfl rfl (number_c _ c.un h18) fun w19 h19 =>Q0 rfl<|I0 (Bf (R1 rfl) (by rw [dA (Decidable.of_not_not q3)]; rfl)) rfl<|H1 h19 [0] 4 rfl<|Q0 rfl<|I0 (Bf (Q1 rfl rfl) (dN (by omega))) rfl<|H1 h19 [0] 4 rfl<|Q0 rfl<|I0 (Bt (Y1 rfl rfl) (dA (by omega))) rfl<|C0 23 rfl<|Wa<|J1 rfl (rfl)<|Wi<|C0 1 rfl<|J0 (H0 (O1 ?_))
  have hz : ¬ okC c := fun hh => by
   obtain ⟨g0, g1, g2, g3, ⟨g4, g4b⟩, ⟨g5, g5b⟩, g6⟩ := hh
   have g7 := nodes_len g6
   have g8 := g6.2
   omega
  refine ret1 rfl rfl ⟨?_, h19.drop 0⟩
  rw [show checkM c = 1 from if_neg hz]
 ·refine L0<|H1 h1 [0] 2 rfl<|C1 (cn func179) rfl rfl (number_c _ c.jb h1) fun w20 h20 =>I0 (Bf (R1 rfl) (by rw [dA (Decidable.of_not_not q0)]; rfl)) rfl<|H1 h20 [0] 3 rfl<|Q0 rfl<|C1 (cn func179) rfl rfl (number_c _ c.st h20) fun w21 h21 =>Q0 rfl<|I0 (Bf (R1 rfl) (by rw [dA (Decidable.of_not_not q1)]; rfl)) rfl<|H1 h21 [0] 4 rfl<|Q0 rfl<|C1 (cn func179) rfl rfl (number_c _ c.fr h21) fun w22 h22 =>Q0 rfl<|I0 (Bf (R1 rfl) (by rw [dA (Decidable.of_not_not q2)]; rfl)) rfl<|H1 h22 [0] 4 rfl<|Q0 rfl<|C1 (cn func179) rfl rfl (number_c _ c.un h22) fun w23 h23 =>Q0 rfl<|I0 (Bf (R1 rfl) (by rw [dA (Decidable.of_not_not q3)]; rfl)) rfl<|H1 h23 [0] 4 rfl<|Q0 rfl<|I0 (Bf (Q1 rfl rfl) (dN (by omega))) rfl<|H1 h23 [0] 4 rfl<|Q0 rfl<|I0 (Bf (Y1 rfl rfl) (dN (by omega))) rfl<|H1 h23 [0] 4 rfl<|Q0 rfl<|I0 (Bt (Q1 rfl rfl) (dA (by omega))) rfl<|C0 18 rfl<|Wa<|J1 rfl (rfl)<|Wi<|C0 1 rfl<|J0 (H0 (O1 ?_))
  have hz : ¬ okC c := fun hh => by
   obtain ⟨g0, g1, g2, g3, ⟨g4, g4b⟩, ⟨g5, g5b⟩, g6⟩ := hh
   have g7 := nodes_len g6
   have g8 := g6.2
   omega
  refine ret1 rfl rfl ⟨?_, h23.drop 0⟩
  rw [show checkM c = 1 from if_neg hz]
 ·refine L0<|H1 h1 [0] 2 rfl<|C1 (cn func179) rfl rfl (number_c _ c.jb h1) fun w24 h24 =>I0 (Bf (R1 rfl) (by rw [dA (Decidable.of_not_not q0)]; rfl)) rfl<|H1 h24 [0] 3 rfl<|Q0 rfl<|C1 (cn func179) rfl rfl (number_c _ c.st h24) fun w25 h25 =>Q0 rfl<|I0 (Bf (R1 rfl) (by rw [dA (Decidable.of_not_not q1)]; rfl)) rfl<|H1 h25 [0] 4 rfl<|Q0 rfl<|C1 (cn func179) rfl rfl (number_c _ c.fr h25) fun w26 h26 =>Q0 rfl<|I0 (Bf (R1 rfl) (by rw [dA (Decidable.of_not_not q2)]; rfl)) rfl<|H1 h26 [0] 4 rfl<|Q0 rfl<|C1 (cn func179) rfl rfl (number_c _ c.un h26) fun w27 h27 =>Q0 rfl<|I0 (Bf (R1 rfl) (by rw [dA (Decidable.of_not_not q3)]; rfl)) rfl<|H1 h27 [0] 4 rfl<|Q0 rfl<|I0 (Bf (Q1 rfl rfl) (dN (by omega))) rfl<|H1 h27 [0] 4 rfl<|Q0 rfl<|I0 (Bf (Y1 rfl rfl) (dN (by omega))) rfl<|H1 h27 [0] 4 rfl<|Q0 rfl<|I0 (Bf (Q1 rfl rfl) (dN (by omega))) rfl<|H1 h27 [0] 4 rfl<|Q0 rfl<|I0 (Bt (Y1 rfl rfl) (dA (by omega))) rfl<|C0 13 rfl<|Wa<|J1 rfl (rfl)<|Wi<|C0 1 rfl<|J0 (H0 (O1 ?_))
  have hz : ¬ okC c := fun hh => by
   obtain ⟨g0, g1, g2, g3, ⟨g4, g4b⟩, ⟨g5, g5b⟩, g6⟩ := hh
   have g7 := nodes_len g6
   have g8 := g6.2
   omega
  refine ret1 rfl rfl ⟨?_, h27.drop 0⟩
  rw [show checkM c = 1 from if_neg hz]
 ·refine L0<|H1 h1 [0] 2 rfl<|C1 (cn func179) rfl rfl (number_c _ c.jb h1) fun w28 h28 =>I0 (Bf (R1 rfl) (by rw [dA (Decidable.of_not_not q0)]; rfl)) rfl<|H1 h28 [0] 3 rfl<|Q0 rfl<|C1 (cn func179) rfl rfl (number_c _ c.st h28) fun w29 h29 =>Q0 rfl<|I0 (Bf (R1 rfl) (by rw [dA (Decidable.of_not_not q1)]; rfl)) rfl<|H1 h29 [0] 4 rfl<|Q0 rfl<|C1 (cn func179) rfl rfl (number_c _ c.fr h29) fun w30 h30 =>Q0 rfl<|I0 (Bf (R1 rfl) (by rw [dA (Decidable.of_not_not q2)]; rfl)) rfl<|H1 h30 [0] 4 rfl<|Q0 rfl<|C1 (cn func179) rfl rfl (number_c _ c.un h30) fun w31 h31 =>Q0 rfl<|I0 (Bf (R1 rfl) (by rw [dA (Decidable.of_not_not q3)]; rfl)) rfl<|H1 h31 [0] 4 rfl<|Q0 rfl<|I0 (Bf (Q1 rfl rfl) (dN (by omega))) rfl<|H1 h31 [0] 4 rfl<|Q0 rfl<|I0 (Bf (Y1 rfl rfl) (dN (by omega))) rfl<|H1 h31 [0] 4 rfl<|Q0 rfl<|I0 (Bf (Q1 rfl rfl) (dN (by omega))) rfl<|H1 h31 [0] 4 rfl<|Q0 rfl<|I0 (Bf (Y1 rfl rfl) (dN (by omega))) rfl<|H1 h31 [0] 4 rfl<|Q0 rfl<|I0 (R0 (n := (c.nd.length : Int)) (Y0 underlying33 rfl rfl) rfl) rfl<|Q0 rfl<|I0 (Bt (Q1 rfl rfl) (dA (by omega))) rfl<|C0 7 rfl<|Wa<|J1 rfl (rfl)<|Wi<|C0 1 rfl<|J0 (H0 (O1 ?_))
  have hz : ¬ okC c := fun hh => by
   obtain ⟨g0, g1, g2, g3, ⟨g4, g4b⟩, ⟨g5, g5b⟩, g6⟩ := hh
   have g7 := nodes_len g6
   have g8 := g6.2
   omega
  refine ret1 rfl rfl ⟨?_, h31.drop 0⟩
  rw [show checkM c = 1 from if_neg hz]
 ·refine L0<|H1 h1 [0] 2 rfl<|C1 (cn func179) rfl rfl (number_c _ c.jb h1) fun w32 h32 =>I0 (Bf (R1 rfl) (by rw [dA (Decidable.of_not_not q0)]; rfl)) rfl<|H1 h32 [0] 3 rfl<|Q0 rfl<|C1 (cn func179) rfl rfl (number_c _ c.st h32) fun w33 h33 =>Q0 rfl<|I0 (Bf (R1 rfl) (by rw [dA (Decidable.of_not_not q1)]; rfl)) rfl<|H1 h33 [0] 4 rfl<|Q0 rfl<|C1 (cn func179) rfl rfl (number_c _ c.fr h33) fun w34 h34 =>Q0 rfl<|I0 (Bf (R1 rfl) (by rw [dA (Decidable.of_not_not q2)]; rfl)) rfl<|H1 h34 [0] 4 rfl<|Q0 rfl<|C1 (cn func179) rfl rfl (number_c _ c.un h34) fun w35 h35 =>Q0 rfl<|I0 (Bf (R1 rfl) (by rw [dA (Decidable.of_not_not q3)]; rfl)) rfl<|H1 h35 [0] 4 rfl<|Q0 rfl<|I0 (Bf (Q1 rfl rfl) (dN (by omega))) rfl<|H1 h35 [0] 4 rfl<|Q0 rfl<|I0 (Bf (Y1 rfl rfl) (dN (by omega))) rfl<|H1 h35 [0] 4 rfl<|Q0 rfl<|I0 (Bf (Q1 rfl rfl) (dN (by omega))) rfl<|H1 h35 [0] 4 rfl<|Q0 rfl<|I0 (Bf (Y1 rfl rfl) (dN (by omega))) rfl<|H1 h35 [0] 4 rfl<|Q0 rfl<|I0 (R0 (n := (c.nd.length : Int)) (Y0 underlying33 rfl rfl) rfl) rfl<|Q0 rfl<|I0 (Bf (Q1 rfl rfl) (dN (by omega))) rfl<|H1 h35 [0] 4 rfl<|Q0 rfl<|I0 (R0 (n := (c.nd.length : Int)) (Y0 underlying33 rfl rfl) rfl) rfl<|Q0 rfl<|I0 (Bt (Y1 rfl rfl) (dA (by omega))) rfl<|C0 1 rfl<|Wa<|J1 rfl (rfl)<|Wi<|C0 1 rfl<|J0 (H0 (O1 ?_))
  have hz : ¬ okC c := fun hh => by
   obtain ⟨g0, g1, g2, g3, ⟨g4, g4b⟩, ⟨g5, g5b⟩, g6⟩ := hh
   have g7 := nodes_len g6
   have g8 := g6.2
   omega
  refine ret1 rfl rfl ⟨?_, h35.drop 0⟩
  rw [show checkM c = 1 from if_neg hz]
 refine L0<|H1 h1 [0] 2 rfl<|C1 (cn func179) rfl rfl (number_c _ c.jb h1) fun w36 h36 =>I0 (Bf (R1 rfl) (by rw [dA (Decidable.of_not_not q0)]; rfl)) rfl<|H1 h36 [0] 3 rfl<|Q0 rfl<|C1 (cn func179) rfl rfl (number_c _ c.st h36) fun w37 h37 =>Q0 rfl<|I0 (Bf (R1 rfl) (by rw [dA (Decidable.of_not_not q1)]; rfl)) rfl<|H1 h37 [0] 4 rfl<|Q0 rfl<|C1 (cn func179) rfl rfl (number_c _ c.fr h37) fun w38 h38 =>Q0 rfl<|I0 (Bf (R1 rfl) (by rw [dA (Decidable.of_not_not q2)]; rfl)) rfl<|H1 h38 [0] 4 rfl<|Q0 rfl<|C1 (cn func179) rfl rfl (number_c _ c.un h38) fun w39 h39 =>Q0 rfl<|I0 (Bf (R1 rfl) (by rw [dA (Decidable.of_not_not q3)]; rfl)) rfl<|H1 h39 [0] 4 rfl<|Q0 rfl<|I0 (Bf (Q1 rfl rfl) (dN (by omega))) rfl<|H1 h39 [0] 4 rfl<|Q0 rfl<|I0 (Bf (Y1 rfl rfl) (dN (by omega))) rfl<|H1 h39 [0] 4 rfl<|Q0 rfl<|I0 (Bf (Q1 rfl rfl) (dN (by omega))) rfl<|H1 h39 [0] 4 rfl<|Q0 rfl<|I0 (Bf (Y1 rfl rfl) (dN (by omega))) rfl<|H1 h39 [0] 4 rfl<|Q0 rfl<|I0 (R0 (n := (c.nd.length : Int)) (Y0 underlying33 rfl rfl) rfl) rfl<|Q0 rfl<|I0 (Bf (Q1 rfl rfl) (dN (by omega))) rfl<|H1 h39 [0] 4 rfl<|Q0 rfl<|I0 (R0 (n := (c.nd.length : Int)) (Y0 underlying33 rfl rfl) rfl) rfl<|Q0 rfl<|I0 (Bf (Y1 rfl rfl) (dN (by omega))) rfl<|C0 1 rfl<|Wa<|E1 rfl (rfl)<|U0<|H0<|N0<|Wi<|C0 1 rfl<|Wj<|B3 (σ := Nat) (fun q_ => [(1, pz b1), (3, .int .i64 (q_ : Int))]) (fun q_ w => q_ ≤ c.nd.length ∧ (∀ j, j < q_ → ndAt c.nd j) ∧ St W F ([(b1, .cells #[Vi c.jb, Vi c.ep, Vi c.st, Vi c.fr, Vi c.un, .slice A c.nd.length cap, Vi c.co] 169 (0, 0))] :: cs) w) (fun q_ => c.nd.length - q_) (0) (⟨Nat.zero_le _, fun j hj => absurd hj (Nat.not_lt_zero _), h39⟩) ?_
 rintro i w40 ⟨hi, hall, hL⟩
 try dsimp only at hi hall hL
 refine W2 [(1, pz b1), (3, .int .i64 (i : Int))]<|N0<|Wi<|H1 hL [0] 3 rfl<|I0 (R0 (n := (c.nd.length : Int)) (Y0 underlying33 rfl rfl) rfl) rfl<|I0 (Q1 rfl rfl) rfl<|Wa<|Z0 rfl (fun c41 => ?_) (fun c41 => ?_)
 ·try simp only [DD] at c41
  refine U0 (H0 (N0 (M1 (N0 ?_))))
  have hi2 : i < c.nd.length := by omega
  obtain ⟨ad, rfl, hrd⟩ := rd1 hR (by omega)
  have hlg := last_ge hall
  have hl0 := last_0 c.nd
  have hls := last_s (xs := c.nd) (i := i)
  rcases nodeCase (c.nd.getD i 0) (c.nd.getD (i - 1) 0) i with hx | ⟨hx, hy⟩ | ⟨hx, hy, hz⟩ | ⟨hx, hy, hz, hp⟩ | ⟨hx, hy, hz, hp⟩
  ·refine T2 (C := fun w_ => St W F _ w_) mixed (by kernel_rfl) (hL.drew)<|K5 [0] 3 rfl<|X0 (fun w_ hC_ => W0 underlying33 inf3 rfl rfl (n := i) rfl (by omega)) rfl<|X0 (fun w_ hC_ => I1 (f := Vi) (0 : Int) hC_ hrd (n := i) (by omega) underlying3 rfl rfl) rfl<|X0 (fun w_ hC_ => Bt (Q1 rfl rfl) (dA (by omega))) rfl<|M2 12 rfl<|Q2 rfl rfl rfl<|Q2 rfl rfl rfl<|Q2 rfl rfl rfl<|Q2 rfl rfl rfl<|Q2 rfl rfl rfl<|Q2 rfl rfl rfl<|Q2 rfl rfl rfl<|Q2 rfl rfl rfl<|Q2 rfl rfl rfl<|Q2 rfl rfl rfl<|Q2 rfl rfl rfl<|Q2 rfl rfl rfl<|M2 2 rfl<|K3 fun w42 h42=>H0<|J1 rfl (rfl)<|Wi<|C0 1 rfl<|J0 (H0 (O1 ?_))
   have hz : ¬ okC c := fun hh => by
    have g6 := hh.2.2.2.2.2.2.1 i hi2
    unfold ndAt at g6
    omega
   refine ret1 rfl rfl ⟨?_, h42.drop 0⟩
   rw [show checkM c = 1 from if_neg hz]
  ·refine T2 (C := fun w_ => St W F _ w_) mixed (by kernel_rfl) (hL.drew)<|K5 [0] 3 rfl<|X0 (fun w_ hC_ => W0 underlying33 inf3 rfl rfl (n := i) rfl (by omega)) rfl<|X0 (fun w_ hC_ => I1 (f := Vi) (0 : Int) hC_ hrd (n := i) (by omega) underlying3 rfl rfl) rfl<|X0 (fun w_ hC_ => Bf (Q1 rfl rfl) (dN (by omega))) rfl<|K5 [0] 4 rfl<|Y2 rfl<|X0 (fun w_ hC_ => W0 underlying33 inf3 rfl rfl (n := i) rfl (by omega)) rfl<|Y2 rfl<|X0 (fun w_ hC_ => I1 (f := Vi) (0 : Int) hC_ hrd (n := i) (by omega) underlying3 rfl rfl) rfl<|Y2 rfl<|X0 (fun w_ hC_ => Bt (Y1 rfl rfl) (dA (by omega))) rfl<|M2 5 rfl<|Q2 rfl rfl rfl<|Q2 rfl rfl rfl<|Q2 rfl rfl rfl<|Q2 rfl rfl rfl<|Q2 rfl rfl rfl<|Q2 rfl rfl rfl<|Q2 rfl rfl rfl<|Q2 rfl rfl rfl<|Q2 rfl rfl rfl<|Q2 rfl rfl rfl<|Q2 rfl rfl rfl<|Q2 rfl rfl rfl<|M2 2 rfl<|K3 fun w43 h43=>H0<|J1 rfl (rfl)<|Wi<|C0 1 rfl<|J0 (H0 (O1 ?_))
   have hz : ¬ okC c := fun hh => by
    have g6 := hh.2.2.2.2.2.2.1 i hi2
    unfold ndAt at g6
    omega
   refine ret1 rfl rfl ⟨?_, h43.drop 0⟩
   rw [show checkM c = 1 from if_neg hz]
  ·refine T2 (C := fun w_ => St W F _ w_) mixed (by kernel_rfl) (hL.drew)<|K5 [0] 3 rfl<|X0 (fun w_ hC_ => W0 underlying33 inf3 rfl rfl (n := i) rfl (by omega)) rfl<|X0 (fun w_ hC_ => I1 (f := Vi) (0 : Int) hC_ hrd (n := i) (by omega) underlying3 rfl rfl) rfl<|X0 (fun w_ hC_ => Bf (Q1 rfl rfl) (dN (by omega))) rfl<|K5 [0] 4 rfl<|Y2 rfl<|X0 (fun w_ hC_ => W0 underlying33 inf3 rfl rfl (n := i) rfl (by omega)) rfl<|Y2 rfl<|X0 (fun w_ hC_ => I1 (f := Vi) (0 : Int) hC_ hrd (n := i) (by omega) underlying3 rfl rfl) rfl<|Y2 rfl<|X0 (fun w_ hC_ => Bf (Y1 rfl rfl) (dN (by omega))) rfl<|M2 3 rfl<|Y2 rfl<|X0 (fun w_ hC_ => Bf (Y1 rfl rfl) (dN (by omega))) rfl<|M2 15 rfl<|K3 fun w44 h44=>H0<|E1 rfl (rfl)<|U0<|N1<|H0<|L0<|C0 1 rfl<|I0 (V0 rfl rfl (by omega)) rfl<|C0 1 rfl<|J0<|F1 (i + 1) (by omega) ⟨rfl, rfl, trivial⟩ ⟨by omega, fun j hj => (by
    by_cases e : j = i
    ·subst e
     unfold ndAt
     rcases Nat.eq_zero_or_pos j with e0 | e0
     ·subst e0
      omega
     have := last_s (xs := c.nd) e0
     omega
    exact hall j (by omega)), h44⟩
  ·have hls := hls hz
   refine T2 (C := fun w_ => St W F _ w_) mixed (by kernel_rfl) (hL.drew)<|K5 [0] 3 rfl<|X0 (fun w_ hC_ => W0 underlying33 inf3 rfl rfl (n := i) rfl (by omega)) rfl<|X0 (fun w_ hC_ => I1 (f := Vi) (0 : Int) hC_ hrd (n := i) (by omega) underlying3 rfl rfl) rfl<|X0 (fun w_ hC_ => Bf (Q1 rfl rfl) (dN (by omega))) rfl<|K5 [0] 4 rfl<|Y2 rfl<|X0 (fun w_ hC_ => W0 underlying33 inf3 rfl rfl (n := i) rfl (by omega)) rfl<|Y2 rfl<|X0 (fun w_ hC_ => I1 (f := Vi) (0 : Int) hC_ hrd (n := i) (by omega) underlying3 rfl rfl) rfl<|Y2 rfl<|X0 (fun w_ hC_ => Bf (Y1 rfl rfl) (dN (by omega))) rfl<|M2 3 rfl<|Y2 rfl<|X0 (fun w_ hC_ => Bt (Y1 rfl rfl) (dA (by omega))) rfl<|K5 [0] 4 rfl<|Y2 rfl<|X0 (fun w_ hC_ => W0 underlying33 inf3 rfl rfl (n := i) rfl (by omega)) rfl<|Y2 rfl<|X0 (fun w_ hC_ => I1 (f := Vi) (0 : Int) hC_ hrd (n := i) (by omega) underlying3 rfl rfl) rfl<|K5 [0] 3 rfl<|Y2 rfl<|X0 (fun w_ hC_ => N3 rfl rfl (by omega)) rfl<|Y2 rfl<|X0 (fun w_ hC_ => W0 underlying33 inf3 rfl rfl (n := i - 1) (by omega) (by omega)) rfl<|Y2 rfl<|X0 (fun w_ hC_ => I1 (f := Vi) (0 : Int) hC_ hrd (n := i - 1) (by omega) underlying3 rfl rfl) rfl<|Y2 rfl<|X0 (fun w_ hC_ => Bt (Z1 rfl rfl) (dA (by omega))) rfl<|M2 2 rfl<|K3 fun w45 h45=>H0<|J1 rfl (rfl)<|Wi<|C0 1 rfl<|J0 (H0 (O1 ?_))
   have hz : ¬ okC c := fun hh => by
    have g6 := hh.2.2.2.2.2.2.1 i hi2
    unfold ndAt at g6
    omega
   refine ret1 rfl rfl ⟨?_, h45.drop 0⟩
   rw [show checkM c = 1 from if_neg hz]
  have hls := hls hz
  refine T2 (C := fun w_ => St W F _ w_) mixed (by kernel_rfl) (hL.drew)<|K5 [0] 3 rfl<|X0 (fun w_ hC_ => W0 underlying33 inf3 rfl rfl (n := i) rfl (by omega)) rfl<|X0 (fun w_ hC_ => I1 (f := Vi) (0 : Int) hC_ hrd (n := i) (by omega) underlying3 rfl rfl) rfl<|X0 (fun w_ hC_ => Bf (Q1 rfl rfl) (dN (by omega))) rfl<|K5 [0] 4 rfl<|Y2 rfl<|X0 (fun w_ hC_ => W0 underlying33 inf3 rfl rfl (n := i) rfl (by omega)) rfl<|Y2 rfl<|X0 (fun w_ hC_ => I1 (f := Vi) (0 : Int) hC_ hrd (n := i) (by omega) underlying3 rfl rfl) rfl<|Y2 rfl<|X0 (fun w_ hC_ => Bf (Y1 rfl rfl) (dN (by omega))) rfl<|M2 3 rfl<|Y2 rfl<|X0 (fun w_ hC_ => Bt (Y1 rfl rfl) (dA (by omega))) rfl<|K5 [0] 4 rfl<|Y2 rfl<|X0 (fun w_ hC_ => W0 underlying33 inf3 rfl rfl (n := i) rfl (by omega)) rfl<|Y2 rfl<|X0 (fun w_ hC_ => I1 (f := Vi) (0 : Int) hC_ hrd (n := i) (by omega) underlying3 rfl rfl) rfl<|K5 [0] 3 rfl<|Y2 rfl<|X0 (fun w_ hC_ => N3 rfl rfl (by omega)) rfl<|Y2 rfl<|X0 (fun w_ hC_ => W0 underlying33 inf3 rfl rfl (n := i - 1) (by omega) (by omega)) rfl<|Y2 rfl<|X0 (fun w_ hC_ => I1 (f := Vi) (0 : Int) hC_ hrd (n := i - 1) (by omega) underlying3 rfl rfl) rfl<|Y2 rfl<|X0 (fun w_ hC_ => Bf (Z1 rfl rfl) (dN (by omega))) rfl<|M2 2 rfl<|K3 fun w46 h46=>H0<|E1 rfl (rfl)<|U0<|N1<|H0<|L0<|C0 1 rfl<|I0 (V0 rfl rfl (by omega)) rfl<|C0 1 rfl<|J0<|F1 (i + 1) (by omega) ⟨rfl, rfl, trivial⟩ ⟨by omega, fun j hj => (by
   by_cases e : j = i
   ·subst e
    unfold ndAt
    rcases Nat.eq_zero_or_pos j with e0 | e0
    ·subst e0
     omega
    have := last_s (xs := c.nd) e0
    omega
   exact hall j (by omega)), h46⟩
 try simp only [DD] at c41
 refine U1<|B2<|WX.cut<|E2<|H0<|Wi<|C0 1 rfl<|J0 (H0 (O1 ?_))
 have hz : okC c := ⟨Decidable.of_not_not q0, Decidable.of_not_not q1, Decidable.of_not_not q2, Decidable.of_not_not q3, ⟨by omega, by omega⟩, ⟨by omega, by omega⟩, fun j hj => hall j (by omega), by omega⟩
 refine ret1 rfl rfl ⟨?_, hL.drop 0⟩
 rw [show checkM c = 0 from if_pos hz]
end Cr
open Wir (Vi mayN numB listB)
namespace Cr
theorem inf169 : Inf prog 169 (.agg #[.int .i64 0, .int .i64 0, .int .i64 0, .int .i64 0, .int .i64 0, .slice none 0 0, .int .i64 0]) 7 72 := by unfold Inf; kernel_rfl
def numsC (c : C) : List Int := [c.jb, c.ep, c.st, c.fr, c.un, c.co]
def encC (c : C) : List UInt8 := if okC c then (numsC c).flatMap numB ++ listB c.nd else []
theorem encC_y {c : C} (h : okC c) : encC c = (numsC c).flatMap numB ++ listB c.nd := if_pos h
theorem encC_n {c : C} (h : ¬ okC c) : encC c = [] := if_neg h
theorem nums_at (c : C) {k : Nat} (hk : k < 6) : (#[Vi c.jb, Vi c.ep, Vi c.st, Vi c.fr, Vi c.un, Vi c.co])[k]? = some (Vi ((numsC c).getD k 0)) := by
 have : k = 0 ∨ k = 1 ∨ k = 2 ∨ k = 3 ∨ k = 4 ∨ k = 5 := by omega
 rcases this with rfl | rfl | rfl | rfl | rfl | rfl <;> rfl
theorem list_len (xs : List Int) : (listB xs).length ≤ 7 + 7 * xs.length := by
 unfold Wir.listB
 have h1 := Wir.numB_len (xs.length : Int)
 have h2 := Wir.flat_len xs
 split
 ·simp
 split
 ·rw [lA]; omega
 simp
theorem encC_len {c : C} : (encC c).length ≤ 200 := by
 by_cases h : okC c
 ·rw [encC_y h, lA]
  have h1 := list_len c.nd
  have h2 := Wir.flat_len (numsC c)
  have h3 := nodes_len h.2.2.2.2.2.2
  have h4 : (numsC c).length = 6 := rfl
  omega
 rw [encC_n h]; exact Nat.zero_le _
theorem enc_six (c : C) : (numsC c).flatMap numB = numB c.jb ++ (numB c.ep ++ (numB c.st ++ (numB c.fr ++ (numB c.un ++ numB c.co)))) := by
 simp [numsC]
theorem chk_0 {c : C} : checkM c = 0 ↔ okC c := by
 unfold checkM
 by_cases h : okC c
 ·rw [if_pos h]; simp [h]
 rw [if_neg h]; simp [h]
theorem encode_c (w : World) {A : Option Addr} {cap : Nat} {c : C} (h : St W F cs w) (hR : RdS (Kd.one Vi) F A c.nd) (hn : c.nd.length ≤ 100000) : Calls prog 168 #[.agg #[Vi c.jb, Vi c.ep, Vi c.st, Vi c.fr, Vi c.un, .slice A c.nd.length cap, Vi c.co]] w fun r w' => r = .returned (.string (bs (encC c))) ∧ St W F cs w'  := by
 refine enter (args := [.agg #[Vi c.jb, Vi c.ep, Vi c.st, Vi c.fr, Vi c.un, .slice A c.nd.length cap, Vi c.co]]) func168 rfl rfl rfl<|Wi<|J3 rfl h rfl fun b1 w1 h1=>C0 1 rfl<|Wh<|I0 (U2 h1 0 rfl underlying169 rfl inf169 rfl rfl) rfl<|C1 (cn func175) rfl rfl (check_c _ h1 hR (by omega)) fun w2 h2 =>I0 (J2 rfl rfl) rfl<|Wa<|Z0 rfl (fun c3 => ?_) (fun c3 => ?_)
 ·try simp only [DD] at c3
  refine Wi<|C0 1 rfl<|Wg<|ret1 rfl rfl ⟨?_, h2.drop 0⟩
  rw [encC_n (fun hh => c3 (chk_0.2 hh))]; rfl
 try simp only [DD] at c3
 refine Wk<|C0 1 rfl<|Wh<|H1 h2 [0, 0, 0, 0, 0, 0] 12 rfl<|I0 (R2 (vs := [(0, Vi c.jb), (1, Vi c.ep), (2, Vi c.st), (3, Vi c.fr), (4, Vi c.un), (5, Vi c.co)]) (cells := #[Vi c.jb, Vi c.ep, Vi c.st, Vi c.fr, Vi c.un, Vi c.co]) rfl (by kernel_rfl)) rfl<|C0 1 rfl<|Wj<|B3 (σ := Nat) (fun q_ => [(1, pz b1), (3, .string (bs (((numsC c).take q_).flatMap numB))), (21, .agg #[Vi c.jb, Vi c.ep, Vi c.st, Vi c.fr, Vi c.un, Vi c.co]), (22, .int .i64 (q_ : Int))]) (fun q_ w => q_ ≤ 6 ∧ St W F ([(b1, .cells #[Vi c.jb, Vi c.ep, Vi c.st, Vi c.fr, Vi c.un, .slice A c.nd.length cap, Vi c.co] 169 (0, 0))] :: cs) w) (fun q_ => 6 - q_) (0) (⟨Nat.zero_le _, h2⟩) ?_
 rintro k w4 ⟨hk, hL⟩
 try dsimp only at hk hL
 refine W2 [(1, pz b1), (3, .string (bs (((numsC c).take k).flatMap numB))), (21, .agg #[Vi c.jb, Vi c.ep, Vi c.st, Vi c.fr, Vi c.un, Vi c.co]), (22, .int .i64 (k : Int))] ?_
 have hfl := Wir.flat_len ((numsC c).take k)
 rw [List.length_take, show (numsC c).length = 6 from rfl] at hfl
 refine Wi<|I0 (Q1 rfl rfl) rfl<|Wb<|Z0 rfl (fun c5 => ?_) (fun c5 => ?_)
 ·try simp only [DD] at c5
  refine U0<|H0<|N0<|M1<|Wi<|I0 (R0 (n := (numsC c).getD k 0) (F6 underlying211 underlying3 rfl inf3 rfl rfl (n := k) rfl (by omega) (u := Vi ((numsC c).getD k 0)) (nums_at c (by omega))) rfl) rfl<|C0 1 rfl<|Wf<|C0 2 rfl<|C1 (cn func76) rfl rfl (Wir.wnum_c _ _ hL) fun w6 h6 =>I0 (M3 rfl rfl (by have := Wir.numB_len ((numsC c).getD k 0); omega)) rfl<|C0 1 rfl<|J0<|N1<|H0<|L0<|I0 (V0 rfl rfl (by omega)) rfl<|C0 1 rfl<|J0<|F1 (k + 1) (by omega) ⟨rfl, (by show some (Value.string _) = some (Value.string _); rw [Wir.flat_take (by show k < 6; omega)]), rfl, rfl, trivial⟩ ⟨by omega, h6⟩
 try simp only [DD] at c5
 refine U1<|B2<|WX.cut<|E2<|H0<|Wi<|H1 hL [0] 3 rfl<|C1 (cn func176) rfl rfl (Wir.wlist_c _ hL hR hn) fun w7 h7 =>I0 (M3 rfl rfl (by have := list_len c.nd; omega)) rfl<|C0 1 rfl<|J0 (H0 (O1 ?_))
 obtain rfl : k = 6 := by omega
 refine ret1 rfl rfl ⟨?_, h7.drop 0⟩
 rw [encC_y (chk_0.1 (by simpa using c3))]; rfl
theorem qencode_c (w : World) {A : Option Addr} {cap : Nat} {c : C} (h : St W F cs w) (hR : RdS (Kd.one Vi) F A c.nd) (hn : c.nd.length ≤ 100000) : Calls prog 158 #[.agg #[Vi c.jb, Vi c.ep, Vi c.st, Vi c.fr, Vi c.un, .slice A c.nd.length cap, Vi c.co]] w fun r w' => r = .returned (.string (bs (encC c))) ∧ St W F cs w'  := by
 refine enter (args := [.agg #[Vi c.jb, Vi c.ep, Vi c.st, Vi c.fr, Vi c.un, .slice A c.nd.length cap, Vi c.co]]) func158 rfl rfl rfl<|Wi<|J3 rfl h rfl fun b1 w1 h1=>C0 1 rfl<|Wh<|I0 (U2 h1 0 rfl underlying169 rfl inf169 rfl rfl) rfl<|C1 (cn func170) rfl rfl (qcheck_c _ h1 hR (by omega)) fun w2 h2 =>I0 (J2 rfl rfl) rfl<|Wa<|Z0 rfl (fun c3 => ?_) (fun c3 => ?_)
 ·try simp only [DD] at c3
  refine Wi<|C0 1 rfl<|Wg<|ret1 rfl rfl ⟨?_, h2.drop 0⟩
  rw [encC_n (fun hh => c3 (chk_0.2 hh))]; rfl
 try simp only [DD] at c3
 refine U0<|H0<|N0<|T2 (C := fun w_ => St W F _ w_) mixed (by kernel_rfl) (h2.drew)<|K5 [0] 2 rfl<|H4 (cn func80) rfl rfl (fun w_ hC_ => Wir.rnum_c _ _ hC_)<|K5 [0] 2 rfl<|H4 (cn func80) rfl rfl (fun w_ hC_ => Wir.rnum_c _ _ hC_)<|X0 (fun w_ hC_ => M3 rfl rfl (by have := Wir.numB_len c.jb; have := Wir.numB_len c.ep; omega)) rfl<|K5 [0] 2 rfl<|H4 (cn func80) rfl rfl (fun w_ hC_ => Wir.rnum_c _ _ hC_)<|X0 (fun w_ hC_ => M3 rfl rfl (by have := Wir.numB_len c.jb; have := Wir.numB_len c.ep; have := Wir.numB_len c.st; have := Wir.numB_len c.fr; have := Wir.numB_len c.un; have := Wir.numB_len c.co; have := list_len c.nd; simp only [lA]; omega)) rfl<|M2 1 rfl<|K3 fun w4 h4=>H0<|N0<|T2 (C := fun w_ => St W F _ w_) mixed (by kernel_rfl) (h4.drew)<|K5 [0] 3 rfl<|H4 (cn func80) rfl rfl (fun w_ hC_ => Wir.rnum_c _ _ hC_)<|X0 (fun w_ hC_ => M3 rfl rfl (by have := Wir.numB_len c.jb; have := Wir.numB_len c.ep; have := Wir.numB_len c.st; have := Wir.numB_len c.fr; have := Wir.numB_len c.un; have := Wir.numB_len c.co; have := list_len c.nd; simp only [lA]; omega)) rfl<|K5 [0] 2 rfl<|H4 (cn func80) rfl rfl (fun w_ hC_ => Wir.rnum_c _ _ hC_)<|X0 (fun w_ hC_ => M3 rfl rfl (by have := Wir.numB_len c.jb; have := Wir.numB_len c.ep; have := Wir.numB_len c.st; have := Wir.numB_len c.fr; have := Wir.numB_len c.un; have := Wir.numB_len c.co; have := list_len c.nd; simp only [lA]; omega)) rfl<|K5 [0] 2 rfl<|H4 (cn func80) rfl rfl (fun w_ hC_ => Wir.rnum_c _ _ hC_)<|X0 (fun w_ hC_ => M3 rfl rfl (by have := Wir.numB_len c.jb; have := Wir.numB_len c.ep; have := Wir.numB_len c.st; have := Wir.numB_len c.fr; have := Wir.numB_len c.un; have := Wir.numB_len c.co; have := list_len c.nd; simp only [lA]; omega)) rfl<|K5 [0] 2 rfl<|H4 (cn func171) rfl rfl (fun w_ hC_ => Wir.rlist_c _ hC_ hR hn)<|X0 (fun w_ hC_ => M3 rfl rfl (by have := Wir.numB_len c.jb; have := Wir.numB_len c.ep; have := Wir.numB_len c.st; have := Wir.numB_len c.fr; have := Wir.numB_len c.un; have := Wir.numB_len c.co; have := list_len c.nd; simp only [lA]; omega)) rfl<|M2 1 rfl<|K3 fun w5 h5=>H0<|O1<|ret1 rfl rfl ⟨?_, h5.drop 0⟩
 rw [encC_y (chk_0.1 (by simpa using c3)), enc_six]
 simp only [List.append_assoc]
end Cr
open Wir (Vi mayN numB listB rdN rdL rdEnd)
namespace Cr
theorem bs_dl (l : List UInt8) : (bs l).data.toList = l := by simp [bs]
theorem hmac_len (k s : List UInt8) : (ShaM.hmac k s).length = 32 := by unfold ShaM.hmac; exact Sha.of_len _
theorem hmac_b (w : World) (k s : List UInt8) (h : St W F cs w) (hk : k.length ≤ 900000) (hs : s.length ≤ 900000) : Calls prog 169 #[.string (bs k), .string (bs s)] w fun e w' => e = .returned (.string (bs (ShaM.hmac k s))) ∧ St W F cs w' := by
 have := Sha.hmac_c w (bs k) (bs s) h (by rw [bs_size]; exact hk) (by rw [bs_size]; exact hs)
 rw [bs_dl, bs_dl] at this
 exact this
theorem qhmac_b (w : World) (k s : List UInt8) (h : St W F cs w) (hk : k.length ≤ 900000) (hs : s.length ≤ 900000) : Calls prog 159 #[.string (bs k), .string (bs s)] w fun e w' => e = .returned (.string (bs (ShaM.hmac k s))) ∧ St W F cs w' := by
 have := Sha.rhmac_c w (bs k) (bs s) h (by rw [bs_size]; exact hk) (by rw [bs_size]; exact hs)
 rw [bs_dl, bs_dl] at this
 exact this
def signM (k : List UInt8) (c : C) : List UInt8 := if encC c = [] then [] else encC c ++ ShaM.hmac k (encC c)
theorem sign_c (w : World) {A : Option Addr} {cap : Nat} {c : C} (k : List UInt8) (hk : k.length ≤ 900000) (h : St W F cs w) (hR : RdS (Kd.one Vi) F A c.nd) (hn : c.nd.length ≤ 100000) : Calls prog 152 #[.string (bs k), .agg #[Vi c.jb, Vi c.ep, Vi c.st, Vi c.fr, Vi c.un, .slice A c.nd.length cap, Vi c.co]] w fun r w' => r = .returned (.string (bs (signM k c))) ∧ St W F cs w'  := by
 refine enter (args := [.string (bs k), .agg #[Vi c.jb, Vi c.ep, Vi c.st, Vi c.fr, Vi c.un, .slice A c.nd.length cap, Vi c.co]]) func152 rfl rfl rfl<|Wi<|J3 rfl h rfl fun b3 w1 h1=>C0 1 rfl<|We<|I0 (U2 h1 0 rfl underlying169 rfl inf169 rfl rfl) rfl<|C1 (cn func168) rfl rfl (encode_c _ h1 hR hn) fun w2 h2 =>C0 1 rfl<|Wh<|C0 1 rfl<|I0 (O6 rfl rfl) rfl<|Wa<|Z0 rfl (fun c3 => ?_) (fun c3 => ?_)
 ·try simp only [DD] at c3
  refine Wi<|C0 1 rfl<|Wg<|ret1 rfl rfl ⟨?_, h2.drop 0⟩
  unfold signM
  rw [if_pos (by simpa using c3)]; try rfl
 try simp only [DD] at c3
 refine Wk<|C0 3 rfl<|C1 (cn func169) rfl rfl (hmac_b _ k (encC c) h2 hk (by have := encC_len (c := c); omega)) fun w4 h4 =>I0 (M3 rfl rfl (by have := encC_len (c := c); have := hmac_len k (encC c); omega)) rfl<|C0 1 rfl<|Wg<|ret1 rfl rfl ⟨?_, h4.drop 0⟩
 unfold signM
 rw [if_neg (by simpa using c3)]; try rfl
theorem qsign_c (w : World) {A : Option Addr} {cap : Nat} {c : C} (k : List UInt8) (hk : k.length ≤ 900000) (h : St W F cs w) (hR : RdS (Kd.one Vi) F A c.nd) (hn : c.nd.length ≤ 100000) : Calls prog 136 #[.string (bs k), .agg #[Vi c.jb, Vi c.ep, Vi c.st, Vi c.fr, Vi c.un, .slice A c.nd.length cap, Vi c.co]] w fun r w' => r = .returned (.string (bs (signM k c))) ∧ St W F cs w'  := by
 refine enter (args := [.string (bs k), .agg #[Vi c.jb, Vi c.ep, Vi c.st, Vi c.fr, Vi c.un, .slice A c.nd.length cap, Vi c.co]]) func136 rfl rfl rfl<|Wi<|J3 rfl h rfl fun b3 w1 h1=>C0 1 rfl<|We<|I0 (U2 h1 0 rfl underlying169 rfl inf169 rfl rfl) rfl<|C1 (cn func158) rfl rfl (qencode_c _ h1 hR hn) fun w2 h2 =>C0 1 rfl<|Wh<|C0 1 rfl<|I0 (O6 rfl rfl) rfl<|Wa<|Z0 rfl (fun c3 => ?_) (fun c3 => ?_)
 ·try simp only [DD] at c3
  refine Wi<|C0 1 rfl<|Wg<|ret1 rfl rfl ⟨?_, h2.drop 0⟩
  unfold signM
  rw [if_pos (by simpa using c3)]; try rfl
 try simp only [DD] at c3
 refine Wk<|C0 3 rfl<|C1 (cn func159) rfl rfl (qhmac_b _ k (encC c) h2 hk (by have := encC_len (c := c); omega)) fun w4 h4 =>I0 (M3 rfl rfl (by have := encC_len (c := c); have := hmac_len k (encC c); omega)) rfl<|C0 1 rfl<|Wg<|ret1 rfl rfl ⟨?_, h4.drop 0⟩
 unfold signM
 rw [if_neg (by simpa using c3)]; try rfl
end Cr
end
open Dg (S E S0 E0 KS KE chkM settleM readyM overM withM okAll)
open Tal (T TR RR okN)
open Wir (M encB decB mayM mayN numB textB)
open Cr (C signM)
namespace Ct
theorem mixed : prog.follows .mixedOrders = true := by kernel_rfl
abbrev Vi (n : Int) : Value := .int .i64 n
instance (ns : List Int) : Decidable (Tal.oks ns) := decidable_of_iff ((∀ k, k < ns.length → 0 ≤ ns.getD k 0 ∧ ns.getD k 0 < 16) ∧ ∀ k, k < ns.length - 1 → ns.getD k 0 < ns.getD (k + 1) 0) ⟨fun h => ⟨h.1, fun k hk => h.2 k (by omega)⟩, fun h => ⟨h.1, fun k hk => h.2 k (by omega)⟩⟩
instance (ns : List Int) : Decidable (okN ns) := inferInstanceAs (Decidable (_ ∧ _))
structure J where
 ns : List Int
 ss : List S
 id : Int
 ep : Int
 ph : Int
 ft : Int
 cd : Int
 cs : List Int
 ts : List (Option T)
 rd : List Int
 gn : List Int
 ak : Bool
def J.begin (x : J) : J := { x with ph := 0, ft := 0, cd := 0, cs := List.replicate x.ss.length (-1), ts := List.replicate x.ss.length none, rd := [], gn := [] }
def J.fin (x : J) (ft cd : Int) : J := { x with ph := 2, ft := ft, cd := cd }
def cod (ak : Bool) (c : Int) (o : Option T) : Int :=
 if c ≠ -1 then c else match o with
 |none => if ak then 256 else -1
 |some t => if t.state = 2 then 255 else if t.state = 3 then t.code else -1
def seen (ak : Bool) (cs : List Int) (ts : List (Option T)) : List Int := List.zipWith (cod ak) cs ts
def opn1 (ns : List Int) (ts : List (Option T)) (i : Int) : List (Option T) := if (ts.getD i.toNat none).isNone then ts.set i.toNat (some (T.new ns)) else ts
def opnL (ns : List Int) (ts : List (Option T)) (l : List Int) : List (Option T) := l.foldl (opn1 ns) ts
def J.cs' (x : J) : List Int := settleM x.ss (seen x.ak x.cs x.ts)
def J.mid (x : J) : J := { x with cs := x.cs', ts := opnL x.ns x.ts (readyM x.ss x.cs') }
def J.end_ (x : J) : J := if (overM x.ss x.cs).2 = false then x else if x.ak = true ∨ (overM x.ss x.cs).1 ≠ 0 then x.fin 1 (overM x.ss x.cs).1 else x.fin 0 0
def J.look (x : J) : J := x.mid.end_
def J.ask (x : J) : J := { x with ak := true }
def J.cancel (x : J) : J := if x.ph = 1 then x.ask.look else x.ask
def with_ (l : List Int) (n : Int) : List Int := if n ∈ l then l else l ++ [n]
def J.hasR (x : J) (n : Int) : J := { x with rd := with_ x.rd n }
def J.run (x : J) : J := { x with ph := 1 }
def J.started (x : J) (n a : Int) : J :=
 if a = 0 then if (x.hasR n).rd.length = x.ns.length then (x.hasR n).run.look else x.hasR n
 else if x.ep < 3 then x.fin 2 0 else x.fin 1 0
def says (t : T) (m : M) : Int × T := if m.k = 3 then t.vote m.f (decide (m.ar = 1)) else t.exit m.f m.ar
def J.put (x : J) (i : Nat) (t : T) : J := { x with ts := x.ts.set i (some t) }
def J.said (x : J) (m : M) : Bool × J :=
 if (x.ts.length : Int) ≤ m.st then (false, x) else match x.ts.getD m.st.toNat none with
 |none => (false, x)
 |some t => if (says t m).1 ≠ 0 then (false, x) else (true, (x.put m.st.toNat (says t m).2).look)
def J.hasG (x : J) (n : Int) : J := { x with gn := with_ x.gn n }
def J.left (x : J) (n : Int) : J :=
 if (x.hasG n).gn.length < x.ns.length then x.hasG n
 else if x.ft = 2 then { x.hasG n with ep := x.ep + 1 }.begin else { x.hasG n with ph := 3 }
def J.hear (x : J) (m : M) : Bool × J :=
 if m.k = 1 ∧ x.ph = 0 then (true, x.started m.f m.ar)
 else if (m.k = 3 ∨ m.k = 6) ∧ x.ph = 1 then x.said m
 else if m.k = 9 ∧ x.ph = 2 then (true, x.left m.f)
 else (false, x)
def J.mine (x : J) (m : M) : Prop := m.t = -1 ∧ m.ep = x.ep ∧ m.f ∈ x.ns
instance (x : J) (m : M) : Decidable (x.mine m) := inferInstanceAs (Decidable (_ ∧ _ ∧ _))
def newJ (ns : List Int) (ss : List S) (n : Nat) : J := J.begin ⟨ns, ss, (n : Int) + 1, 0, 0, 0, 0, [], [], [], [], false⟩
def wideM (ss : List S) : Bool := ss.any fun s => decide (256 < s.rk * s.per)
def subE (js : List J) (ns : List Int) (ss : List S) : Int := if ¬ okN ns then 1 else if chkM ss ≠ 0 then chkM ss else if wideM ss = true then 1 else if js.length = 16 then 6 else 0
def subM (js : List J) (ns : List Int) (ss : List S) : (Int × Int) × List J := if subE js ns ss = 0 then (((js.length : Int) + 1, 0), js ++ [newJ ns ss js.length]) else ((0, subE js ns ss), js)
def at_ (js : List J) (id : Int) : Option Nat := if id < 1 ∨ (js.length : Int) < id then none else some (id - 1).toNat
def canM (js : List J) (id : Int) : Int × List J := match at_ js id with
 |none => (1, js)
 |some i => match js[i]? with
  |none => (1, js)
  |some x => if 2 ≤ x.ph then (14, js) else (0, js.set i x.cancel)
def delM (js : List J) (l : List UInt8) : Bool × List J := if (decB l).2 ≠ 0 then (false, js) else match at_ js (decB l).1.j with
 |none => (false, js)
 |some i => match js[i]? with
  |none => (false, js)
  |some x => if x.mine (decB l).1 then ((x.hear (decB l).1).1, js.set i (x.hear (decB l).1).2) else (false, js)
def packM (cr : List UInt8) (s : S) : List UInt8 := textB cr ++ numB s.rk ++ numB s.per ++ numB s.ds ++ numB s.lim
def J.cred (x : J) (i : Nat) (now : Int) : C := ⟨x.id, x.ep, i, now, IntKind.i64.wrap (now + 8), x.ns, (x.ss.getD i S0).rk * (x.ss.getD i S0).per⟩
def J.order (x : J) (key : List UInt8) (i : Nat) (now : Int) : List UInt8 := packM (signM key (x.cred i now)) (x.ss.getD i S0)
def J.msg (x : J) (k n : Int) (i : Nat) (tx : List UInt8) : M := ⟨k, -1, n, x.id, x.ep, i, 0, tx⟩
def J.stepO (x : J) (key : List UInt8) (now : Int) (i : Nat) : List M := match x.ts.getD i none with
 |none => []
 |some t =>
  if t.state = 0 then t.missing.map fun n => x.msg 2 n i (x.order key i now)
  else if t.state = 1 then t.missing.flatMap fun n => x.msg 4 n i [] :: (if x.ak = true then [x.msg 7 n i []] else [])
  else if t.state = 2 then x.ns.map fun n => x.msg 5 n i []
  else []
def J.stepsO (x : J) (key : List UInt8) (now : Int) : List M := (List.range x.ts.length).flatMap (x.stepO key now)
def no2 (o : Option T) : Bool := match o with
 |none => false
 |some t => decide (t.state = 2)
def J.abrt (x : J) (n : Int) : List M := ((List.range x.ts.length).filter fun i => no2 (x.ts.getD i none)).map fun i => x.msg 5 n i []
def J.lastO (x : J) : List M := (x.ns.filter fun n => decide (n ∉ x.gn)).flatMap fun n => x.abrt n ++ [x.msg 8 n 0 []]
def J.firstO (x : J) : List M := (x.ns.filter fun n => decide (n ∉ x.rd)).map fun n => x.msg 0 n 0 []
def J.out (x : J) (key : List UInt8) (now : Int) : List M := if x.ph = 0 then x.firstO else if x.ph = 1 then x.stepsO key now else if x.ph = 2 then x.lastO else []
def outM (js : List J) (key : List UInt8) (now : Int) : List (List UInt8) := (js.flatMap fun x => x.out key now).map encB
structure J.ok (x : J) : Prop where
 ns : okN x.ns
 ss : chkM x.ss = 0
 wd : wideM x.ss = false
 id : 1 ≤ x.id ∧ x.id ≤ 16
 ep : 0 ≤ x.ep ∧ x.ep ≤ 3
 rq : x.ft = 2 → x.ep < 3
 ph : 0 ≤ x.ph ∧ x.ph ≤ 3
 lc : x.cs.length = x.ss.length
 lt : x.ts.length = x.ss.length
 cv : ∀ c ∈ x.cs, -1 ≤ c ∧ c ≤ 256
 tv : ∀ t, some t ∈ x.ts → t.ns = x.ns ∧ t.vs.length = t.ns.length ∧ t.cs.length = t.ns.length ∧ ∀ c, some c ∈ t.cs → 0 ≤ c ∧ c ≤ 255
 rn : ∀ n ∈ x.rd, n ∈ x.ns
 gn : ∀ n ∈ x.gn, n ∈ x.ns
end Ct
section
variable {cs : List Res}
open Dg (S E S0 E0 KS KE chkM settleM readyM overM withM okAll)
open Tal (T TR RR okN)
open Wir (M encB decB mayM mayN numB textB)
open Cr (C signM)
namespace Ct
theorem mem_zip {α β γ : Type} {f : α → β → γ} : ∀ {l : List α} {m : List β} {c : γ}, c ∈ List.zipWith f l m → ∃ a b, a ∈ l ∧ b ∈ m ∧ c = f a b
 |[], _, c, h => by simp at h
 |a :: l, [], c, h => by simp at h
 |a :: l, b :: m, c, h => by
  rw [List.zipWith_cons_cons, List.mem_cons] at h
  rcases h with h | h
  ·exact ⟨a, b, List.mem_cons_self, List.mem_cons_self, h⟩
  obtain ⟨x, y, h1, h2, h3⟩ := mem_zip h
  exact ⟨x, y, List.mem_cons_of_mem _ h1, List.mem_cons_of_mem _ h2, h3⟩
theorem foldl_max_in {P : Int → Prop} : ∀ {l : List Int} {a : Int}, P a → (∀ c ∈ l, P c) → P (l.foldl max a)
 |[], a, ha, _ => ha
 |b :: l, a, ha, h => by
  rw [List.foldl_cons]
  refine foldl_max_in ?_ fun c hc => h c (List.mem_cons_of_mem _ hc)
  rw [Int.max_def]
  split
  ·exact h b List.mem_cons_self
  exact ha
structure tok (ns : List Int) (t : T) : Prop where
 ns : t.ns = ns
 lv : t.vs.length = t.ns.length
 lc : t.cs.length = t.ns.length
 ok : ∀ c, some c ∈ t.cs → 0 ≤ c ∧ c ≤ 255
theorem tok.code {ns : List Int} {t : T} (h : tok ns t) : 0 ≤ t.code ∧ t.code ≤ 255 := by
 unfold T.code
 split
 ·omega
 have hall : ∀ c ∈ t.cs.map (fun o => Option.getD o 0), 0 ≤ c ∧ c ≤ 255 := fun c hc => by
  obtain ⟨o, ho, rfl⟩ := List.mem_map.1 hc
  cases o with
  |none => exact ⟨by decide, by decide⟩
  |some c => exact h.ok c ho
 revert hall
 generalize t.cs.map (fun o => Option.getD o 0) = l
 intro hall
 cases l with
 |nil => exact ⟨by decide, by decide⟩
 |cons a l => exact foldl_max_in (P := fun c => 0 ≤ c ∧ c ≤ 255) (hall a List.mem_cons_self) fun c hc => hall c (List.mem_cons_of_mem _ hc)
theorem put_len {α : Type} {n : Int} {x : α} : ∀ {ns : List Int} {os : List (Option α)}, (Tal.put n x ns os).length = os.length
 |[], [] => rfl
 |[], _ :: _ => rfl
 |_ :: _, [] => rfl
 |m :: ns, o :: os => by
  unfold Tal.put
  split
  ·rfl
  rw [List.length_cons, List.length_cons, put_len]
theorem put_mem {α : Type} {n : Int} {x y : α} : ∀ {ns : List Int} {os : List (Option α)}, some y ∈ Tal.put n x ns os → y = x ∨ some y ∈ os
 |[], [], h => .inr h
 |[], _ :: _, h => .inr h
 |_ :: _, [], h => .inr h
 |m :: ns, o :: os, h => by
  unfold Tal.put at h
  split at h
  ·rcases List.mem_cons.1 h with h | h
   ·exact .inl (Option.some.inj h)
   exact .inr (List.mem_cons_of_mem _ h)
  rcases List.mem_cons.1 h with h | h
  ·exact .inr (h ▸ List.mem_cons_self)
  rcases put_mem h with h | h
  ·exact .inl h
  exact .inr (List.mem_cons_of_mem _ h)
theorem say_len {α : Type} [DecidableEq α] {ns : List Int} {os : List (Option α)} {n : Int} {x : α} {b : Bool} : (Tal.say ns os n x b).2.length = os.length := by
 unfold Tal.say
 split
 ·rfl
 ·split <;> rfl
 split
 ·exact put_len
 rfl
theorem say_mem {α : Type} [DecidableEq α] {ns : List Int} {os : List (Option α)} {n : Int} {x y : α} {b : Bool} (h : some y ∈ (Tal.say ns os n x b).2) : y = x ∨ some y ∈ os := by
 unfold Tal.say at h
 split at h
 ·exact .inr h
 ·split at h <;> exact .inr h
 split at h
 ·exact put_mem h
 exact .inr h
theorem tok.vote {ns : List Int} {t : T} (h : tok ns t) (n : Int) (b : Bool) : tok ns (t.vote n b).2 := ⟨h.ns, say_len.trans h.lv, h.lc, h.ok⟩
theorem tok.exit {ns : List Int} {t : T} (h : tok ns t) (n c : Int) : tok ns (t.exit n c).2 := by
 unfold T.exit
 split
 ·exact h
 rename_i hc
 refine ⟨h.ns, h.lv, say_len.trans h.lc, fun d hd => ?_⟩
 rcases say_mem hd with rfl | hd
 ·omega
 exact h.ok d hd
theorem tok.says {ns : List Int} {t : T} (h : tok ns t) (m : M) : tok ns (says t m).2 := by
 unfold Ct.says
 split
 ·exact h.vote _ _
 exact h.exit _ _
theorem tok.new (ns : List Int) : tok ns (T.new ns) := ⟨rfl, by simp [T.new], by simp [T.new], fun c hc => by simp [T.new] at hc⟩
theorem J.ok.tk {x : J} (h : x.ok) {t : T} (ht : some t ∈ x.ts) : tok x.ns t := ⟨(h.tv t ht).1, (h.tv t ht).2.1, (h.tv t ht).2.2.1, (h.tv t ht).2.2.2⟩
theorem tok.tv {ns : List Int} {t : T} (h : tok ns t) : t.ns = ns ∧ t.vs.length = t.ns.length ∧ t.cs.length = t.ns.length ∧ ∀ c, some c ∈ t.cs → 0 ≤ c ∧ c ≤ 255 := ⟨h.ns, h.lv, h.lc, h.ok⟩
theorem seen_len {ak : Bool} {cs : List Int} {ts : List (Option T)} (h : ts.length = cs.length) : (seen ak cs ts).length = cs.length := by
 unfold seen
 rw [List.length_zipWith, h, Nat.min_self]
theorem seen_vals {x : J} (h : x.ok) : ∀ c ∈ seen x.ak x.cs x.ts, -1 ≤ c ∧ c ≤ 256 := fun c hc => by
 obtain ⟨a, o, h1, h2, rfl⟩ := mem_zip hc
 have := h.cv a h1
 unfold cod
 split
 ·exact this
 split
 ·split <;> omega
 have := (h.tk h2).code
 split
 ·omega
 split <;> omega
theorem J.ok.with0 {x : J} (h : x.ok) : withM x.ss (seen x.ak x.cs x.ts) = 0 := Dg.with_of h.ss ((seen_len (h.lt.trans h.lc.symm)).trans h.lc) (seen_vals h)
theorem J.ok.len' {x : J} (h : x.ok) : x.cs'.length = x.ss.length := (Dg.settle_spec h.with0).1.1.symm.trans ((seen_len (h.lt.trans h.lc.symm)).trans h.lc)
theorem J.ok.vals' {x : J} (h : x.ok) : ∀ c ∈ x.cs', -1 ≤ c ∧ c ≤ 256 := (Dg.settle_spec h.with0).1.vals (seen_vals h)
theorem opn1_len (ns : List Int) (ts : List (Option T)) (i : Int) : (opn1 ns ts i).length = ts.length := by
 unfold opn1
 split
 ·exact List.length_set
 rfl
theorem opnL_len (ns : List Int) : ∀ (l : List Int) (ts : List (Option T)), (opnL ns ts l).length = ts.length
 |[], ts => rfl
 |i :: l, ts => (opnL_len ns l _).trans (opn1_len ns ts i)
theorem opn1_mem {ns : List Int} {ts : List (Option T)} {i : Int} {t : T} (h : some t ∈ opn1 ns ts i) : some t ∈ ts ∨ t = T.new ns := by
 unfold opn1 at h
 split at h
 ·rcases List.mem_or_eq_of_mem_set h with h | h
  ·exact .inl h
  exact .inr (Option.some.inj h)
 exact .inl h
theorem opnL_mem {ns : List Int} {t : T} : ∀ {l : List Int} {ts : List (Option T)}, some t ∈ opnL ns ts l → some t ∈ ts ∨ t = T.new ns
 |[], ts, h => .inl h
 |i :: l, ts, h => by
  rcases opnL_mem (l := l) h with h | h
  ·exact opn1_mem h
  exact .inr h
theorem J.ok.mid {x : J} (h : x.ok) : x.mid.ok := ⟨h.ns, h.ss, h.wd, h.id, h.ep, h.rq, h.ph, h.len', (opnL_len _ _ _).trans h.lt, h.vals', fun t ht => by
 rcases opnL_mem ht with ht | rfl
 ·exact h.tv t ht
 exact (tok.new _).tv, h.rn, h.gn⟩
theorem J.ok.fin {x : J} (h : x.ok) {ft cd : Int} (hf : ft = 2 → x.ep < 3) : (x.fin ft cd).ok := ⟨h.ns, h.ss, h.wd, h.id, h.ep, hf, (show (0 : Int) ≤ 2 ∧ (2 : Int) ≤ 3 by decide), h.lc, h.lt, h.cv, h.tv, h.rn, h.gn⟩
theorem J.ok.end_ {x : J} (h : x.ok) : x.end_.ok := by
 unfold J.end_
 split
 ·exact h
 split
 ·exact h.fin (fun e => absurd e (by decide))
 exact h.fin (fun e => absurd e (by decide))
theorem J.ok.look {x : J} (h : x.ok) : x.look.ok := h.mid.end_
theorem J.ok.ask {x : J} (h : x.ok) : x.ask.ok := ⟨h.ns, h.ss, h.wd, h.id, h.ep, h.rq, h.ph, h.lc, h.lt, h.cv, h.tv, h.rn, h.gn⟩
theorem J.ok.cancel {x : J} (h : x.ok) : x.cancel.ok := by
 unfold J.cancel
 split
 ·exact h.ask.look
 exact h.ask
theorem with_mem {l : List Int} {n a : Int} (h : a ∈ with_ l n) : a ∈ l ∨ a = n := by
 unfold with_ at h
 split at h
 ·exact .inl h
 rcases List.mem_append.1 h with h | h
 ·exact .inl h
 exact .inr (List.mem_singleton.1 h)
theorem J.ok.hasR {x : J} (h : x.ok) {n : Int} (hn : n ∈ x.ns) : (x.hasR n).ok := ⟨h.ns, h.ss, h.wd, h.id, h.ep, h.rq, h.ph, h.lc, h.lt, h.cv, h.tv, fun a ha => by
 rcases with_mem ha with ha | rfl
 ·exact h.rn a ha
 exact hn, h.gn⟩
theorem J.ok.hasG {x : J} (h : x.ok) {n : Int} (hn : n ∈ x.ns) : (x.hasG n).ok := ⟨h.ns, h.ss, h.wd, h.id, h.ep, h.rq, h.ph, h.lc, h.lt, h.cv, h.tv, h.rn, fun a ha => by
 rcases with_mem ha with ha | rfl
 ·exact h.gn a ha
 exact hn⟩
theorem J.ok.run {x : J} (h : x.ok) : x.run.ok := ⟨h.ns, h.ss, h.wd, h.id, h.ep, h.rq, (show (0 : Int) ≤ 1 ∧ (1 : Int) ≤ 3 by decide), h.lc, h.lt, h.cv, h.tv, h.rn, h.gn⟩
theorem J.ok.started {x : J} (h : x.ok) {n a : Int} (hn : n ∈ x.ns) : (x.started n a).ok := by
 unfold J.started
 split
 ·split
  ·exact (h.hasR hn).run.look
  exact h.hasR hn
 split
 ·rename_i h3
  exact h.fin fun _ => h3
 exact h.fin (fun e => absurd e (by decide))
theorem J.ok.put {x : J} (h : x.ok) {i : Nat} {t : T} (ht : tok x.ns t) : (x.put i t).ok := ⟨h.ns, h.ss, h.wd, h.id, h.ep, h.rq, h.ph, h.lc, List.length_set.trans h.lt, h.cv, fun u hu => by
 rcases List.mem_or_eq_of_mem_set hu with hu | hu
 ·exact h.tv u hu
 obtain rfl := Option.some.inj hu
 exact ht.tv, h.rn, h.gn⟩
theorem getD_mem {α : Type} {l : List α} {i : Nat} {d : α} (h : i < l.length) : l.getD i d ∈ l := by
 rw [gD, gE h]
 exact List.getElem_mem h
theorem J.ok.said {x : J} (h : x.ok) (m : M) : (x.said m).2.ok := by
 unfold J.said
 split
 ·exact h
 split
 ·exact h
 rename_i t ht
 split
 ·exact h
 have hlt : m.st.toNat < x.ts.length := Classical.byContradiction fun hh => by
  rw [gD, List.getElem?_eq_none (by omega)] at ht
  cases ht
 exact (h.put ((h.tk (ht ▸ getD_mem hlt)).says m)).look
theorem J.ok.begin {x : J} (h : okN x.ns ∧ chkM x.ss = 0 ∧ wideM x.ss = false ∧ (1 ≤ x.id ∧ x.id ≤ 16) ∧ 0 ≤ x.ep ∧ x.ep ≤ 3) : x.begin.ok := by
 refine ⟨h.1, h.2.1, h.2.2.1, h.2.2.2.1, h.2.2.2.2, fun e => absurd e (by show ¬ (0 : Int) = 2; decide), (show (0 : Int) ≤ 0 ∧ (0 : Int) ≤ 3 by decide), List.length_replicate, List.length_replicate, ?_, ?_, ?_, ?_⟩
 ·intro c hc
  rw [(List.mem_replicate.1 hc).2]
  exact ⟨by decide, by decide⟩
 ·intro t ht
  cases (List.mem_replicate.1 ht).2
 ·intro n hn
  cases hn
 intro n hn
 cases hn
theorem J.ok.left {x : J} (h : x.ok) {n : Int} (hn : n ∈ x.ns) : (x.left n).ok := by
 unfold J.left
 split
 ·exact h.hasG hn
 split
 ·rename_i h2
  have h3 := h.rq h2
  have h4 := h.ep
  exact J.ok.begin (x := { x.hasG n with ep := x.ep + 1 }) ⟨h.ns, h.ss, h.wd, h.id, by show 0 ≤ x.ep + 1; omega, by show x.ep + 1 ≤ 3; omega⟩
 have := h.hasG hn
 exact ⟨this.ns, this.ss, this.wd, this.id, this.ep, this.rq, (show (0 : Int) ≤ 3 ∧ (3 : Int) ≤ 3 by decide), this.lc, this.lt, this.cv, this.tv, this.rn, this.gn⟩
theorem J.ok.hear {x : J} (h : x.ok) {m : M} (hm : x.mine m) : (x.hear m).2.ok := by
 unfold J.hear
 split
 ·exact h.started hm.2.2
 split
 ·exact h.said m
 split
 ·exact h.left hm.2.2
 exact h
theorem newJ_ok {js : List J} {ns : List Int} {ss : List S} (h : subE js ns ss = 0) (hl : js.length ≤ 16) : (newJ ns ss js.length).ok := by
 unfold subE at h
 split at h
 ·cases h
 rename_i h1
 split at h
 ·exact absurd h ‹_›
 rename_i h2
 split at h
 ·cases h
 rename_i h3
 split at h
 ·cases h
 exact J.ok.begin ⟨Decidable.of_not_not h1, Decidable.of_not_not h2, by simpa using h3, ⟨by show (1 : Int) ≤ (js.length : Int) + 1; omega, by show (js.length : Int) + 1 ≤ 16; omega⟩, by show (0 : Int) ≤ 0; decide, by show (0 : Int) ≤ 3; decide⟩
theorem St.flat {W w : World} {F : Snap} {cs cs' : List Res} (h : St W F cs w) (e : List.Perm cs'.flatten cs.flatten) : St W F cs' w :=
 ⟨h.bel, h.imm, fun p hp => h.own p (e.subset hp), ((e.map (·.1)).nodup_iff).2 h.nd⟩
theorem flat_set {cs : List Res} {i : Nat} {r r' : Res} (hi : cs[i]? = some r) : List.Perm (r' :: cs).flatten (r :: cs.set i r').flatten := by
 obtain ⟨l1, l2, e1, e2, _⟩ := split_at cs i r hi
 rw [e2 r', e1]
 simp only [List.flatten_cons, List.flatten_append]
 refine List.Perm.trans ?_ (List.perm_append_comm_assoc _ _ _)
 refine (List.perm_append_comm_assoc _ _ _).trans<|List.Perm.append_left _<|List.perm_append_comm_assoc _ _ _
theorem St.in_ {W w : World} {F : Snap} {cs : List Res} {r : Res} {i : Nat} (h : St W F (r :: cs) w) (hi : cs[i]? = some []) : St W F (cs.set i r) w := St.flat h (by
 have := flat_set (r' := r) hi
 simpa using this.symm)
theorem St.out {W w : World} {F : Snap} {cs : List Res} {r : Res} {i : Nat} (h : St W F cs w) (hi : cs[i]? = some r) : St W F (r :: cs.set i []) w := St.flat h (by
 have := flat_set (r' := []) hi
 simpa using this.symm)
def pv (o : Option Nat) : Value := .pointer (o.map fun b => ⟨b, 0, none⟩)
structure TalsR (Q : Snap → Res → Res → Nat → T → Prop) (F : Snap) (ts : List (Option T)) (ps : List (Option Nat)) (tm : List Res) : Prop where
 lp : ps.length = ts.length
 lm : tm.length = 2 * ts.length
 no : ∀ i, i < ts.length → ts.getD i none = none → ps.getD i none = none ∧ tm[2 * i]? = some [] ∧ tm[2 * i + 1]? = some []
 ye : ∀ i t, ts.getD i none = some t → ∃ b r1 r2, ps.getD i none = some b ∧ tm[2 * i]? = some r1 ∧ tm[2 * i + 1]? = some r2 ∧ Q F r1 r2 b t
theorem TalsR.mono {Q : Snap → Res → Res → Nat → T → Prop} {F G : Snap} {ts : List (Option T)} {ps : List (Option Nat)} {tm : List Res} (hq : ∀ r1 r2 b t, Q F r1 r2 b t → Q G r1 r2 b t) (h : TalsR Q F ts ps tm) : TalsR Q G ts ps tm := ⟨h.lp, h.lm, h.no, fun i t ht => by
 obtain ⟨b, r1, r2, h1, h2, h3, h4⟩ := h.ye i t ht
 exact ⟨b, r1, r2, h1, h2, h3, hq _ _ _ _ h4⟩⟩
theorem getD_set {α : Type} (l : List α) (i j : Nat) (v d : α) : (l.set i v).getD j d = if i = j ∧ j < l.length then v else l.getD j d := by
 simp only [gD, List.getElem?_set]
 by_cases e : i = j
 ·subst e
  by_cases hl : i < l.length
  ·simp [hl]
  simp [hl]
 simp [e]
theorem getD_lt {α : Type} {l : List (Option α)} {i : Nat} {a : α} (h : l.getD i none = some a) : i < l.length := Classical.byContradiction fun hh => by
 rw [gD, List.getElem?_eq_none (by omega)] at h
 cases h
theorem TalsR.put {Q : Snap → Res → Res → Nat → T → Prop} {F : Snap} {ts : List (Option T)} {ps : List (Option Nat)} {tm : List Res} (h : TalsR Q F ts ps tm) {i b : Nat} {t : T} {r1 r2 : Res} (hi : i < ts.length) (hq : Q F r1 r2 b t) : TalsR Q F (ts.set i (some t)) (ps.set i (some b)) ((tm.set (2 * i) r1).set (2 * i + 1) r2) := by
 have hlm := h.lm
 have hlp := h.lp
 refine ⟨by rw [List.length_set, List.length_set]; exact hlp, by rw [List.length_set, List.length_set, List.length_set]; exact hlm, fun j hj hn => ?_, fun j u hu => ?_⟩
 ·rw [List.length_set] at hj
  rw [getD_set] at hn
  split at hn
  ·cases hn
  rename_i hne
  have e : i ≠ j := fun e => hne ⟨e, hj⟩
  obtain ⟨h1, h2, h3⟩ := h.no j hj hn
  rw [getD_set, if_neg (fun hh => e hh.1), List.getElem?_set_ne (by omega), List.getElem?_set_ne (by omega), List.getElem?_set_ne (by omega), List.getElem?_set_ne (by omega)]
  exact ⟨h1, h2, h3⟩
 rw [getD_set] at hu
 split at hu
 ·rename_i he
  obtain ⟨rfl, _⟩ := he
  obtain rfl := Option.some.inj hu
  refine ⟨b, r1, r2, ?_, ?_, ?_, hq⟩
  ·rw [getD_set, if_pos ⟨rfl, by omega⟩]
  ·rw [List.getElem?_set_ne (by omega), List.getElem?_set_self (by omega)]
  rw [List.getElem?_set_self (by rw [List.length_set]; omega)]
 rename_i hne
 have hj := getD_lt hu
 have e : i ≠ j := fun e => hne ⟨e, hj⟩
 obtain ⟨b', q1, q2, h1, h2, h3, h4⟩ := h.ye j u hu
 refine ⟨b', q1, q2, ?_, ?_, ?_, h4⟩
 ·rw [getD_set, if_neg (fun hh => e hh.1)]; exact h1
 ·rw [List.getElem?_set_ne (by omega), List.getElem?_set_ne (by omega)]; exact h2
 rw [List.getElem?_set_ne (by omega), List.getElem?_set_ne (by omega)]; exact h3
theorem set_same {α : Type} : ∀ {l : List α} {i : Nat} {a d : α}, i < l.length → l.getD i d = a → l.set i a = l
 |b :: l, 0, a, d, _, h => by
  have : b = a := h
  rw [this]; rfl
 |b :: l, i + 1, a, d, hl, h => by
  have h2 : l.getD i d = a := h
  have hl2 : i < l.length := by simpa using hl
  show b :: l.set i a = b :: l
  rw [set_same hl2 h2]
theorem TalsR.new {Q : Snap → Res → Res → Nat → T → Prop} {F : Snap} (n : Nat) : TalsR Q F (List.replicate n none) (List.replicate n none) (List.replicate (2 * n) []) := ⟨by simp, by simp, fun i hi _ => ⟨by rw [gD, List.getElem?_replicate]; split <;> rfl, by simp at hi; rw [List.getElem?_replicate, if_pos (by omega)], by simp at hi; rw [List.getElem?_replicate, if_pos (by omega)]⟩, fun i t ht => by
 rw [gD, List.getElem?_replicate] at ht
 split at ht <;> cases ht⟩
def QP (F : Snap) (r1 r2 : Res) (b : Nat) (t : T) : Prop := ∃ mv mc lv lc, TR F [r1, r2] b 0 1 mv mc lv lc t
theorem QP.mono {F G : Snap} (hle : Le F G) {r1 r2 : Res} {b : Nat} {t : T} (h : QP F r1 r2 b t) : QP G r1 r2 b t := by
 obtain ⟨mv, mc, lv, lc, h⟩ := h
 exact ⟨mv, mc, lv, lc, h.mono hle⟩
theorem TR.at2 {F : Snap} {r1 r2 : Res} {cs : List Res} {bt i j mv mc : Nat} {lv lc : List (Int × Value)} {t : T} (h : TR F [r1, r2] bt 0 1 mv mc lv lc t) (h1 : cs[i]? = some r1) (h2 : cs[j]? = some r2) (hne : i ≠ j) : TR F cs bt i j mv mc lv lc t :=
 ⟨h.s0, h.s1, h.s2, h1.trans h.iv, h2.trans h.ic, h.rv, h.rc, h.pos, h.small, h.nd, hne⟩
theorem TR.two {F : Snap} {cs : List Res} {bt i j mv mc : Nat} {lv lc : List (Int × Value)} {t : T} (h : TR F cs bt i j mv mc lv lc t) : QP F [(mv, mobj lv)] [(mc, mobj lc)] bt t :=
 ⟨mv, mc, lv, lc, h.s0, h.s1, h.s2, rfl, rfl, h.rv, h.rc, h.pos, h.small, h.nd, by decide⟩
structure JobO (F : Snap) (x : J) (A B : Option Addr) (ps : List (Option Nat)) (zc zt : List Value) (fc ft : Nat × Nat) (l1 l2 : List (Int × Value)) (tm : List Res) : Prop where
 nd : RdS (Kd.one Vi) F A x.ns
 st : RdS KS F B x.ss
 fc : Free fc (x.cs.length + zc.length)
 ft : Free ft (ps.length + zt.length)
 ta : TalsR QP F x.ts ps tm
 r1 : l1.map (·.1) = x.rd
 r2 : l2.map (·.1) = x.gn
theorem JobO.mono {F G : Snap} (hle : Le F G) {x : J} {A B : Option Addr} {ps : List (Option Nat)} {zc zt : List Value} {fc ft : Nat × Nat} {l1 l2 : List (Int × Value)} {tm : List Res} (h : JobO F x A B ps zc zt fc ft l1 l2 tm) : JobO G x A B ps zc zt fc ft l1 l2 tm :=
 ⟨h.nd.mono hle, h.st.mono hle, h.fc, h.ft, h.ta.mono (fun _ _ _ _ => QP.mono hle), h.r1, h.r2⟩
abbrev vC (x : J) (bC : Nat) (zc : List Value) : Value := .slice (some ⟨bC, 0, none⟩) x.cs.length (x.cs.length + zc.length)
abbrev vT (ps : List (Option Nat)) (bT : Nat) (zt : List Value) : Value := .slice (some ⟨bT, 0, none⟩) ps.length (ps.length + zt.length)
abbrev jB (x : J) (b bC bT m1 m2 : Nat) (A B : Option Addr) (cap cap2 : Nat) (ps : List (Option Nat)) (zc zt : List Value) : Res := [(b, .cells #[.slice A x.ns.length cap, .slice B x.ss.length cap2, Vi x.id, Vi x.ep, Vi x.ph, Vi x.ft, Vi x.cd, vC x bC zc, vT ps bT zt, .map (some m1), .map (some m2), .bool x.ak] 83 (0, 0))]
abbrev cB (cs : List Int) (bC : Nat) (zc : List Value) (fc : Nat × Nat) : Res := [(bC, .cells (cs.map Vi ++ zc).toArray 3 fc)]
abbrev tB (ps : List (Option Nat)) (bT : Nat) (zt : List Value) (ft : Nat × Nat) : Res := [(bT, .cells (ps.map pv ++ zt).toArray 97 ft)]
def JobR (F : Snap) (r : Res) (b : Nat) (x : J) : Prop := ∃ bC bT m1 m2 A B cap cap2 ps zc zt fc ft l1 l2 tm, r = (jB x b bC bT m1 m2 A B cap cap2 ps zc zt :: cB x.cs bC zc fc :: tB ps bT zt ft :: [(m1, mobj l1)] :: [(m2, mobj l2)] :: tm).flatten ∧ JobO F x A B ps zc zt fc ft l1 l2 tm
theorem JobR.mono {F G : Snap} (hle : Le F G) {r : Res} {b : Nat} {x : J} (h : JobR F r b x) : JobR G r b x := by
 obtain ⟨bC, bT, m1, m2, A, B, cap, cap2, ps, zc, zt, fc, ft, l1, l2, tm, h1, h2⟩ := h
 exact ⟨bC, bT, m1, m2, A, B, cap, cap2, ps, zc, zt, fc, ft, l1, l2, tm, h1, h2.mono hle⟩
theorem JobR.open_ {W w : World} {F : Snap} {cs : List Res} {r : Res} {b : Nat} {x : J} (h : St W F (r :: cs) w) (hJ : JobR F r b x) : ∃ bC bT m1 m2 A B cap cap2 ps zc zt fc ft l1 l2 tm, St W F (jB x b bC bT m1 m2 A B cap cap2 ps zc zt :: cB x.cs bC zc fc :: tB ps bT zt ft :: [(m1, mobj l1)] :: [(m2, mobj l2)] :: (tm ++ cs)) w ∧ JobO F x A B ps zc zt fc ft l1 l2 tm := by
 obtain ⟨bC, bT, m1, m2, A, B, cap, cap2, ps, zc, zt, fc, ft, l1, l2, tm, rfl, h2⟩ := hJ
 exact ⟨bC, bT, m1, m2, A, B, cap, cap2, ps, zc, zt, fc, ft, l1, l2, tm, St.flat h (by simp), h2⟩
theorem JobR.close {W w : World} {F : Snap} {cs : List Res} {x : J} {b bC bT m1 m2 : Nat} {A B : Option Addr} {cap cap2 : Nat} {ps : List (Option Nat)} {zc zt : List Value} {fc ft : Nat × Nat} {l1 l2 : List (Int × Value)} {tm : List Res} (h : St W F (jB x b bC bT m1 m2 A B cap cap2 ps zc zt :: cB x.cs bC zc fc :: tB ps bT zt ft :: [(m1, mobj l1)] :: [(m2, mobj l2)] :: (tm ++ cs)) w) (hO : JobO F x A B ps zc zt fc ft l1 l2 tm) : ∃ r, JobR F r b x ∧ St W F (r :: cs) w :=
 ⟨_, ⟨bC, bT, m1, m2, A, B, cap, cap2, ps, zc, zt, fc, ft, l1, l2, tm, rfl, hO⟩, St.flat h (by simp)⟩
theorem inf3 : Inf prog 3 (.int .i64 0) 1 8 := by unfold Inf; kernel_rfl
def rp (n k : Nat) : List Value := List.replicate k (Vi (-1)) ++ List.replicate (n - k) (Vi 0)
theorem rp_size (n k : Nat) (hk : k ≤ n) : (rp n k).toArray.size = n := by simp [rp]; omega
theorem rp_take {n k m : Nat} (hm : m ≤ k) : (rp n k).toArray.toList.take m = List.replicate m (Vi (-1)) := by
 unfold rp
 rw [List.take_append_of_le_length (by simp; exact hm), List.take_replicate, Nat.min_eq_left hm]
theorem rp_blit {n k m : Nat} (hm : k + m ≤ n) : blit (rp n k).toArray k (List.replicate m (Vi (-1))) = (rp n (k + m)).toArray := by
 apply Array.toList_inj.1
 rw [blit_toList _ _ _ (by rw [rp_size n k (by omega), List.length_replicate]; exact hm), List.length_replicate, rp_take (Nat.le_refl k)]
 show _ ++ _ ++ (rp n k).drop (k + m) = rp n (k + m)
 unfold rp
 rw [List.drop_append, List.length_replicate, List.drop_of_length_le (by simp), List.nil_append, List.drop_replicate, show k + m - k = m by omega, List.replicate_append_replicate, show n - k - m = n - (k + m) by omega]
theorem mul64_c (w : World) (n : Nat) (h : St W F cs w) (hn : n ≤ 16)  : Calls prog 161 #[.int .u64 1, .int .u64 (n : Int)] w fun e w' => e = .returned (.tuple #[.int .u64 0, .int .u64 (n : Int)]) ∧ St W F cs w'  := by
 refine enter (args := [.int .u64 1, .int .u64 (n : Int)]) func161 rfl rfl rfl ?_
 have hn17 : n = 0 ∨ n = 1 ∨ n = 2 ∨ n = 3 ∨ n = 4 ∨ n = 5 ∨ n = 6 ∨ n = 7 ∨ n = 8 ∨ n = 9 ∨ n = 10 ∨ n = 11 ∨ n = 12 ∨ n = 13 ∨ n = 14 ∨ n = 15 ∨ n = 16 := by omega
 refine Wi<|C0 2 rfl<|We<|C0 1 rfl ?_
 refine I0 (R0 (n := 1) (R6 rfl rfl) (by first | rfl | (rcases hn17 with rfl | rfl | rfl | rfl | rfl | rfl | rfl | rfl | rfl | rfl | rfl | rfl | rfl | rfl | rfl | rfl | rfl <;> decide))) rfl ?_
 refine C0 1 rfl<|We<|C0 1 rfl ?_
 refine I0 (R0 (n := 0) (X5 rfl rfl (by omega)) (by first | rfl | (rcases hn17 with rfl | rfl | rfl | rfl | rfl | rfl | rfl | rfl | rfl | rfl | rfl | rfl | rfl | rfl | rfl | rfl | rfl <;> decide))) rfl ?_
 refine C0 1 rfl<|We<|C0 1 rfl ?_
 refine I0 (R0 (n := (n : Int)) (R6 rfl rfl) (by first | rfl | (rcases hn17 with rfl | rfl | rfl | rfl | rfl | rfl | rfl | rfl | rfl | rfl | rfl | rfl | rfl | rfl | rfl | rfl | rfl <;> decide))) rfl ?_
 refine C0 1 rfl<|We<|C0 1 rfl ?_
 refine I0 (R0 (n := 0) (X5 rfl rfl (by omega)) (by first | rfl | (rcases hn17 with rfl | rfl | rfl | rfl | rfl | rfl | rfl | rfl | rfl | rfl | rfl | rfl | rfl | rfl | rfl | rfl | rfl <;> decide))) rfl ?_
 refine C0 1 rfl<|We<|C0 2 rfl ?_
 refine I0 (R0 (n := (n : Int)) (I6 rfl rfl) (by first | rfl | (rcases hn17 with rfl | rfl | rfl | rfl | rfl | rfl | rfl | rfl | rfl | rfl | rfl | rfl | rfl | rfl | rfl | rfl | rfl <;> decide))) rfl ?_
 refine C0 1 rfl<|We<|C0 2 rfl ?_
 refine I0 (R0 (n := 0) (I6 rfl rfl) (by first | rfl | (rcases hn17 with rfl | rfl | rfl | rfl | rfl | rfl | rfl | rfl | rfl | rfl | rfl | rfl | rfl | rfl | rfl | rfl | rfl <;> decide))) rfl ?_
 refine C0 1 rfl ?_
 refine I0 (R0 (n := 0) (X5 rfl rfl (by omega)) (by first | rfl | (rcases hn17 with rfl | rfl | rfl | rfl | rfl | rfl | rfl | rfl | rfl | rfl | rfl | rfl | rfl | rfl | rfl | rfl | rfl <;> decide))) rfl ?_
 refine I0 (R0 (n := 0) (Runs.add rfl rfl) (by first | rfl | (rcases hn17 with rfl | rfl | rfl | rfl | rfl | rfl | rfl | rfl | rfl | rfl | rfl | rfl | rfl | rfl | rfl | rfl | rfl <;> decide))) rfl ?_
 refine C0 1 rfl<|We<|C0 1 rfl ?_
 refine I0 (R0 (n := 0) (R6 rfl rfl) (by first | rfl | (rcases hn17 with rfl | rfl | rfl | rfl | rfl | rfl | rfl | rfl | rfl | rfl | rfl | rfl | rfl | rfl | rfl | rfl | rfl <;> decide))) rfl ?_
 refine C0 1 rfl<|We<|C0 1 rfl ?_
 refine I0 (R0 (n := 0) (X5 rfl rfl (by omega)) (by first | rfl | (rcases hn17 with rfl | rfl | rfl | rfl | rfl | rfl | rfl | rfl | rfl | rfl | rfl | rfl | rfl | rfl | rfl | rfl | rfl <;> decide))) rfl ?_
 refine C0 1 rfl<|We<|C0 3 rfl ?_
 refine I0 (R0 (n := 0) (I6 rfl rfl) (by first | rfl | (rcases hn17 with rfl | rfl | rfl | rfl | rfl | rfl | rfl | rfl | rfl | rfl | rfl | rfl | rfl | rfl | rfl | rfl | rfl <;> decide))) rfl ?_
 refine I0 (R0 (n := 0) (Runs.add rfl rfl) (by first | rfl | (rcases hn17 with rfl | rfl | rfl | rfl | rfl | rfl | rfl | rfl | rfl | rfl | rfl | rfl | rfl | rfl | rfl | rfl | rfl <;> decide))) rfl ?_
 refine C0 1 rfl<|We<|C0 2 rfl ?_
 refine I0 (R0 (n := 0) (I6 rfl rfl) (by first | rfl | (rcases hn17 with rfl | rfl | rfl | rfl | rfl | rfl | rfl | rfl | rfl | rfl | rfl | rfl | rfl | rfl | rfl | rfl | rfl <;> decide))) rfl ?_
 refine C0 1 rfl ?_
 refine I0 (R0 (n := 0) (Runs.add rfl rfl) (by first | rfl | (rcases hn17 with rfl | rfl | rfl | rfl | rfl | rfl | rfl | rfl | rfl | rfl | rfl | rfl | rfl | rfl | rfl | rfl | rfl <;> decide))) rfl ?_
 refine C0 1 rfl ?_
 refine I0 (R0 (n := 0) (X5 rfl rfl (by omega)) (by first | rfl | (rcases hn17 with rfl | rfl | rfl | rfl | rfl | rfl | rfl | rfl | rfl | rfl | rfl | rfl | rfl | rfl | rfl | rfl | rfl <;> decide))) rfl ?_
 refine I0 (R0 (n := 0) (Runs.add rfl rfl) (by first | rfl | (rcases hn17 with rfl | rfl | rfl | rfl | rfl | rfl | rfl | rfl | rfl | rfl | rfl | rfl | rfl | rfl | rfl | rfl | rfl <;> decide))) rfl ?_
 refine C0 1 rfl<|We<|C0 2 rfl ?_
 refine I0 (R0 (n := (n : Int)) (I6 rfl rfl) (by first | rfl | (rcases hn17 with rfl | rfl | rfl | rfl | rfl | rfl | rfl | rfl | rfl | rfl | rfl | rfl | rfl | rfl | rfl | rfl | rfl <;> decide))) rfl ?_
 refine C0 1 rfl<|Wg<|ret2 rfl rfl rfl ⟨rfl, h⟩
theorem mul_c (w : World) (n : Nat) (h : St W F cs w) (hn : n ≤ 16)  : Calls prog 139 #[.int .u64 1, .int .u64 (n : Int)] w fun e w' => e = .returned (.tuple #[.int .u64 0, .int .u64 (n : Int)]) ∧ St W F cs w'  := by
 refine enter (args := [.int .u64 1, .int .u64 (n : Int)]) func139 rfl rfl rfl<|Wi<|C0 2 rfl<|Wb<|E1 rfl (rfl)<|Wk<|C0 2 rfl<|C1 (cn func161) rfl rfl (mul64_c _ n h hn) fun w1 h1 =>C0 5 rfl<|We<|C0 4 rfl<|Wg<|ret2 rfl rfl rfl ⟨rfl, h1⟩
theorem repeat_c (w : World) (n : Nat) {b0 c0 : Nat} (h : St W F ([(b0, .cells #[Vi (-1)] 3 (0, 0))] :: cs) w) (hp1 : 1 ≤ n) (hn : n ≤ 16)  : Calls prog 99 #[.slice (some ⟨b0, 0, none⟩) 1 c0, Vi (n : Int)] w fun e w' => ∃ bb, e = .returned (.slice (some ⟨bb, 0, none⟩) n n) ∧ St W F ([(bb, .cells (List.replicate n (Vi (-1))).toArray 3 (0, 0))] :: cs) w'  := by
 refine enter (args := [.slice (some ⟨b0, 0, none⟩) 1 c0, Vi (n : Int)]) func99 rfl rfl rfl ?_
 have hn17 : n = 0 ∨ n = 1 ∨ n = 2 ∨ n = 3 ∨ n = 4 ∨ n = 5 ∨ n = 6 ∨ n = 7 ∨ n = 8 ∨ n = 9 ∨ n = 10 ∨ n = 11 ∨ n = 12 ∨ n = 13 ∨ n = 14 ∨ n = 15 ∨ n = 16 := by omega
 refine Wi<|C0 1 rfl<|Wh<|C0 2 rfl<|Wa<|E1 rfl ((dN (by omega)))<|Wk<|C0 1 rfl<|I0 (Y0 underlying33 rfl rfl) rfl ?_
 refine I0 (R0 (n := 1) (O5 underlying3 underlying176 rfl) (by first | rfl | (rcases hn17 with rfl | rfl | rfl | rfl | rfl | rfl | rfl | rfl | rfl | rfl | rfl | rfl | rfl | rfl | rfl | rfl | rfl <;> decide))) rfl ?_
 refine C0 1 rfl ?_
 refine I0 (R0 (n := (n : Int)) (O5 underlying3 underlying176 rfl) (by first | rfl | (rcases hn17 with rfl | rfl | rfl | rfl | rfl | rfl | rfl | rfl | rfl | rfl | rfl | rfl | rfl | rfl | rfl | rfl | rfl <;> decide))) rfl ?_
 refine C1 (cn func139) rfl rfl (mul_c _ n h hn) fun w1 h1 =>C0 5 rfl<|Wh<|C0 1 rfl<|I0 (Bf (Y1 rfl rfl) rfl) rfl<|C0 2 rfl<|Q0 rfl<|I0 (Bf (Y1 rfl rfl) (dN (by omega))) rfl<|C0 1 rfl<|Wa<|E1 rfl (rfl)<|Wk<|C0 1 rfl ?_
 refine I0 (R0 (n := (n : Int)) (O5 underlying176 underlying3 rfl) (by first | rfl | (rcases hn17 with rfl | rfl | rfl | rfl | rfl | rfl | rfl | rfl | rfl | rfl | rfl | rfl | rfl | rfl | rfl | rfl | rfl <;> decide))) rfl ?_
 refine WL.make1 (l := n) (c := n) rfl h1 underlying33 inf3 rfl rfl rfl (Nat.le_refl _) (by omega) (by omega) ?_
 intro bb w2 h2
 try simp only [ZZ] at h2
 rw [show (List.replicate n (Vi 0)).toArray = (rp n 0).toArray from by simp [rp]] at h2
 refine C0 1 rfl<|We<|C0 2 rfl<|WL.copy (m := 1) (off := 0) (len := n) (cap := n) (src := List.replicate 1 (Vi (-1))) h2 0 rfl rfl underlying33 (inf3.elem rfl rfl) rfl rfl rfl (by rw [show Nat.min 1 n = 1 from Nat.min_eq_left hp1]; exact Sha.first_own h2 1 rfl 1 1 c0 (by decide)) rfl (Free.zero _) (by rw [rp_size n 0 (by omega)]; exact hp1) ?_
 intro w3 h3
 try simp only [ZZ] at h3
 rw [show Nat.min 1 n = 1 from Nat.min_eq_left hp1]
 replace h3 := (rp_blit (n := n) (k := 0) (m := 1) (by omega)) ▸ h3
 refine C0 1 rfl<|Wb<|M1<|B3 (σ := Nat) (fun q_ => [(0, .slice (some ⟨b0, 0, none⟩) 1 c0), (7, .slice (some ⟨bb, 0, none⟩) n n), (8, .int .i64 (q_ : Int))]) (fun q_ w => 0 < q_ ∧ q_ ≤ n ∧ St W F ([(bb, .cells (rp n q_).toArray 3 (0, 0))] :: [(b0, .cells #[Vi (-1)] 3 (0, 0))] :: cs) w) (fun q_ => n - q_) (1) (⟨by decide, hp1, h3⟩) ?_
 rintro k w4 ⟨hk1, hk, hL⟩
 try dsimp only at hk1 hk hL
 refine W2 [(0, .slice (some ⟨b0, 0, none⟩) 1 c0), (7, .slice (some ⟨bb, 0, none⟩) n n), (8, .int .i64 (k : Int))]<|N0<|Wi<|C0 2 rfl<|I0 (Y0 underlying33 rfl rfl) rfl<|C0 1 rfl<|Wa<|Z0 rfl (fun c5 => ?_) (fun c5 => ?_)
 ·try simp only [DD] at c5
  refine U0<|H0<|M1<|Q4 (fun w_ => St W _ _ w_) (fun k => Nat.beq k 7) mixed (by kernel_rfl) (hL.drew)<|fun hx =>K4 hx 3 rfl<|F2 hx (by rfl) rfl (fun w_ => V6 underlying33 inf3 rfl rfl (n := k) rfl (by omega)) rfl<|K4 hx 2 rfl<|F2 hx (by rfl) rfl (fun w_ => U6 underlying33 inf3 rfl rfl (n := k) rfl (by omega)) rfl<|Z4 hx rfl (by decide) (by kernel_rfl) fun w6 h6=>F5 (by rfl) rfl (by kernel_rfl)<|WL.copy (m := k) (off := k) (len := n - k) (cap := n - k) (src := List.replicate (Nat.min k (n - k)) (Vi (-1))) h6 0 rfl rfl underlying33 (inf3.elem rfl rfl) (by show some _ = some _; rw [if_neg (by omega)]; simp [add_mk]) rfl rfl (by have := Sha.first_own (P := prog) h6 0 rfl (Nat.min k (n - k)) k n (by rw [rp_size n k (by omega)]; exact Nat.le_trans (Nat.min_le_left _ _) (by omega)); rwa [rp_take (Nat.min_le_left _ _)] at this) (by simp [one_]) (Free.zero _) (by rw [rp_size n k (by omega), List.length_replicate]; have : Nat.min k (n - k) ≤ n - k := Nat.min_le_right _ _; omega) ?_
  intro w7 h7
  try simp only [ZZ] at h7
  have hmn : Nat.min k (n - k) ≤ n - k := Nat.min_le_right _ _
  have hmp : 0 < Nat.min k (n - k) := Nat.lt_min.2 ⟨hk1, by omega⟩
  replace h7 := (rp_blit (n := n) (k := k) (m := Nat.min k (n - k)) (by omega)) ▸ h7
  refine J0<|I4<|X3 hx (by rfl) (fun w_ => R0 (n := ((k + Nat.min k (n - k) : Nat) : Int)) (V0 rfl rfl (by omega)) (by omega)) rfl<|X3 hx (by rfl) (fun w_ => Runs.assign rfl) rfl<|B5 rfl (by kernel_rfl)<|N1<|F1 (k + Nat.min k (n - k)) (by omega) ⟨rfl, rfl, rfl, trivial⟩ ⟨by omega, by omega, h7⟩
 try simp only [DD] at c5
 refine U1<|B2<|WX.cut<|E2<|H0<|Wi<|C0 2 rfl<|J0 (H0 (O1 ?_))
 obtain rfl : k = n := by omega
 replace hL := hL.drop 1
 refine ret1 rfl rfl ⟨bb, rfl, ?_⟩
 have e9 : rp k k = List.replicate k (Vi (-1)) := by simp [rp]
 rw [e9] at hL
 exact hL
theorem inf33 : Inf prog 33 (.slice none 0 0) 1 24 := by unfold Inf; kernel_rfl
theorem inf80 : Inf prog 80 (.slice none 0 0) 1 24 := by unfold Inf; kernel_rfl
theorem inf81 : Inf prog 81 (.map none) 1 8 := by unfold Inf; kernel_rfl
theorem inf97 : Inf prog 97 (.pointer none) 1 8 := by unfold Inf; kernel_rfl
theorem fld83_6 : fldB prog 83 6 7 = true := by kernel_rfl
theorem St.rev5 {W w : World} {F : Snap} {cs : List Res} {a b c d e : Res} (h : St W F (a :: b :: c :: d :: e :: cs) w) : St W F (e :: d :: c :: b :: a :: cs) w := h.perm ((List.reverse_perm [a, b, c, d, e]).append_right cs)
theorem finish_c (w : World) {r : Res} {b : Nat} {x : J} (h : St W F (r :: cs) w) (hJ : JobR F r b x) (fa co : Int) : Calls prog 86 #[pz b, Vi fa, Vi co] w fun e w' => e = .returned (.tuple #[]) ∧ ∃ r', JobR F r' b (x.fin fa co) ∧ St W F (r' :: cs) w'  := by
 refine enter (args := [pz b, Vi fa, Vi co]) func86 rfl rfl rfl ?_
 obtain ⟨bC, bT, m1, m2, A, B, cap, cap2, ps, zc, zt, fc, ft, l1, l2, tm, h, hO⟩ := JobR.open_ h hJ
 refine L0<|C0 7 rfl<|O3 h 0 rfl rfl rfl inf3 rfl rfl ?_
 intro  w1 h1
 try simp only [ZZ] at h1
 refine C0 2 rfl<|O3 h1 0 rfl rfl rfl inf3 rfl rfl ?_
 intro  w2 h2
 try simp only [ZZ] at h2
 refine C0 2 rfl<|O3 h2 0 rfl rfl rfl inf3 rfl rfl ?_
 intro  w3 h3
 try simp only [ZZ] at h3
 refine J0 ?_
 obtain ⟨r9, hJ9, hS9⟩ := JobR.close (x := x.fin fa co) (F := _) (show St W _ (jB (x.fin fa co) b bC bT m1 m2 A B cap cap2 ps zc zt :: _) _ from h3) ⟨hO.nd, hO.st, hO.fc, hO.ft, hO.ta, hO.r1, hO.r2⟩
 exact end0 rfl ⟨rfl, r9, hJ9, hS9⟩
theorem begin_c (w : World) {b : Nat} {x : J} {A B : Option Addr} {cap cap2 : Nat} {v4 v5 v6 v7 v8 v9 v10 : Value} (h : St W F ([(b, .cells #[.slice A x.ns.length cap, .slice B x.ss.length cap2, Vi x.id, Vi x.ep, v4, v5, v6, v7, v8, v9, v10, .bool x.ak] 83 (0, 0))] :: cs) w) (hA : RdS (Kd.one Vi) F A x.ns) (hB : RdS KS F B x.ss) (hp1 : 1 ≤ x.ss.length) (hn : x.ss.length ≤ 16) : Calls prog 59 #[pz b] w fun e w' => e = .returned (.tuple #[]) ∧ ∃ r', JobR F r' b x.begin ∧ St W F (r' :: cs) w'  := by
 refine enter (args := [pz b]) func59 rfl rfl rfl<|Wi<|C0 5 rfl<|O3 h 0 rfl rfl rfl inf3 rfl rfl ?_
 intro  w1 h1
 try simp only [ZZ] at h1
 refine C0 2 rfl<|O3 h1 0 rfl rfl rfl inf3 rfl rfl ?_
 intro  w2 h2
 try simp only [ZZ] at h2
 refine C0 2 rfl<|O3 h2 0 rfl rfl rfl inf3 rfl rfl ?_
 intro  w3 h3
 try simp only [ZZ] at h3
 refine We<|C0 1 rfl<|X2 (vs := (([-1] : List Int)).map Vi) h3 rfl underlying33 inf3 rfl rfl rfl rfl rfl fun lit12 w4 h4=>H1 h4 [1] 5 rfl<|I0 (R0 (n := (x.ss.length : Int)) (Y0 underlying34 rfl rfl) rfl) rfl<|V1 (cn func99) rfl rfl (repeat_c _ x.ss.length h4 hp1 hn) ?_
 rintro _ w5 ⟨bC, rfl, h5⟩
 refine ⟨_, rfl,C0 2 rfl<|O3 h5 1 rfl rfl rfl inf33 rfl rfl ?_⟩
 intro  w6 h6
 try simp only [ZZ] at h6
 refine We<|H1 h6 [1] 6 rfl<|I0 (R0 (n := (x.ss.length : Int)) (Y0 underlying34 rfl rfl) rfl) rfl<|WL.make1 (l := x.ss.length) (c := x.ss.length) rfl h6 underlying80 inf97 rfl rfl rfl (Nat.le_refl _) (by omega) (by omega) ?_
 intro bT w7 h7
 try simp only [ZZ] at h7
 refine C0 2 rfl<|O3 h7 2 rfl rfl rfl inf80 rfl rfl ?_
 intro  w8 h8
 try simp only [ZZ] at h8
 refine Wf<|C0 2 rfl<|M6 rfl h8 fun m34 w9 h9=>M6 rfl h9 fun m35 w10 h10=>C0 2 rfl<|O3 h10 4 rfl rfl rfl inf81 rfl rfl ?_
 intro  w11 h11
 try simp only [ZZ] at h11
 refine C0 2 rfl<|O3 h11 4 rfl rfl rfl inf81 rfl rfl ?_
 intro  w12 h12
 try simp only [ZZ] at h12
 refine J0 ?_
 replace h12 : St W F ([(m35, mobj [])] :: [(m34, mobj [])] :: [(bT, .cells (List.replicate x.ss.length (.pointer none)).toArray 97 (0, 0))] :: [(bC, .cells (List.replicate x.ss.length (Vi (-1))).toArray 3 (0, 0))] :: [(b, .cells #[.slice A x.ns.length cap, .slice B x.ss.length cap2, Vi x.id, Vi x.ep, Vi 0, Vi 0, Vi 0, .slice (some ⟨bC, 0, none⟩) x.ss.length x.ss.length, .slice (some ⟨bT, 0, none⟩) x.ss.length x.ss.length, .map (some m34), .map (some m35), .bool x.ak] 83 (0, 0))] :: cs) _ := h12
 obtain ⟨r9, hJ9, hS9⟩ := JobR.close (W := W) (F := F) (cs := cs) (x := x.begin) (b := b) (bC := bC) (bT := bT) (m1 := m34) (m2 := m35) (A := A) (B := B) (cap := cap) (cap2 := cap2) (ps := List.replicate x.ss.length none) (zc := []) (zt := []) (fc := (0, 0)) (ft := (0, 0)) (l1 := []) (l2 := []) (tm := List.replicate (2 * x.ss.length) []) (w := w12) (St.flat (St.rev5 h12) (by
  have e1 : (List.replicate (2 * x.ss.length) ([] : Res)).flatten = [] := by simp
  have e2 : (List.replicate x.ss.length (Value.pointer none)).toArray = ((List.replicate x.ss.length (none : Option Nat)).map pv ++ []).toArray := by simp [pv]
  have e3 : (List.replicate x.ss.length (Vi (-1))).toArray = ((List.replicate x.ss.length (-1 : Int)).map Vi ++ []).toArray := by simp
  rw [e2, e3]
  simp only [List.flatten_cons, List.flatten_append, e1, List.nil_append, J.begin, jB, vC, vT, List.length_replicate, List.length_nil, Nat.add_zero]
  exact List.Perm.refl _)) ⟨hA, hB, Free.zero _, Free.zero _, TalsR.new _, rfl, rfl⟩
 exact end0 rfl ⟨rfl, r9, hJ9, hS9⟩
theorem nodup_le : ∀ {n : Nat} {l : List Nat}, l.Nodup → (∀ x ∈ l, x < n) → l.length ≤ n
 |0, [], _, _ => Nat.le_refl _
 |0, x :: l, _, h => absurd (h x List.mem_cons_self) (Nat.not_lt_zero _)
 |n + 1, l, hd, h => by
  have h1 := nodup_le (n := n) (hd.erase n) (fun x hx => by
   have hx2 := (List.Nodup.mem_erase_iff hd).1 hx
   have := h x hx2.2
   have := hx2.1
   omega)
  by_cases hm : n ∈ l
  ·rw [List.length_erase_of_mem hm] at h1
   omega
  rw [List.erase_of_not_mem hm] at h1
  omega
theorem few_of {l : List S} (h : okAll l) : ∀ i, i < l.length → (l.getD i S0).af.length ≤ l.length := fun i hi => by
 have hs := (h i hi).2
 have h1 := nodup_le (n := l.length) (l := (l.getD i S0).af.map fun e => e.st.toNat) (by
  rw [List.Nodup, List.pairwise_iff_getElem]
  intro a b ha hb hab he
  rw [List.length_map] at ha hb
  rw [List.getElem_map, List.getElem_map] at he
  obtain ⟨_, _, hno⟩ := hs b hb
  have e1 : (l.getD i S0).af.getD b E0 = (l.getD i S0).af[b] := by rw [gD, gE hb]; rfl
  have e2 : (l.getD i S0).af.getD a E0 = (l.getD i S0).af[a] := by rw [gD, gE ha]; rfl
  have ia := Dg.edge_in h hi ha
  have ib := Dg.edge_in h hi hb
  rw [e2] at ia
  rw [e1] at ib hno
  have hst : (l.getD i S0).af[a].st = (l.getD i S0).af[b].st := by omega
  refine hno (List.mem_cons_of_mem _ (List.mem_map.2 ⟨(l.getD i S0).af[a], ?_, hst⟩))
  exact List.mem_take_iff_getElem.2 ⟨a, by omega, rfl⟩) (fun x hx => by
  obtain ⟨e, he, rfl⟩ := List.mem_map.1 hx
  obtain ⟨k, hk, rfl⟩ := List.getElem_of_mem he
  have := Dg.edge_in h hi hk
  have e1 : (l.getD i S0).af.getD k E0 = (l.getD i S0).af[k] := by rw [gD, gE hk]; rfl
  rw [e1] at this
  omega)
 simpa using h1
theorem few_ok {l : List S} (h : chkM l = 0) : l.length ≤ 100000 ∧ Dg.fewE l := by
 have h1 := Dg.chk_ok h
 refine ⟨by omega, fun i hi => ?_⟩
 have := few_of h1.1 i hi
 omega
theorem settleJ (w : World) {l : List S} {B : Option Addr} {cap2 cap bC i n : Nat} {c : List Int} {zc : List Value} {fc : Nat × Nat} (h : St W F cs w) (hi : cs[i]? = some (cB c bC zc fc)) (hB : RdS KS F B l) (hc : c.length ≤ 16) (hn : n = c.length) (hw : withM l c = 0) : Calls prog 101 #[.slice B l.length cap2, .slice (some ⟨bC, 0, none⟩) n cap] w fun e w' => ∃ rr v, e = .returned (.tuple #[v, Vi 0]) ∧ Row 3 Vi rr v (settleM l c) ∧ St W F (rr :: cs) w' := by
 subst hn
 obtain ⟨G, hG, hr, hS⟩ := h.freeze hi
 have hf := few_ok (Dg.with_ok hw).1
 refine (Dg.settle_o w (A2 := some ⟨bC, 0, none⟩) hS (hB.mono hG) hf.1 hf.2 (Tal.blk_read (hr _ List.mem_cons_self)) (by omega) hw).mono ?_
 rintro e w' ⟨G2, rr, v, hG2, rfl, hrow, hS2⟩
 exact ⟨rr, v, rfl, hrow, St.thaw (new := [rr]) h hi (fun p hp => hG2 _ _ (hr p hp)) (Le.trans hG hG2) hS2⟩
theorem overJ (w : World) {l : List S} {B : Option Addr} {cap2 cap bC i n : Nat} {c : List Int} {zc : List Value} {fc : Nat × Nat} (h : St W F cs w) (hi : cs[i]? = some (cB c bC zc fc)) (hB : RdS KS F B l) (hc : c.length ≤ 16) (hn : n = c.length) (hw : withM l c = 0) : Calls prog 103 #[.slice B l.length cap2, .slice (some ⟨bC, 0, none⟩) n cap] w fun e w' => e = .returned (.tuple #[Vi (overM l c).1, .bool (overM l c).2]) ∧ St W F cs w' := by
 subst hn
 obtain ⟨G, hG, hr, hS⟩ := h.freeze hi
 have hf := few_ok (Dg.with_ok hw).1
 refine (Dg.over_c w (A2 := some ⟨bC, 0, none⟩) hS (hB.mono hG) hf.1 hf.2 (Tal.blk_read (hr _ List.mem_cons_self)) (by omega)).mono ?_
 rintro e w' ⟨rfl, hS2⟩
 exact ⟨rfl, St.thaw (new := []) h hi hr hG hS2⟩
theorem readyJ (w : World) {l : List S} {B : Option Addr} {cap2 cap bC i n : Nat} {c : List Int} {zc : List Value} {fc : Nat × Nat} (h : St W F cs w) (hi : cs[i]? = some (cB c bC zc fc)) (hB : RdS KS F B l) (hc : c.length ≤ 16) (hn : n = c.length) (hw : withM l c = 0) (hfr : Free fc (c.length + zc.length)) : Calls prog 102 #[.slice B l.length cap2, .slice (some ⟨bC, 0, none⟩) n cap] w fun e w' => ∃ G A cap, Le F G ∧ e = .returned (.tuple #[.slice A (readyM l c).length cap, Vi 0]) ∧ (readyM l c).length ≤ cap ∧ RdS (Kd.one Vi) G A (readyM l c) ∧ St W G cs w' := by
 subst hn
 have hf := few_ok (Dg.with_ok hw).1
 have := Dg.readyW_c w (codes := c) (A2 := some ⟨bC, 0, none⟩) (cap := cap2) (cap2 := cap) h hB hf.1 hf.2 (RdW.row (E := 3) (f := Vi) (T3 (zs := zc) rfl hfr) hi rfl h) (by omega)
 rw [hw] at this
 exact this
def sk (x : J) (i : Nat) : List Int := (seen x.ak x.cs x.ts).take i ++ x.cs.drop i
theorem at5 {a b c d e : Res} {tm cs : List Res} {k : Nat} {r : Res} (h : tm[k]? = some r) : (a :: b :: c :: d :: e :: (tm ++ cs))[k + 5]? = some r := by
 have hk : k < tm.length := (List.getElem?_eq_some_iff.1 h).1
 show (tm ++ cs)[k]? = some r
 rw [List.getElem?_append_left hk]
 exact h
theorem set5 {a b c d e : Res} {tm cs : List Res} {k : Nat} {r : Res} (hk : k < tm.length) : (a :: b :: c :: d :: e :: (tm ++ cs)).set (k + 5) r = a :: b :: c :: d :: e :: (tm.set k r ++ cs) := by
 simp only [List.set_cons_succ]
 rw [List.set_append_left _ _ hk]
theorem sk_0 (x : J) : sk x 0 = x.cs := by simp [sk]
theorem sk_len {x : J} {i : Nat} (h : x.ts.length = x.cs.length) (hi : i ≤ x.cs.length) : (sk x i).length = x.cs.length := by
 unfold sk
 rw [lA, List.length_take, List.length_drop, seen_len h]
 omega
theorem sk_n {x : J} (h : x.ts.length = x.cs.length) : sk x x.cs.length = seen x.ak x.cs x.ts := by
 unfold sk
 rw [List.drop_length, List.append_nil, List.take_of_length_le (by rw [seen_len h]; exact Nat.le_refl _)]
theorem sk_at {x : J} {i : Nat} (h : x.ts.length = x.cs.length) (hi : i < x.cs.length) : (sk x i).getD i 0 = x.cs.getD i 0 := by
 unfold sk
 rw [gD, gD, List.getElem?_append_right (by rw [List.length_take]; omega), List.length_take, seen_len h, Nat.min_eq_left (by omega), Nat.sub_self, List.getElem?_drop, Nat.add_zero]
theorem seen_at {ak : Bool} {cs : List Int} {ts : List (Option T)} {i : Nat} (h : ts.length = cs.length) (hi : i < cs.length) : (seen ak cs ts).getD i 0 = cod ak (cs.getD i 0) (ts.getD i none) := by
 unfold seen
 rw [gD, List.getElem?_zipWith, gD, gD, gE hi, gE (show i < ts.length by omega)]
 rfl
theorem sk_s {x : J} {i : Nat} (h : x.ts.length = x.cs.length) (hi : i < x.cs.length) : sk x (i + 1) = (sk x i).set i (cod x.ak (x.cs.getD i 0) (x.ts.getD i none)) := by
 have hs := seen_len (ak := x.ak) h
 have e1 := seen_at (ak := x.ak) h hi
 have e2 : x.cs.drop i = x.cs.getD i 0 :: x.cs.drop (i + 1) := by
  rw [List.drop_eq_getElem_cons hi, gD, gE hi]; rfl
 unfold sk
 rw [e2, List.set_append_right _ _ (by rw [List.length_take]; omega), List.length_take, hs, Nat.min_eq_left (by omega), Nat.sub_self, List.set_cons_zero, ← e1, List.take_add_one, gE (show i < (seen x.ak x.cs x.ts).length by omega), gD, gE (show i < (seen x.ak x.cs x.ts).length by omega), List.append_assoc]
 rfl
theorem sk_to {x : J} {i : Nat} {v : Int} (h : x.ts.length = x.cs.length) (hi : i < x.cs.length) (hv : cod x.ak (x.cs.getD i 0) (x.ts.getD i none) = v) : (sk x i).set i v = sk x (i + 1) := by rw [sk_s h hi, hv]
theorem sk_same {x : J} {i : Nat} (h : x.ts.length = x.cs.length) (hi : i < x.cs.length) (hv : cod x.ak (x.cs.getD i 0) (x.ts.getD i none) = x.cs.getD i 0) : sk x i = sk x (i + 1) := by
 rw [sk_s h hi, hv]
 exact (set_same (d := 0) (by rw [sk_len h (by omega)]; exact hi) (sk_at h hi)).symm
theorem cod_open {x : J} {i : Nat} (h : ¬ x.cs.getD i 0 = -1) : cod x.ak (x.cs.getD i 0) (x.ts.getD i none) = x.cs.getD i 0 := if_pos h
theorem cod_none {x : J} {i : Nat} (h : x.cs.getD i 0 = -1) (h2 : x.ts.getD i none = none) (h3 : x.ak = true) : cod x.ak (x.cs.getD i 0) (x.ts.getD i none) = 256 := by
 unfold cod
 rw [if_neg (fun hh => hh h), h2, h3]; rfl
theorem cod_none0 {x : J} {i : Nat} (h : x.cs.getD i 0 = -1) (h2 : x.ts.getD i none = none) (h3 : x.ak = false) : cod x.ak (x.cs.getD i 0) (x.ts.getD i none) = x.cs.getD i 0 := by
 unfold cod
 rw [if_neg (fun hh => hh h), h2, h3, h]; rfl
theorem cod_two {x : J} {i : Nat} {t : T} (h : x.cs.getD i 0 = -1) (h2 : x.ts.getD i none = some t) (h3 : t.state = 2) : cod x.ak (x.cs.getD i 0) (x.ts.getD i none) = 255 := by
 unfold cod
 rw [if_neg (fun hh => hh h), h2]
 exact if_pos h3
theorem cod_three {x : J} {i : Nat} {t : T} (h : x.cs.getD i 0 = -1) (h2 : x.ts.getD i none = some t) (h3 : ¬ t.state = 2) (h4 : t.state = 3) : cod x.ak (x.cs.getD i 0) (x.ts.getD i none) = t.code := by
 unfold cod
 rw [if_neg (fun hh => hh h), h2]
 exact (if_neg h3).trans (if_pos h4)
theorem cod_else {x : J} {i : Nat} {t : T} (h : x.cs.getD i 0 = -1) (h2 : x.ts.getD i none = some t) (h3 : ¬ t.state = 2) (h4 : ¬ t.state = 3) : cod x.ak (x.cs.getD i 0) (x.ts.getD i none) = x.cs.getD i 0 := by
 unfold cod
 rw [if_neg (fun hh => hh h), h2, h]
 exact (if_neg h3).trans (if_neg h4)
theorem look_a {x : J} (h : (overM x.ss x.cs').2 = false) : x.mid = x.look := (if_pos h).symm
theorem look_b {x : J} (h : (overM x.ss x.cs').2 = true) (h2 : x.ak = true ∨ (overM x.ss x.cs').1 ≠ 0) : x.mid.fin 1 (overM x.ss x.cs').1 = x.look := by
 unfold J.look J.end_
 rw [if_neg (show ¬ (overM x.mid.ss x.mid.cs).2 = false from by show ¬ (overM x.ss x.cs').2 = false; rw [h]; simp)]
 exact (if_pos h2).symm
theorem look_d {x : J} (h : (overM x.ss x.cs').2 = true) (h2 : ¬ (x.ak = true ∨ (overM x.ss x.cs').1 ≠ 0)) : x.mid.fin 0 0 = x.look := by
 unfold J.look J.end_
 rw [if_neg (show ¬ (overM x.mid.ss x.mid.cs).2 = false from by show ¬ (overM x.ss x.cs').2 = false; rw [h]; simp)]
 exact (if_neg h2).symm
theorem St.two5 {W w : World} {F : Snap} {cs tm : List Res} {a b c d e p q : Res} {k : Nat} (h : St W F (p :: q :: a :: b :: c :: d :: e :: (tm ++ cs)) w) (h1 : tm[k]? = some []) (h2 : tm[k + 1]? = some []) : St W F (a :: b :: c :: d :: e :: ((tm.set k p).set (k + 1) q ++ cs)) w := by
 have hk2 : k + 1 < tm.length := (List.getElem?_eq_some_iff.1 h2).1
 have h8 := St.in_ h (i := k + 6) (show (a :: b :: c :: d :: e :: (tm ++ cs))[k + 5]? = some [] from at5 h1)
 have h9 : St W F (q :: (a :: b :: c :: d :: e :: (tm ++ cs)).set (k + 5) p) w := h8
 rw [set5 (by omega)] at h9
 have h7 := St.in_ h9 (i := k + 1 + 5) (at5 (by rw [List.getElem?_set_ne (by omega)]; exact h2))
 rwa [set5 (by rw [List.length_set]; omega)] at h7
theorem jB_len {x : J} {b bC bT m1 m2 : Nat} {A B : Option Addr} {cap cap2 : Nat} {ps ps' : List (Option Nat)} {zc zt : List Value} (h : ps.length = ps'.length) : jB x b bC bT m1 m2 A B cap cap2 ps zc zt = jB x b bC bT m1 m2 A B cap cap2 ps' zc zt := by
 unfold jB vT
 rw [h]
theorem St.swap2 {W w : World} {F : Snap} {cs : List Res} {a b : Res} (h : St W F (a :: b :: cs) w) : St W F (b :: a :: cs) w := h.perm (List.Perm.swap a b cs)
def opnN (x : J) (j : Nat) : List (Option T) := opnL x.ns x.ts ((readyM x.ss x.cs').take j)
theorem opnN_len (x : J) (j : Nat) : (opnN x j).length = x.ts.length := opnL_len _ _ _
theorem opnN_s {x : J} {j : Nat} (h : j < (readyM x.ss x.cs').length) : opnN x (j + 1) = opn1 x.ns (opnN x j) ((readyM x.ss x.cs').getD j 0) := by
 unfold opnN opnL
 rw [List.take_add_one, gE h, List.foldl_append, gD, gE h]; rfl
theorem ready_len (x : J) : (readyM x.ss x.cs').length ≤ x.ss.length := by
 unfold Dg.readyM
 split
 ·exact Dg.rdyL_len _ _ _
 exact Nat.zero_le _
theorem ready_lt {x : J} (h : x.ok) {j : Nat} (hj : j < (readyM x.ss x.cs').length) : 0 ≤ (readyM x.ss x.cs').getD j 0 ∧ ((readyM x.ss x.cs').getD j 0).toNat < x.ss.length := by
 have := (Dg.ready_at (s := x.cs') (x := (readyM x.ss x.cs').getD j 0) (Dg.settle_with h.with0) (getD_mem (d := 0) hj)).1
 exact ⟨this.1, by have := this.2; omega⟩
theorem look_c (w : World) {r : Res} {b : Nat} {x : J} (h : St W F (r :: cs) w) (hJ : JobR F r b x) (hok : x.ok) : Calls prog 60 #[pz b] w fun e w' => e = .returned (.tuple #[]) ∧ ∃ G r', Le F G ∧ JobR G r' b x.look ∧ St W G (r' :: cs) w'  := by
 refine enter (args := [pz b]) func60 rfl rfl rfl ?_
 obtain ⟨bC, bT, m1, m2, A, B, cap, cap2, ps, zc, zt, fc, ft, l1, l2, tm, h, hO⟩ := JobR.open_ h hJ
 have hok2 := hok
 have hlen : x.ts.length = x.cs.length := hok.lt.trans hok.lc.symm
 have hlp := hO.ta.lp
 have hlm := hO.ta.lm
 have hls := (Dg.chk_ok hok.ss).2.1
 have hlc := hok.lc
 have hlt := hok.lt
 have hrl : (readyM x.ss x.cs').length ≤ x.ss.length := ready_len x
 refine N0<|Wi<|H1 h [0] 4 rfl<|I0 (R0 (n := (ps.length : Int)) (Y0 underlying80 rfl rfl) rfl) rfl<|C0 1 rfl<|Wj<|B3 (σ := Nat) (fun q_ => [(0, pz b), (13, vT ps bT zt), (14, .int .i64 (ps.length : Int)), (15, .int .i64 (q_ : Int))]) (fun q_ w => q_ ≤ ps.length ∧ St W F (jB x b bC bT m1 m2 A B cap cap2 ps zc zt :: cB (sk x q_) bC zc fc :: tB ps bT zt ft :: [(m1, mobj l1)] :: [(m2, mobj l2)] :: (tm ++ cs)) w) (fun q_ => ps.length - q_) (0) (⟨Nat.zero_le _, by rw [sk_0]; exact h⟩) ?_
 rintro i w1 ⟨hi, hL⟩
 try dsimp only at hi hL
 refine W2 [(0, pz b), (13, vT ps bT zt), (14, .int .i64 (ps.length : Int)), (15, .int .i64 (i : Int))]<|Wi<|C0 1 rfl<|Wb<|Z0 rfl (fun c2 => ?_) (fun c2 => ?_)
 ·try simp only [DD] at c2
  refine U0 (H0 (N0 (M1 (N0 ?_))))
  have hi2 : i < x.cs.length := by omega
  have hi3 : i < x.ts.length := by omega
  rcases hts : x.ts.getD i none with _ | t
  ·obtain ⟨hp, hm1, hm2⟩ := hO.ta.no i hi3 hts
   refine L0<|C0 1 rfl<|I0 (W0 underlying80 inf97 rfl rfl (n := i) rfl (by omega)) rfl<|I0 (X1 (u := .pointer none) (I2 (none : Option Nat) hL 2 rfl (T3 (E := 97) (f := pv) (b := bT) (fz := ft) (xs := ps) (zs := zt) rfl hO.ft) (n := i) (by omega) underlying97 rfl rfl) (by rw [hp]; rfl)) rfl<|C0 2 rfl<|Wj<|Wi<|H1 hL [0] 5 rfl<|I0 (W0 underlying33 inf3 rfl rfl (n := i) rfl (by omega)) rfl<|I0 (R0 (n := x.cs.getD i 0) (I2 (0 : Int) hL 1 rfl (T3 (E := 3) (f := Vi) (b := bC) (fz := fc) (xs := (sk x i)) (zs := zc) rfl (by rw [sk_len hlen (by omega)]; exact hO.fc)) (n := i) (by rw [sk_len hlen (by omega)]; omega) underlying3 rfl rfl) (sk_at hlen hi2)) rfl<|C0 2 rfl<|Wa<|Z0 rfl (fun c3 => ?_) (fun c3 => ?_)
   ·try simp only [DD] at c3
    refine U0<|N1<|N1<|H0<|L0<|I0 (V0 rfl rfl (by omega)) rfl<|C0 1 rfl<|J0 ?_
    have e9 := sk_same hlen hi2 (cod_open c3)
    exact F1 (i + 1) (by omega) ⟨rfl, rfl, rfl, rfl, trivial⟩ ⟨by omega, by rw [← e9]; exact hL⟩
   try simp only [DD] at c3
   refine Wi<|C0 1 rfl<|I0 (Bt (L2 underlying97 rfl rfl) rfl) rfl<|H1 hL [0] 7 rfl<|Wa<|Z0 rfl (fun c4 => ?_) (fun c4 => ?_)
   ·try simp only [DD] at c4
    refine L0<|H1 hL [0] 5 rfl<|I0 (X1 (u := .pointer (some ⟨bC, i, none⟩)) (W0 underlying33 inf3 rfl rfl (n := i) rfl (by omega)) (by rw [add_mk, Nat.zero_add])) rfl<|E4 (n := i) (u := (256 : Int)) hL 1 rfl rfl rfl inf3 rfl (by rw [sk_len hlen (by omega)]; exact hO.fc) (by rw [sk_len hlen (by omega)]; omega) ?_
    intro  w5 h5
    try simp only [ZZ] at h5
    refine J0<|N1<|N1<|H0<|L0<|I0 (V0 rfl rfl (by omega)) rfl<|C0 1 rfl<|J0 ?_
    have hc1 : x.cs.getD i 0 = -1 := by simpa using c3
    have e9 := sk_to hlen hi2 (cod_none hc1 hts c4)
    exact F1 (i + 1) (by omega) ⟨rfl, rfl, rfl, rfl, trivial⟩ ⟨by omega, by rw [← e9]; exact h5⟩
   try simp only [DD] at c4
   refine Wi<|C0 1 rfl<|I0 (L2 underlying97 rfl rfl) rfl<|C0 1 rfl<|Wa<|J1 rfl (rfl)<|U0<|N1<|N1<|H0<|L0<|I0 (V0 rfl rfl (by omega)) rfl<|C0 1 rfl<|J0 ?_
   have hc1 : x.cs.getD i 0 = -1 := by simpa using c3
   have e9 := sk_same hlen hi2 (cod_none0 hc1 hts c4)
   exact F1 (i + 1) (by omega) ⟨rfl, rfl, rfl, rfl, trivial⟩ ⟨by omega, by rw [← e9]; exact hL⟩
  obtain ⟨bt, q1, q2, hp, hm1, hm2, mv, mc, lv, lc, hTR⟩ := hO.ta.ye i t hts
  refine L0<|C0 1 rfl<|I0 (W0 underlying80 inf97 rfl rfl (n := i) rfl (by omega)) rfl<|I0 (X1 (u := pz bt) (I2 (none : Option Nat) hL 2 rfl (T3 (E := 97) (f := pv) (b := bT) (fz := ft) (xs := ps) (zs := zt) rfl hO.ft) (n := i) (by omega) underlying97 rfl rfl) (by rw [hp]; rfl)) rfl<|C0 2 rfl<|Wj<|Wi<|H1 hL [0] 5 rfl<|I0 (W0 underlying33 inf3 rfl rfl (n := i) rfl (by omega)) rfl<|I0 (R0 (n := x.cs.getD i 0) (I2 (0 : Int) hL 1 rfl (T3 (E := 3) (f := Vi) (b := bC) (fz := fc) (xs := (sk x i)) (zs := zc) rfl (by rw [sk_len hlen (by omega)]; exact hO.fc)) (n := i) (by rw [sk_len hlen (by omega)]; omega) underlying3 rfl rfl) (sk_at hlen hi2)) rfl<|C0 2 rfl<|Wa<|Z0 rfl (fun c6 => ?_) (fun c6 => ?_)
  ·try simp only [DD] at c6
   refine U0<|N1<|N1<|H0<|L0<|I0 (V0 rfl rfl (by omega)) rfl<|C0 1 rfl<|J0 ?_
   have e9 := sk_same hlen hi2 (cod_open c6)
   exact F1 (i + 1) (by omega) ⟨rfl, rfl, rfl, rfl, trivial⟩ ⟨by omega, by rw [← e9]; exact hL⟩
  try simp only [DD] at c6
  refine Wi<|C0 1 rfl<|I0 (Bf (L2 underlying97 rfl rfl) rfl) rfl<|C0 7 rfl<|Wa<|E1 rfl (rfl)<|Wi<|C0 1 rfl<|I0 (L2 underlying97 rfl rfl) rfl<|C0 1 rfl<|Wa<|E1 rfl (rfl)<|Wi<|C0 1 rfl<|C1 (cn func45) rfl rfl (Tal.state_c _ hL (TR.at2 hTR (at5 hm1) (at5 hm2) (by omega))) fun w7 h7 =>C0 2 rfl<|Wa<|Z0 rfl (fun c8 => ?_) (fun c8 => ?_)
  ·try simp only [DD] at c8
   refine L0<|H1 h7 [0] 5 rfl<|I0 (X1 (u := .pointer (some ⟨bC, i, none⟩)) (W0 underlying33 inf3 rfl rfl (n := i) rfl (by omega)) (by rw [add_mk, Nat.zero_add])) rfl<|E4 (n := i) (u := (255 : Int)) h7 1 rfl rfl rfl inf3 rfl (by rw [sk_len hlen (by omega)]; exact hO.fc) (by rw [sk_len hlen (by omega)]; omega) ?_
   intro  w9 h9
   try simp only [ZZ] at h9
   refine J0<|N1<|N1<|H0<|L0<|I0 (V0 rfl rfl (by omega)) rfl<|C0 1 rfl<|J0 ?_
   have hc1 : x.cs.getD i 0 = -1 := by simpa using c6
   have e9 := sk_to hlen hi2 (cod_two hc1 hts c8)
   exact F1 (i + 1) (by omega) ⟨rfl, rfl, rfl, rfl, trivial⟩ ⟨by omega, by rw [← e9]; exact h9⟩
  try simp only [DD] at c8
  refine Wi<|C0 1 rfl<|C1 (cn func45) rfl rfl (Tal.state_c _ h7 (TR.at2 hTR (at5 hm1) (at5 hm2) (by omega))) fun w10 h10 =>C0 2 rfl<|Wa<|Z0 rfl (fun c11 => ?_) (fun c11 => ?_)
  ·try simp only [DD] at c11
   refine T5 h10 (fun s_ => ([8] : List Nat).any (Nat.beq s_)) mixed (by kernel_rfl)<|fun hx =>fun w12 h12=>J4 hx 12 [3] [0, 1, 2, 4, 5, 3] [0] rfl<|F3 6 h12 (by rfl)<|C1 (cn func100) rfl rfl (Tal.code_c _ h12 (TR.at2 hTR (at5 hm1) (at5 hm2) (by omega))) fun w13 h13 =>J0<|H2<|Z2 hx 7 (by rfl) (fun w_ => X1 (u := .pointer (some ⟨bC, i, none⟩)) (W0 underlying33 inf3 rfl rfl (n := i) rfl (by omega)) (by rw [add_mk, Nat.zero_add])) rfl<|F3 8 h13 (by rfl)<|E4 (n := i) (u := (t.code : Int)) h13 1 rfl rfl rfl inf3 rfl (by rw [sk_len hlen (by omega)]; exact hO.fc) (by rw [sk_len hlen (by omega)]; omega) ?_
   intro  w14 h14
   try simp only [ZZ] at h14
   refine J0<|H2<|H3 (.inl ⟨8, rfl, by kernel_rfl⟩) (by kernel_rfl)<|N1<|N1<|H0<|L0<|I0 (V0 rfl rfl (by omega)) rfl<|C0 1 rfl<|J0 ?_
   have hc1 : x.cs.getD i 0 = -1 := by simpa using c6
   have e9 := sk_to hlen hi2 (cod_three hc1 hts c8 c11)
   exact F1 (i + 1) (by omega) ⟨rfl, rfl, rfl, rfl, trivial⟩ ⟨by omega, by rw [← e9]; exact h14⟩
  try simp only [DD] at c11
  refine U0<|N1<|N1<|H0<|L0<|I0 (V0 rfl rfl (by omega)) rfl<|C0 1 rfl<|J0 ?_
  have hc1 : x.cs.getD i 0 = -1 := by simpa using c6
  have e9 := sk_same hlen hi2 (cod_else hc1 hts c8 c11)
  exact F1 (i + 1) (by omega) ⟨rfl, rfl, rfl, rfl, trivial⟩ ⟨by omega, by rw [← e9]; exact h10⟩
 try simp only [DD] at c2
 refine U1 (B2 (WX.cut (E2 (H0 (N0 ?_)))))
 obtain rfl : i = x.cs.length := by omega
 rw [sk_n hlen] at hL
 have hsl : (seen x.ak x.cs x.ts).length = x.ss.length := (seen_len hlen).trans hlc
 refine Q4 (fun w_ => St W _ _ w_) (fun k => Nat.beq k 10 || Nat.beq k 16) mixed (by kernel_rfl) (hL.drew)<|fun hx =>K4 hx 5 rfl<|W3 12 hx (by rfl) rfl (by kernel_rfl) (fun w_ hC_ => K0 underlying34 rfl rfl (hC_.ocell (i := 0) rfl rfl)) rfl<|K4 hx 3 rfl<|W3 12 hx (by rfl) rfl (by kernel_rfl) (fun w_ hC_ => K0 underlying33 rfl rfl (hC_.ocell (i := 0) rfl rfl)) rfl<|Z4 hx rfl (by decide) (by kernel_rfl) fun w15 h15=>F5 (by rfl) rfl (by kernel_rfl)<|V1 (cn func101) rfl rfl (settleJ _ (l := x.ss) h15 (i := 1) rfl hO.st (by rw [hsl]; omega) (seen_len hlen).symm hok.with0) ?_
 rintro _ w16 ⟨rr, vv, rfl, hrow, h16⟩
 refine ⟨_, rfl, ?_⟩
 obtain ⟨bb, zs, fz, rfl, rfl, hfz⟩ := Row.blk hrow (by show 0 < x.cs'.length; rw [hok.len']; omega)
 refine J0<|I4<|X3 hx (by rfl) (fun w_ => C3 rfl) rfl<|X3 hx (by rfl) (fun w_ => Runs.extract rfl rfl) rfl<|X3 hx (by rfl) (fun w_ => Runs.extract rfl rfl) rfl<|X3 hx (by rfl) (fun w_ => S6 rfl) rfl<|X3 hx (by rfl) (fun w_ => Runs.fld fld83_6 rfl) rfl<|F5 (by rfl) rfl (by kernel_rfl)<|O3 h16 1 rfl rfl rfl inf33 rfl rfl ?_
 intro  w17 h17
 try simp only [ZZ] at h17
 refine J0<|I4<|B5 rfl (by kernel_rfl)<|H0 (N0 ?_)
 replace h17 : St W F (jB x.mid b bb bT m1 m2 A B cap cap2 ps zs zt :: cB x.cs' bb zs fz :: tB ps bT zt ft :: [(m1, mobj l1)] :: [(m2, mobj l2)] :: (tm ++ cs)) w17 := St.swap2 (h17.drop 2)
 refine Q4 (fun w_ => St W _ _ w_) (fun k => Nat.beq k 9) mixed (by kernel_rfl) (h17.drew)<|fun hx =>K4 hx 4 rfl<|W3 12 hx (by rfl) rfl (by kernel_rfl) (fun w_ hC_ => K0 underlying34 rfl rfl (hC_.ocell (i := 0) rfl rfl)) rfl<|K4 hx 3 rfl<|W3 12 hx (by rfl) rfl (by kernel_rfl) (fun w_ hC_ => K0 underlying33 rfl rfl (hC_.ocell (i := 0) rfl rfl)) rfl<|Z4 hx rfl (by decide) (by kernel_rfl) fun w18 h18=>F5 (by rfl) rfl (by kernel_rfl)<|V1 (cn func102) rfl rfl (readyJ _ (l := x.ss) (c := x.cs') h18 (i := 1) (zc := zs) (fc := fz) rfl hO.st (by show x.cs'.length ≤ 16; rw [hok.len']; omega) rfl (Dg.settle_with hok.with0) hfz) ?_
 rintro _ w19 ⟨G2, A9, cap9, hle2, rfl, hcap9, hrd9, h19⟩
 refine ⟨_, rfl, ?_⟩
 have hO2 := hO.mono hle2
 refine J0<|I4<|X3 hx (by rfl) (fun w_ => C3 rfl) rfl<|X3 hx (by rfl) (fun w_ => Runs.extract rfl rfl) rfl<|X3 hx (by rfl) (fun w_ => Runs.extract rfl rfl) rfl<|X3 hx (by rfl) (fun w_ => Runs.assign rfl) rfl<|X3 hx (by rfl) (fun w_ => Runs.assign rfl) rfl<|B5 rfl (by kernel_rfl)<|H0<|N0<|Wi<|C0 1 rfl<|I0 (R0 (n := ((readyM x.ss x.cs').length : Int)) (Y0 underlying33 rfl rfl) rfl) rfl<|C0 1 rfl<|Wj<|B3 (σ := Nat × Snap × List (Option Nat) × List Res) (fun q_ => [(0, pz b), (99, .slice A9 (readyM x.ss x.cs').length cap9), (100, .int .i64 ((readyM x.ss x.cs').length : Int)), (101, .int .i64 (q_.1 : Int))]) (fun q_ w => q_.1 ≤ (readyM x.ss x.cs').length ∧ Le G2 q_.2.1 ∧ TalsR QP q_.2.1 (opnN x q_.1) q_.2.2.1 q_.2.2.2 ∧ Free ft (q_.2.2.1.length + zt.length) ∧ q_.2.2.1.length = ps.length ∧ St W q_.2.1 (jB x.mid b bb bT m1 m2 A B cap cap2 ps zs zt :: cB x.cs' bb zs fz :: tB q_.2.2.1 bT zt ft :: [(m1, mobj l1)] :: [(m2, mobj l2)] :: (q_.2.2.2 ++ cs)) w) (fun q_ => (readyM x.ss x.cs').length - q_.1) (⟨0, G2, ps, tm⟩) (⟨Nat.zero_le _, Le.refl _, hO2.ta, hO.ft, rfl, h19⟩) ?_
 rintro ⟨j, G3, ps3, tm3⟩ w20 ⟨hj, hle3, hta, hft3, hlp3, hL⟩
 try dsimp only at hj hle3 hta hft3 hlp3 hL
 refine W2 [(0, pz b), (99, .slice A9 (readyM x.ss x.cs').length cap9), (100, .int .i64 ((readyM x.ss x.cs').length : Int)), (101, .int .i64 (j : Int))] ?_
 have hO3 := hO2.mono hle3
 have hns16 : x.ns.length ≤ 100000 := by have := Tal.oks_len hok.ns.2; omega
 refine Wi<|C0 1 rfl<|Wb<|Z0 rfl (fun c21 => ?_) (fun c21 => ?_)
 ·try simp only [DD] at c21
  refine U0 (H0 (N0 (M1 (N0 ?_))))
  have hj2 : j < (readyM x.ss x.cs').length := by omega
  have hyr := ready_lt hok hj2
  obtain ⟨ad9, rfl, hrdj⟩ := rd1 (hrd9.mono hle3) (by omega)
  obtain ⟨y, hy⟩ : ∃ y, (readyM x.ss x.cs').getD j 0 = y := ⟨_, rfl⟩
  rw [hy] at hyr
  have hy0 : (readyM x.ss x.cs').getD j 0 = (y.toNat : Int) := by omega
  have hyl : y.toNat < x.ts.length := by omega
  refine L0<|I0 (W0 underlying33 inf3 rfl rfl (n := j) rfl (by omega)) rfl<|I0 (I1 (f := Vi) (0 : Int) hL hrdj (n := j) (by omega) underlying3 rfl rfl) rfl<|C0 1 rfl<|J0 (H0 (N0 ?_))
  rcases hty : (opnN x j).getD y.toNat none with _ | t
  ·obtain ⟨hp, hm1, hm2⟩ := hta.no y.toNat (by rw [opnN_len]; exact hyl) hty
   refine L0<|H1 hL [0] 5 rfl<|I0 (W0 underlying80 inf97 rfl rfl (n := y.toNat) hy0 (by omega)) rfl<|I0 (X1 (u := .pointer none) (I2 (none : Option Nat) hL 2 rfl (T3 (E := 97) (f := pv) (b := bT) (fz := ft) (xs := ps3) (zs := zt) rfl hft3) (n := y.toNat) (by omega) underlying97 rfl rfl) (by rw [hp]; rfl)) rfl<|I0 (Bt (L2 underlying97 rfl rfl) rfl) rfl<|Wa<|J1 rfl (rfl)<|V2 hL hL (fun s_ => ([12] : List Nat).any (Nat.beq s_)) mixed (by kernel_rfl)<|fun hx =>fun w22 h22=>J4 hx 12 [3, 9] [0, 1, 2, 4, 5, 6, 7, 8, 3, 9] [0, 0] rfl<|F3 10 h22 (by rfl)<|V1 (cn func97) rfl rfl (Tal.new_c _ h22 hO3.nd hns16 hok.ns.2 hok.ns.1) ?_
   rintro _ w23 ⟨G4, bt, mv, mc, lv, lc, rfl, hle4, h23, hTR4⟩
   refine ⟨_, rfl,J0<|H2<|Z2 hx 11 (by rfl) (fun w_ => X1 (u := .pointer (some ⟨bT, y.toNat, none⟩)) (W0 underlying80 inf97 rfl rfl (n := y.toNat) hy0 (by omega)) (by rw [add_mk, Nat.zero_add])) rfl<|F3 12 (((h23.weak hle4).drop 1).drop 0) (by rfl)<|E4 (n := y.toNat) (u := (some bt : Option Nat)) h23 4 rfl rfl rfl inf97 rfl hft3 (by omega) ?_⟩
   intro  w24 h24
   try simp only [ZZ] at h24
   refine J0<|H2<|H3 (.inl ⟨12, rfl, by kernel_rfl⟩) (by kernel_rfl)<|N1<|H0<|L0<|I0 (V0 rfl rfl (by omega)) rfl<|C0 1 rfl<|J0 ?_
   have hta4 := hta.mono (fun _ _ _ _ => QP.mono hle4)
   have hta5 := hta4.put (i := y.toNat) (by rw [opnN_len]; exact hyl) (TR.two hTR4)
   have e9 : opnN x (j + 1) = (opnN x j).set y.toNat (some (T.new x.ns)) := by
    rw [opnN_s hj2, hy]
    unfold opn1
    rw [hty]; rfl
   have hlm3 := hta.lm
   rw [opnN_len] at hlm3
   have hS7 := St.two5 h24 hm1 hm2
   exact F1 (⟨j + 1, G4, _, _⟩ : Nat × Snap × List (Option Nat) × List Res) (by show _ - (j + 1) < _ - j; omega) ⟨rfl, rfl, rfl, rfl, trivial⟩ ⟨by show j + 1 ≤ _; omega, Le.trans hle3 hle4, (by show TalsR QP G4 (opnN x (j + 1)) _ _; rw [e9]; exact hta5), (by show Free ft _; rw [List.length_set]; exact hft3), (by show (List.set _ _ _).length = _; rw [List.length_set]; exact hlp3), hS7⟩
  obtain ⟨bt, q1, q2, hp, hm1, hm2, mv, mc, lv, lc, hTR⟩ := hta.ye y.toNat t hty
  refine L0<|H1 hL [0] 5 rfl<|I0 (W0 underlying80 inf97 rfl rfl (n := y.toNat) hy0 (by omega)) rfl<|I0 (X1 (u := pz bt) (I2 (none : Option Nat) hL 2 rfl (T3 (E := 97) (f := pv) (b := bT) (fz := ft) (xs := ps3) (zs := zt) rfl hft3) (n := y.toNat) (by omega) underlying97 rfl rfl) (by rw [hp]; rfl)) rfl<|I0 (Bf (L2 underlying97 rfl rfl) rfl) rfl<|Wa<|E1 rfl (rfl)<|U0<|N1<|H0<|L0<|I0 (V0 rfl rfl (by omega)) rfl<|C0 1 rfl<|J0 ?_
  have e9 : opnN x (j + 1) = opnN x j := by
   rw [opnN_s hj2, hy]
   unfold opn1
   rw [hty]; rfl
  exact F1 (⟨j + 1, G3, ps3, tm3⟩ : Nat × Snap × List (Option Nat) × List Res) (by show _ - (j + 1) < _ - j; omega) ⟨rfl, rfl, rfl, rfl, trivial⟩ ⟨by show j + 1 ≤ _; omega, hle3, (by show TalsR QP G3 (opnN x (j + 1)) _ _; rw [e9]; exact hta), hft3, hlp3, hL⟩
 try simp only [DD] at c21
 refine U1 (B2 (WX.cut (E2 (H0 (N0 ?_)))))
 obtain rfl : j = (readyM x.ss x.cs').length := by omega
 have hta : TalsR QP G3 x.mid.ts ps3 tm3 := by
  have e9 : opnN x (readyM x.ss x.cs').length = x.mid.ts := by unfold opnN; rw [List.take_of_length_le (Nat.le_refl _)]; rfl
  rwa [e9] at hta
 refine Q4 (fun w_ => St W _ _ w_) (fun k => Nat.beq k 9) mixed (by kernel_rfl) (hL.drew)<|fun hx =>K4 hx 4 rfl<|W3 12 hx (by rfl) rfl (by kernel_rfl) (fun w_ hC_ => K0 underlying34 rfl rfl (hC_.ocell (i := 0) rfl rfl)) rfl<|K4 hx 3 rfl<|W3 12 hx (by rfl) rfl (by kernel_rfl) (fun w_ hC_ => K0 underlying33 rfl rfl (hC_.ocell (i := 0) rfl rfl)) rfl<|Z4 hx rfl (by decide) (by kernel_rfl) fun w25 h25=>F5 (by rfl) rfl (by kernel_rfl)<|C1 (cn func103) rfl rfl (overJ _ (l := x.ss) (c := x.cs') h25 (i := 1) (zc := zs) (fc := fz) rfl hO3.st (by show x.cs'.length ≤ 16; rw [hok.len']; omega) rfl (Dg.settle_with hok.with0)) fun w26 h26 =>J0<|I4<|X3 hx (by rfl) (fun w_ => C3 rfl) rfl<|X3 hx (by rfl) (fun w_ => Runs.extract rfl rfl) rfl<|X3 hx (by rfl) (fun w_ => Runs.extract rfl rfl) rfl<|X3 hx (by rfl) (fun w_ => Runs.assign rfl) rfl<|X3 hx (by rfl) (fun w_ => Runs.assign rfl) rfl<|B5 rfl (by kernel_rfl)<|H0 (M1 (N0 ?_))
 obtain ⟨r9, hJ9, hS9⟩ := JobR.close (x := x.mid) (ps := ps3) (tm := tm3) (bC := bb) (zc := zs) (fc := fz) (show St W _ (jB x.mid b bb bT m1 m2 A B cap cap2 ps3 zs zt :: cB x.mid.cs bb zs fz :: tB ps3 bT zt ft :: [(m1, mobj l1)] :: [(m2, mobj l2)] :: (tm3 ++ cs)) _ from by rw [jB_len (show ps3.length = ps.length by omega)]; exact h26) ⟨hO3.nd, hO3.st, hfz, hft3, hta, hO3.r1, hO3.r2⟩
 refine L0<|C0 1 rfl<|I0 (D7 (c := (!(overM x.ss x.cs').2)) (R1 rfl) rfl) rfl<|C0 1 rfl<|Wa<|Z0 rfl (fun c27 => ?_) (fun c27 => ?_)
 ·try simp only [DD] at c27
  refine U0<|N1<|end0 rfl ⟨rfl, G3, r9, Le.trans hle2 hle3, (look_a c27) ▸ hJ9, hS9⟩
 try simp only [DD] at c27
 refine N0 ?_
 rcases hak : x.ak with _ | _
 ·refine L0<|C0 3 rfl<|I0 (Bf (K0 underlying4 rfl rfl (h26.ocell (i := 0) rfl rfl)) hak) rfl<|C0 5 rfl<|Wa<|Z0 rfl (fun c28 => ?_) (fun c28 => ?_)
  ·try simp only [DD] at c28
   refine L0<|C0 2 rfl<|C1 (cn func86) rfl rfl (finish_c _ hS9 hJ9 1 (overM x.ss x.cs').1) fun w29 ⟨r8, hJ8, h29⟩ =>J0<|N1<|end0 rfl ⟨rfl, G3, r8, Le.trans hle2 hle3, (look_b c27 (.inr c28)) ▸ hJ8, h29⟩
  try simp only [DD] at c28
  refine L0<|C0 1 rfl<|C1 (cn func86) rfl rfl (finish_c _ hS9 hJ9 0 0) fun w30 ⟨r8, hJ8, h30⟩ =>J0<|N1<|end0 rfl ⟨rfl, G3, r8, Le.trans hle2 hle3, (look_d c27 (by rintro (h0 | h0); rw [hak] at h0; cases h0; exact h0 c28)) ▸ hJ8, h30⟩
 refine L0<|C0 3 rfl<|I0 (Bt (K0 underlying4 rfl rfl (h26.ocell (i := 0) rfl rfl)) hak) rfl<|C0 5 rfl<|Wa<|J1 rfl (rfl)<|L0<|C0 2 rfl<|C1 (cn func86) rfl rfl (finish_c _ hS9 hJ9 1 (overM x.ss x.cs').1) fun w31 ⟨r8, hJ8, h31⟩ =>J0<|N1<|end0 rfl ⟨rfl, G3, r8, Le.trans hle2 hle3, (look_b c27 (.inl hak)) ▸ hJ8, h31⟩
theorem Runs.mlen {P : Program} {sl : Sl} {W w : World} {F : Snap} {cs : List Res} {x : Operand} {t T K E : TypeId} {ts : Array TypeId} {b : Nat} {l : List (Int × Value)} (h : St W F cs w) (i : Nat) (hi : cs[i]? = some [(b, mobj l)]) (hu : P.underlying T = some (.map K E)) (hts : ts = #[T]) (hx : evs sl x = some (.map (some b))) :
  Runs P sl (.call { callee := .builtin .len, args := #[x], argTypes := ts }) t w (.int .i64 l.length) := fun ρ h' o ho _ => by
 subst hts
 have hb := h.blk hi
 have e1 : (ments 0 l).length = l.length := ments_len l 0
 simp [execOp, ho, h' _ _ hx, resolve, invoke, builtin, Builtin.len_, underlying, program, hu, pure, Sem.run, bind, Sem.bind, goInt, getObj, hb, mobj, e1]
theorem started_a {x : J} {n a : Int} (h : a = 0) (h2 : (x.hasR n).rd.length = x.ns.length) : (x.hasR n).run.look = x.started n a := by
 unfold J.started
 rw [if_pos h, if_pos h2]
theorem started_b {x : J} {n a : Int} (h : a = 0) (h2 : ¬ (with_ x.rd n).length = x.ns.length) : x.hasR n = x.started n a := by
 unfold J.started
 rw [if_pos h]
 exact (if_neg h2).symm
theorem started_c1 {x : J} {n a : Int} (h : ¬ a = 0) (h2 : x.ep < 3) : x.fin 2 0 = x.started n a := by
 unfold J.started
 rw [if_neg h, if_pos h2]
theorem started_d {x : J} {n a : Int} (h : ¬ a = 0) (h2 : ¬ x.ep < 3) : x.fin 1 0 = x.started n a := by
 unfold J.started
 rw [if_neg h, if_neg h2]
theorem left_a {x : J} {n : Int} (h : (with_ x.gn n).length < x.ns.length) : x.hasG n = x.left n := (if_pos h).symm
theorem left_b {x : J} {n : Int} (h : ¬ (with_ x.gn n).length < x.ns.length) (h2 : x.ft = 2) : { x.hasG n with ep := x.ep + 1 }.begin = x.left n := ((if_neg h).trans (if_pos h2)).symm
theorem left_d {x : J} {n : Int} (h : ¬ (with_ x.gn n).length < x.ns.length) (h2 : ¬ x.ft = 2) : { x.hasG n with ph := 3 } = x.left n := ((if_neg h).trans (if_neg h2)).symm
theorem St.keep1 {W w : World} {F : Snap} {cs tm : List Res} {a b c d e : Res} (h : St W F (a :: b :: c :: d :: e :: (tm ++ cs)) w) : St W F (a :: cs) w := h.subl (by
 simp only [List.flatten_cons, List.flatten_append]
 refine (List.Sublist.refl _).append ?_
 iterate 5 refine List.sublist_append_of_sublist_right ?_
 exact List.Sublist.refl _)
theorem mset_keys (n : Int) (v : Value) : ∀ (l : List (Int × Value)), (mset n v l).map (·.1) = with_ (l.map (·.1)) n
 |[] => rfl
 |q :: l => by
  unfold mset with_
  by_cases e : n = q.1
  ·rw [if_pos e, if_pos (by rw [e]; exact List.mem_cons_self)]
   simp [e]
  have ih := mset_keys n v l
  unfold with_ at ih
  rw [if_neg e, List.map_cons, List.map_cons, ih]
  by_cases hm : n ∈ l.map (·.1)
  ·rw [if_pos hm, if_pos (List.mem_cons_of_mem _ hm)]
  rw [if_neg hm, if_neg (fun hh => by rcases List.mem_cons.1 hh with h1 | h1; exact e h1; exact hm h1)]
  rfl
theorem mset_klen (n : Int) (v : Value) (l : List (Int × Value)) {rd : List Int} (h : l.map (·.1) = rd) : (mset n v l).length = (with_ rd n).length := by
 have := congrArg List.length (mset_keys n v l)
 rw [List.length_map, h] at this
 exact this
theorem started_c (w : World) {r : Res} {b : Nat} {x : J} (h : St W F (r :: cs) w) (hJ : JobR F r b x) (node arg : Int) (hok : x.ok) (hn : node ∈ x.ns) : Calls prog 41 #[pz b, Vi node, Vi arg] w fun e w' => e = .returned (.tuple #[]) ∧ ∃ G r', Le F G ∧ JobR G r' b (x.started node arg) ∧ St W G (r' :: cs) w'  := by
 refine enter (args := [pz b, Vi node, Vi arg]) func41 rfl rfl rfl ?_
 obtain ⟨bC, bT, m1, m2, A, B, cap, cap2, ps, zc, zt, fc, ft, l1, l2, tm, h, hO⟩ := JobR.open_ h hJ
 have hls := (Dg.chk_ok hok.ss).2.1
 have hns := Tal.oks_len hok.ns.2
 have hlen1 := mset_klen node (Vi x.ep) l1 hO.r1
 refine M1<|Wi<|C0 3 rfl<|Wa<|Z0 rfl (fun c1 => ?_) (fun c1 => ?_)
 ·try simp only [DD] at c1
  refine N0<|V2 h h (fun s_ => ([9] : List Nat).any (Nat.beq s_)) mixed (by kernel_rfl)<|fun hx =>fun w2 h2=>J4 hx 12 [3, 8] [0, 1, 2, 4, 5, 6, 7, 3, 8] [0, 0] rfl<|F3 9 h2 (by rfl)<|A6 h2 3 rfl underlying81 underlying3 rfl rfl rfl ?_
  intro  w3 h3
  try simp only [ZZ] at h3
  refine J0<|H2<|H3 (.inl ⟨9, rfl, by kernel_rfl⟩) (by kernel_rfl)<|H0<|N0<|V2 h3 h3 (fun s_ => ([] : List Nat).any (Nat.beq s_)) mixed (by kernel_rfl)<|fun hx =>fun w4 h4=>J4 hx 12 [3] [0, 1, 2, 5, 6, 7, 8, 3] [0] rfl<|V3 12 hx 4 (by rfl) (fun w_ hE_ => R0 (n := ((with_ x.rd node).length : Int)) (Runs.mlen hE_ 3 rfl underlying81 rfl rfl) (congrArg (fun n : Nat => (n : Int)) hlen1)) rfl<|J4 hx 12 [9] [9] [0] rfl<|Z2 hx 10 (by rfl) (fun w_ => R0 (n := (x.ns.length : Int)) (Y0 underlying33 rfl rfl) rfl) rfl<|L3 hx [11] rfl<|H3 (.inr h4) (by kernel_rfl)<|H0<|Z0 rfl (fun c5 => ?_) (fun c5 => ?_)
  ·try simp only [DD] at c5
   refine Wi<|C0 3 rfl<|O3 h4 0 rfl rfl rfl inf3 rfl rfl ?_
   intro  w6 h6
   try simp only [ZZ] at h6
   refine J0 (H0 ?_)
   have heq : (x.hasR node).rd.length = x.ns.length := by show (with_ x.rd node).length = _; omega
   obtain ⟨r9, hJ9, hS9⟩ := JobR.close (x := (x.hasR node).run) (l1 := mset node (Vi x.ep) l1) (l2 := l2) (tm := tm) (show St W F (jB ((x.hasR node).run) b bC bT m1 m2 A B cap cap2 ps zc zt :: cB x.cs bC zc fc :: tB ps bT zt ft :: [(m1, mobj (mset node (Vi x.ep) l1))] :: [(m2, mobj (l2))] :: (tm ++ cs)) _ from h6) ⟨hO.nd, hO.st, hO.fc, hO.ft, hO.ta, ((mset_keys _ _ _).trans (by rw [hO.r1]; rfl)), hO.r2⟩
   refine L0<|C0 1 rfl<|C1 (cn func60) rfl rfl (look_c _ hS9 hJ9 (hok.hasR hn).run) fun w7 ⟨G9, r8, hle9, hJ8, h7⟩ =>J0<|N1<|end0 rfl ⟨rfl, G9, r8, hle9, (started_a c1 heq) ▸ hJ8, h7⟩
  try simp only [DD] at c5
  refine U0 (N1 ?_)
  obtain ⟨r9, hJ9, hS9⟩ := JobR.close (x := x.hasR node) (l1 := mset node (Vi x.ep) l1) (l2 := l2) (tm := tm) (show St W F (jB (x.hasR node) b bC bT m1 m2 A B cap cap2 ps zc zt :: cB x.cs bC zc fc :: tB ps bT zt ft :: [(m1, mobj (mset node (Vi x.ep) l1))] :: [(m2, mobj (l2))] :: (tm ++ cs)) _ from h4) ⟨hO.nd, hO.st, hO.fc, hO.ft, hO.ta, ((mset_keys _ _ _).trans (by rw [hO.r1]; rfl)), hO.r2⟩
  exact end0 rfl ⟨rfl, F, r9, Le.refl F, (started_b c1 (fun hh => c5 (congrArg (fun n : Nat => (n : Int)) hh))) ▸ hJ9, hS9⟩
 try simp only [DD] at c1
 refine Wi<|H1 h [0] 6 rfl<|Wa<|Z0 rfl (fun c8 => ?_) (fun c8 => ?_)
 ·try simp only [DD] at c8
  obtain ⟨r9, hJ9, hS9⟩ := JobR.close (x := x) (l1 := l1) (l2 := l2) (tm := tm) (show St W F (jB (x) b bC bT m1 m2 A B cap cap2 ps zc zt :: cB x.cs bC zc fc :: tB ps bT zt ft :: [(m1, mobj (l1))] :: [(m2, mobj (l2))] :: (tm ++ cs)) _ from h) ⟨hO.nd, hO.st, hO.fc, hO.ft, hO.ta, hO.r1, hO.r2⟩
  refine L0<|C0 1 rfl<|C1 (cn func86) rfl rfl (finish_c _ hS9 hJ9 2 0) fun w9 ⟨r8, hJ8, h9⟩ =>J0<|N1<|end0 rfl ⟨rfl, F, r8, Le.refl F, (started_c1 c1 c8) ▸ hJ8, h9⟩
 try simp only [DD] at c8
 obtain ⟨r9, hJ9, hS9⟩ := JobR.close (x := x) (l1 := l1) (l2 := l2) (tm := tm) (show St W F (jB (x) b bC bT m1 m2 A B cap cap2 ps zc zt :: cB x.cs bC zc fc :: tB ps bT zt ft :: [(m1, mobj (l1))] :: [(m2, mobj (l2))] :: (tm ++ cs)) _ from h) ⟨hO.nd, hO.st, hO.fc, hO.ft, hO.ta, hO.r1, hO.r2⟩
 refine L0<|C0 1 rfl<|C1 (cn func86) rfl rfl (finish_c _ hS9 hJ9 1 0) fun w10 ⟨r8, hJ8, h10⟩ =>J0<|N1<|end0 rfl ⟨rfl, F, r8, Le.refl F, (started_d (x := x) (n := node) c1 (by omega)) ▸ hJ8, h10⟩
theorem left_c (w : World) {r : Res} {b : Nat} {x : J} (h : St W F (r :: cs) w) (hJ : JobR F r b x) (node : Int) (hok : x.ok) : Calls prog 43 #[pz b, Vi node] w fun e w' => e = .returned (.tuple #[]) ∧ ∃ G r', Le F G ∧ JobR G r' b (x.left node) ∧ St W G (r' :: cs) w'  := by
 refine enter (args := [pz b, Vi node]) func43 rfl rfl rfl ?_
 obtain ⟨bC, bT, m1, m2, A, B, cap, cap2, ps, zc, zt, fc, ft, l1, l2, tm, h, hO⟩ := JobR.open_ h hJ
 have hls := (Dg.chk_ok hok.ss).2.1
 have hns := Tal.oks_len hok.ns.2
 have hep := hok.ep
 have hlen1 := mset_klen node (Vi x.ep) l2 hO.r2
 refine N0<|V2 h h (fun s_ => ([9] : List Nat).any (Nat.beq s_)) mixed (by kernel_rfl)<|fun hx =>fun w1 h1=>J4 hx 12 [3, 8] [0, 1, 2, 4, 5, 6, 7, 3, 8] [0, 0] rfl<|F3 9 h1 (by rfl)<|A6 h1 4 rfl underlying81 underlying3 rfl rfl rfl ?_
 intro  w2 h2
 try simp only [ZZ] at h2
 refine J0<|H2<|H3 (.inl ⟨9, rfl, by kernel_rfl⟩) (by kernel_rfl)<|H0<|M1<|N0<|V2 h2 h2 (fun s_ => ([] : List Nat).any (Nat.beq s_)) mixed (by kernel_rfl)<|fun hx =>fun w3 h3=>J4 hx 12 [3] [0, 1, 2, 5, 6, 7, 8, 3] [0] rfl<|V3 12 hx 4 (by rfl) (fun w_ hE_ => R0 (n := ((with_ x.gn node).length : Int)) (Runs.mlen hE_ 4 rfl underlying81 rfl rfl) (congrArg (fun n : Nat => (n : Int)) hlen1)) rfl<|J4 hx 12 [9] [9] [0] rfl<|Z2 hx 10 (by rfl) (fun w_ => R0 (n := (x.ns.length : Int)) (Y0 underlying33 rfl rfl) rfl) rfl<|L3 hx [11, 12] rfl<|H3 (.inr h3) (by kernel_rfl)<|H0<|Z0 rfl (fun c4 => ?_) (fun c4 => ?_)
 ·try simp only [DD] at c4
  refine U0 (N1 ?_)
  obtain ⟨r9, hJ9, hS9⟩ := JobR.close (x := x.hasG node) (l1 := l1) (l2 := mset node (Vi x.ep) l2) (tm := tm) (show St W F (jB (x.hasG node) b bC bT m1 m2 A B cap cap2 ps zc zt :: cB x.cs bC zc fc :: tB ps bT zt ft :: [(m1, mobj (l1))] :: [(m2, mobj (mset node (Vi x.ep) l2))] :: (tm ++ cs)) _ from h3) ⟨hO.nd, hO.st, hO.fc, hO.ft, hO.ta, hO.r1, ((mset_keys _ _ _).trans (by rw [hO.r2]; rfl))⟩
  exact end0 rfl ⟨rfl, F, r9, Le.refl F, (left_a (x := x) (n := node) (by omega)) ▸ hJ9, hS9⟩
 try simp only [DD] at c4
 refine Wi<|H1 h3 [0] 6 rfl<|Wa<|Z0 rfl (fun c5 => ?_) (fun c5 => ?_)
 ·try simp only [DD] at c5
  refine Wi<|H1 h3 [0] 4 rfl<|I0 (V0 rfl rfl (by omega)) rfl<|C0 2 rfl<|O3 h3 0 rfl rfl rfl inf3 rfl rfl ?_
  intro  w6 h6
  try simp only [ZZ] at h6
  refine J0 (H0 ?_)
  replace h6 : St W F ([(b, .cells #[.slice A x.ns.length cap, .slice B x.ss.length cap2, Vi x.id, Vi (x.ep + 1), Vi x.ph, Vi x.ft, Vi x.cd, vC x bC zc, vT ps bT zt, .map (some m1), .map (some m2), .bool x.ak] 83 (0, 0))] :: cB x.cs bC zc fc :: tB ps bT zt ft :: [(m1, mobj l1)] :: [(m2, mobj (mset node (Vi x.ep) l2))] :: (tm ++ cs)) w6 := h6
  replace h6 := St.keep1 h6
  refine L0<|C0 1 rfl<|C1 (cn func59) rfl rfl (begin_c (x := { x.hasG node with ep := x.ep + 1 }) _ h6 hO.nd hO.st hls.1 hls.2) fun w7 ⟨r8, hJ8, h7⟩ =>J0<|N1<|end0 rfl ⟨rfl, F, r8, Le.refl F, (left_b (x := x) (n := node) (by omega) c5) ▸ hJ8, h7⟩
 try simp only [DD] at c5
 refine L0<|C0 3 rfl<|O3 h3 0 rfl rfl rfl inf3 rfl rfl ?_
 intro  w8 h8
 try simp only [ZZ] at h8
 refine J0 (N1 ?_)
 obtain ⟨r9, hJ9, hS9⟩ := JobR.close (x := { x.hasG node with ph := 3 }) (l1 := l1) (l2 := mset node (Vi x.ep) l2) (tm := tm) (show St W F (jB ({ x.hasG node with ph := 3 }) b bC bT m1 m2 A B cap cap2 ps zc zt :: cB x.cs bC zc fc :: tB ps bT zt ft :: [(m1, mobj (l1))] :: [(m2, mobj (mset node (Vi x.ep) l2))] :: (tm ++ cs)) _ from h8) ⟨hO.nd, hO.st, hO.fc, hO.ft, hO.ta, hO.r1, ((mset_keys _ _ _).trans (by rw [hO.r2]; rfl))⟩
 exact end0 rfl ⟨rfl, F, r9, Le.refl F, (left_d (x := x) (n := node) (by omega) c5) ▸ hJ9, hS9⟩
theorem fld42_0 : fldB prog 42 0 0 = true := by kernel_rfl
theorem fld42_1 : fldB prog 42 1 1 = true := by kernel_rfl
theorem fld42_5 : fldB prog 42 5 5 = true := by kernel_rfl
theorem fld42_6 : fldB prog 42 6 6 = true := by kernel_rfl
theorem at6 {z a b c d e : Res} {tm cs : List Res} {k : Nat} {r : Res} (h : tm[k]? = some r) : (z :: a :: b :: c :: d :: e :: (tm ++ cs))[k + 6]? = some r := at5 (a := a) (b := b) (c := c) (d := d) (e := e) h
theorem set6 {z a b c d e : Res} {tm cs : List Res} {k : Nat} {r : Res} (hk : k < tm.length) : (z :: a :: b :: c :: d :: e :: (tm ++ cs)).set (k + 6) r = z :: a :: b :: c :: d :: e :: (tm.set k r ++ cs) := by
 simp only [List.set_cons_succ]
 rw [List.set_append_left _ _ hk]
theorem put_vote {W w : World} {F : Snap} {z a b c d e q r : Res} {tm cs : List Res} {i : Nat} (h : St W F ((z :: a :: b :: c :: d :: e :: (tm ++ cs)).set (2 * i + 6) r) w) (hm : tm[2 * i + 1]? = some q) (hk : 2 * i + 1 < tm.length) : St W F (z :: a :: b :: c :: d :: e :: ((tm.set (2 * i) r).set (2 * i + 1) q ++ cs)) w := by
 rw [set6 (by omega)] at h
 have e1 : (tm.set (2 * i) r).set (2 * i + 1) q = tm.set (2 * i) r := set_same (d := []) (by rw [List.length_set]; exact hk) (by rw [gD, List.getElem?_set_ne (by omega), hm]; rfl)
 rw [e1]
 exact h
theorem put_exit {W w : World} {F : Snap} {z a b c d e q r : Res} {tm cs : List Res} {i : Nat} (h : St W F ((z :: a :: b :: c :: d :: e :: (tm ++ cs)).set (2 * i + 1 + 6) r) w) (hm : tm[2 * i]? = some q) (hk : 2 * i + 1 < tm.length) : St W F (z :: a :: b :: c :: d :: e :: ((tm.set (2 * i) q).set (2 * i + 1) r ++ cs)) w := by
 rw [set6 (by omega)] at h
 have e1 : tm.set (2 * i) q = tm := set_same (d := []) (by omega) (by rw [gD, hm]; rfl)
 rw [e1]
 exact h
theorem said_cases (x : J) (m : M) : (x.ts.length : Int) ≤ m.st ∨ (¬ (x.ts.length : Int) ≤ m.st ∧ x.ts.getD m.st.toNat none = none) ∨ ∃ t, ¬ (x.ts.length : Int) ≤ m.st ∧ x.ts.getD m.st.toNat none = some t := by
 by_cases h : (x.ts.length : Int) ≤ m.st
 ·exact .inl h
 rcases ht : x.ts.getD m.st.toNat none with _ | t
 ·exact .inr (.inl ⟨h, rfl⟩)
 exact .inr (.inr ⟨t, h, rfl⟩)
theorem said_a {x : J} {m : M} (h : (x.ts.length : Int) ≤ m.st) : x.said m = (false, x) := if_pos h
theorem said_b {x : J} {m : M} (h : ¬ (x.ts.length : Int) ≤ m.st) (h2 : x.ts.getD m.st.toNat none = none) : x.said m = (false, x) := by
 unfold J.said
 rw [if_neg h, h2]
theorem said_c1 {x : J} {m : M} {t : T} (h : ¬ (x.ts.length : Int) ≤ m.st) (h2 : x.ts.getD m.st.toNat none = some t) (h3 : ¬ (says t m).1 = 0) : x.said m = (false, x) := by
 unfold J.said
 rw [if_neg h, h2]
 exact if_pos h3
theorem said_d {x : J} {m : M} {t : T} (h : ¬ (x.ts.length : Int) ≤ m.st) (h2 : x.ts.getD m.st.toNat none = some t) (h3 : (says t m).1 = 0) : x.said m = (true, (x.put m.st.toNat (says t m).2).look) := by
 unfold J.said
 rw [if_neg h, h2]
 exact if_neg (fun hh => hh h3)
theorem says_v {t : T} {m : M} (h : m.k = 3) : says t m = t.vote m.f (decide (m.ar = 1)) := if_pos h
theorem says_e {t : T} {m : M} (h : ¬ m.k = 3) : says t m = t.exit m.f m.ar := if_neg h
theorem say_no {α : Type} [DecidableEq α] {ns : List Int} {os : List (Option α)} {n : Int} {x : α} {b : Bool} (h : ¬ (Tal.say ns os n x b).1 = 0) : (Tal.say ns os n x b).2 = os := by
 unfold Tal.say at h ⊢
 split
 ·rfl
 ·split <;> rfl
 rename_i e
 rw [e] at h
 split
 ·rename_i hb
  simp [hb] at h
 rfl
theorem says_no {t : T} {m : M} (h : ¬ (says t m).1 = 0) : (says t m).2 = t := by
 unfold says at h ⊢
 split
 ·rename_i hk
  rw [if_pos hk] at h
  have := say_no h
  unfold T.vote
  rw [this]
 rename_i hk
 rw [if_neg hk] at h
 unfold T.exit at h ⊢
 split
 ·rfl
 rename_i hb
 rw [if_neg hb] at h
 have := say_no h
 rw [this]
theorem said_c (w : World) {r : Res} {b : Nat} {x : J} (h : St W F (r :: cs) w) (hJ : JobR F r b x) (m : M) (hok : x.ok) (hst : 0 ≤ m.st) : Calls prog 42 #[pz b, m.val] w fun e w' => e = .returned (.bool (x.said m).1) ∧ ∃ G r', Le F G ∧ JobR G r' b (x.said m).2 ∧ St W G (r' :: cs) w'  := by
 refine enter (args := [pz b, .agg #[Vi m.k, Vi m.f, Vi m.t, Vi m.j, Vi m.ep, Vi m.st, Vi m.ar, .string (bs m.tx)]]) func42 rfl rfl rfl ?_
 obtain ⟨bC, bT, m1, m2, A, B, cap, cap2, ps, zc, zt, fc, ft, l1, l2, tm, h, hO⟩ := JobR.open_ h hJ
 have hls := (Dg.chk_ok hok.ss).2.1
 have hlp := hO.ta.lp
 have hlm := hO.ta.lm
 have hm0 : m.st = (m.st.toNat : Int) := by omega
 refine Wi<|J3 rfl h rfl fun b3 w1 h1=>C0 1 rfl<|J0 (H0 (N0 (N0 ?_)))
 rcases said_cases x m with hA | ⟨hA, hts⟩ | ⟨t, hA, hts⟩
 ·refine V2 h1 h1 (fun s_ => ([] : List Nat).any (Nat.beq s_)) mixed (by kernel_rfl)<|fun hx =>fun w2 h2=>J4 hx 12 [1, 5] [0, 2, 3, 4, 1, 5] [0, 1] rfl<|Z2 hx 6 (by rfl) (fun w_ => R0 (n := (x.ts.length : Int)) (Y0 underlying80 rfl rfl) (congrArg (fun n : Nat => (n : Int)) hlp)) rfl<|Z2 hx 7 (by rfl) (fun w_ => Bt (T1 rfl rfl) (dA hA)) rfl<|L3 hx [8, 9, 10, 11, 12, 13, 14, 15, 16, 17, 18] rfl<|H3 (.inr h2) (by kernel_rfl)<|H0<|J1 rfl (rfl)<|Wi<|C0 1 rfl<|J0 (H0 (O1 ?_))
  replace h2 := h2.drop 0
  obtain ⟨r9, hJ9, hS9⟩ := JobR.close (x := x) h2 hO
  refine ret1 rfl rfl ?_
  rw [said_a hA]
  exact ⟨rfl, F, r9, Le.refl F, hJ9, hS9⟩
 ·have hi3 : m.st.toNat < x.ts.length := by omega
  obtain ⟨hp, hm1, hm2⟩ := hO.ta.no _ hi3 hts
  refine V2 h1 h1 (fun s_ => ([] : List Nat).any (Nat.beq s_)) mixed (by kernel_rfl)<|fun hx =>fun w3 h3=>J4 hx 12 [1, 5] [0, 2, 3, 4, 1, 5] [0, 1] rfl<|Z2 hx 6 (by rfl) (fun w_ => R0 (n := (x.ts.length : Int)) (Y0 underlying80 rfl rfl) (congrArg (fun n : Nat => (n : Int)) hlp)) rfl<|Z2 hx 7 (by rfl) (fun w_ => Bf (T1 rfl rfl) (dN hA)) rfl<|J4 hx 12 [12, 14] [8, 9, 10, 11, 13, 12, 14] [1, 0] rfl<|M4 (j := 8) (b := false) hx 15 (by rfl) ⟨_, _, rfl, rfl, rfl⟩ (fun w_ => W0 underlying80 inf97 rfl rfl (n := m.st.toNat) hm0 (by omega)) rfl<|Y4 (j := 8) (b := false) 12 hx 16 (by rfl) ⟨_, _, rfl, rfl, rfl⟩ (fun w_ hE_ => X1 (u := .pointer none) (I2 (none : Option Nat) hE_ 3 rfl (T3 (E := 97) (f := pv) (b := bT) (fz := ft) (xs := ps) (zs := zt) rfl hO.ft) (n := m.st.toNat) (by omega) underlying97 rfl rfl) (by rw [hp]; rfl)) rfl<|M4 (j := 8) (b := false) hx 17 (by rfl) ⟨_, _, rfl, rfl, rfl⟩ (fun w_ => Bt (L2 underlying97 rfl rfl) rfl) rfl<|L3 hx [18] rfl<|H3 (.inr h3) (by kernel_rfl)<|H0<|J1 rfl (rfl)<|Wi<|C0 1 rfl<|J0 (H0 (O1 ?_))
  replace h3 := h3.drop 0
  obtain ⟨r9, hJ9, hS9⟩ := JobR.close (x := x) h3 hO
  refine ret1 rfl rfl ?_
  rw [said_b hA hts]
  exact ⟨rfl, F, r9, Le.refl F, hJ9, hS9⟩
 have hi3 : m.st.toNat < x.ts.length := by omega
 obtain ⟨bt, q1, q2, hp, hm1, hm2, mv, mc, lv, lc, hTR⟩ := hO.ta.ye _ t hts
 have hmq1 : tm[2 * m.st.toNat]? = some [(mv, mobj lv)] := hm1.trans hTR.iv
 have hmq2 : tm[2 * m.st.toNat + 1]? = some [(mc, mobj lc)] := hm2.trans hTR.ic
 refine V2 h1 h1 (fun s_ => ([] : List Nat).any (Nat.beq s_)) mixed (by kernel_rfl)<|fun hx =>fun w4 h4=>J4 hx 12 [1, 5] [0, 2, 3, 4, 1, 5] [0, 1] rfl<|Z2 hx 6 (by rfl) (fun w_ => R0 (n := (x.ts.length : Int)) (Y0 underlying80 rfl rfl) (congrArg (fun n : Nat => (n : Int)) hlp)) rfl<|Z2 hx 7 (by rfl) (fun w_ => Bf (T1 rfl rfl) (dN hA)) rfl<|J4 hx 12 [12, 14] [8, 9, 10, 11, 13, 12, 14] [1, 0] rfl<|M4 (j := 8) (b := false) hx 15 (by rfl) ⟨_, _, rfl, rfl, rfl⟩ (fun w_ => W0 underlying80 inf97 rfl rfl (n := m.st.toNat) hm0 (by omega)) rfl<|Y4 (j := 8) (b := false) 12 hx 16 (by rfl) ⟨_, _, rfl, rfl, rfl⟩ (fun w_ hE_ => X1 (u := pz bt) (I2 (none : Option Nat) hE_ 3 rfl (T3 (E := 97) (f := pv) (b := bT) (fz := ft) (xs := ps) (zs := zt) rfl hO.ft) (n := m.st.toNat) (by omega) underlying97 rfl rfl) (by rw [hp]; rfl)) rfl<|M4 (j := 8) (b := false) hx 17 (by rfl) ⟨_, _, rfl, rfl, rfl⟩ (fun w_ => Bf (L2 underlying97 rfl rfl) rfl) rfl<|L3 hx [18] rfl<|H3 (.inr h4) (by kernel_rfl)<|H0<|E1 rfl (rfl)<|U0<|H0<|N0<|V2 h4 h4 (fun s_ => ([] : List Nat).any (Nat.beq s_)) mixed (by kernel_rfl)<|fun hx =>fun w5 h5=>J4 hx 12 [3, 5] [0, 1, 2, 4, 3, 5] [1, 0] rfl<|Z2 hx 6 (by rfl) (fun w_ => W0 underlying80 inf97 rfl rfl (n := m.st.toNat) hm0 (by omega)) rfl<|V3 12 hx 7 (by rfl) (fun w_ hE_ => X1 (u := pz bt) (I2 (none : Option Nat) hE_ 3 rfl (T3 (E := 97) (f := pv) (b := bT) (fz := ft) (xs := ps) (zs := zt) rfl hO.ft) (n := m.st.toNat) (by omega) underlying97 rfl rfl) (by rw [hp]; rfl)) rfl<|L3 hx [8] rfl<|H3 (.inr h5) (by kernel_rfl)<|H0<|Wi<|C0 1 rfl<|Wh<|H1 h5 [0] 3 rfl<|Wa<|Z0 rfl (fun c6 => ?_) (fun c6 => ?_)
 ·try simp only [DD] at c6
  refine L0<|H1 h5 [0, 0] 6 rfl<|V1 (cn func87) rfl rfl (Tal.vote_c _ _ _ h5 (TR.at2 hTR (at6 hm1) (at6 hm2) (by omega))) ?_
  rintro _ w7 ⟨G9, lv9, hG9, rfl, h7, hTR9⟩
  refine ⟨_, rfl, ?_⟩
  have hta9 := (hO.mono hG9).ta.put (i := m.st.toNat) hi3 (TR.two hTR9)
  rw [set_same (d := none) (by omega) hp] at hta9
  replace h7 := put_vote h7 hmq2 (by omega)
  refine C0 1 rfl<|Wh<|C0 2 rfl<|Wa<|Z0 rfl (fun c8 => ?_) (fun c8 => ?_)
  ·try simp only [DD] at c8
   refine Wi<|C0 1 rfl<|J0 (H0 (O1 ?_))
   replace h7 := h7.drop 0
   obtain ⟨r9, hJ9, hS9⟩ := JobR.close (x := x) (tm := ((tm.set (2 * m.st.toNat) [(mv, mobj lv9)]).set (2 * m.st.toNat + 1) [(mc, mobj lc)])) (show St W G9 (jB (x) b bC bT m1 m2 A B cap cap2 ps zc zt :: cB x.cs bC zc fc :: tB ps bT zt ft :: [(m1, mobj l1)] :: [(m2, mobj l2)] :: (((tm.set (2 * m.st.toNat) [(mv, mobj lv9)]).set (2 * m.st.toNat + 1) [(mc, mobj lc)]) ++ cs)) _ from h7) ⟨hO.nd.mono hG9, hO.st.mono hG9, hO.fc, hO.ft, (by rwa [show (t.vote m.f (decide (m.ar = 1))).2 = t from (says_v c6) ▸ says_no ((says_v c6) ▸ c8), set_same (d := none) hi3 hts] at hta9), hO.r1, hO.r2⟩
   refine ret1 rfl rfl ?_
   rw [said_c1 hA hts ((says_v c6) ▸ c8)]
   exact ⟨rfl, G9, r9, hG9, hJ9, hS9⟩
  try simp only [DD] at c8
  refine U0 (H0 (N0 ?_))
  have HEQ9 := says_v c6 (t := t)
  replace h7 := h7.drop 0
  obtain ⟨r9, hJ9, hS9⟩ := JobR.close (x := x.put m.st.toNat (t.vote m.f (decide (m.ar = 1))).2) (tm := ((tm.set (2 * m.st.toNat) [(mv, mobj lv9)]).set (2 * m.st.toNat + 1) [(mc, mobj lc)])) (show St W G9 (jB (x.put m.st.toNat (t.vote m.f (decide (m.ar = 1))).2) b bC bT m1 m2 A B cap cap2 ps zc zt :: cB x.cs bC zc fc :: tB ps bT zt ft :: [(m1, mobj l1)] :: [(m2, mobj l2)] :: (((tm.set (2 * m.st.toNat) [(mv, mobj lv9)]).set (2 * m.st.toNat + 1) [(mc, mobj lc)]) ++ cs)) _ from h7) ⟨hO.nd.mono hG9, hO.st.mono hG9, hO.fc, hO.ft, hta9, hO.r1, hO.r2⟩
  refine L0<|C0 1 rfl<|C1 (cn func60) rfl rfl (look_c _ hS9 hJ9 (hok.put (i := m.st.toNat) (by rw [← HEQ9]; exact (hok.tk (hts ▸ getD_mem hi3)).says m))) fun w9 ⟨G8, r8, hle8, hJ8, h9⟩ =>We<|C0 1 rfl<|Wg<|ret1 rfl rfl ?_
  rw [said_d hA hts (by rw [says_v c6]; exact c8)]
  exact ⟨rfl, G8, r8, Le.trans hG9 hle8, (says_v c6) ▸ hJ8, h9⟩
 try simp only [DD] at c6
 refine L0<|H1 h5 [0, 0] 5 rfl<|V1 (cn func88) rfl rfl (Tal.exit_c _ _ _ h5 (TR.at2 hTR (at6 hm1) (at6 hm2) (by omega))) ?_
 rintro _ w10 ⟨G9, lc9, hG9, rfl, h10, hTR9⟩
 refine ⟨_, rfl, ?_⟩
 have hta9 := (hO.mono hG9).ta.put (i := m.st.toNat) hi3 (TR.two hTR9)
 rw [set_same (d := none) (by omega) hp] at hta9
 replace h10 := put_exit h10 hmq1 (by omega)
 refine C0 1 rfl<|Wh<|C0 2 rfl<|Wa<|Z0 rfl (fun c11 => ?_) (fun c11 => ?_)
 ·try simp only [DD] at c11
  refine Wi<|C0 1 rfl<|J0 (H0 (O1 ?_))
  replace h10 := h10.drop 0
  obtain ⟨r9, hJ9, hS9⟩ := JobR.close (x := x) (tm := ((tm.set (2 * m.st.toNat) [(mv, mobj lv)]).set (2 * m.st.toNat + 1) [(mc, mobj lc9)])) (show St W G9 (jB (x) b bC bT m1 m2 A B cap cap2 ps zc zt :: cB x.cs bC zc fc :: tB ps bT zt ft :: [(m1, mobj l1)] :: [(m2, mobj l2)] :: (((tm.set (2 * m.st.toNat) [(mv, mobj lv)]).set (2 * m.st.toNat + 1) [(mc, mobj lc9)]) ++ cs)) _ from h10) ⟨hO.nd.mono hG9, hO.st.mono hG9, hO.fc, hO.ft, (by rwa [show (t.exit m.f m.ar).2 = t from (says_e c6) ▸ says_no ((says_e c6) ▸ c11), set_same (d := none) hi3 hts] at hta9), hO.r1, hO.r2⟩
  refine ret1 rfl rfl ?_
  rw [said_c1 hA hts ((says_e c6) ▸ c11)]
  exact ⟨rfl, G9, r9, hG9, hJ9, hS9⟩
 try simp only [DD] at c11
 refine U0 (H0 (N0 ?_))
 have HEQ9 := says_e c6 (t := t)
 replace h10 := h10.drop 0
 obtain ⟨r9, hJ9, hS9⟩ := JobR.close (x := x.put m.st.toNat (t.exit m.f m.ar).2) (tm := ((tm.set (2 * m.st.toNat) [(mv, mobj lv)]).set (2 * m.st.toNat + 1) [(mc, mobj lc9)])) (show St W G9 (jB (x.put m.st.toNat (t.exit m.f m.ar).2) b bC bT m1 m2 A B cap cap2 ps zc zt :: cB x.cs bC zc fc :: tB ps bT zt ft :: [(m1, mobj l1)] :: [(m2, mobj l2)] :: (((tm.set (2 * m.st.toNat) [(mv, mobj lv)]).set (2 * m.st.toNat + 1) [(mc, mobj lc9)]) ++ cs)) _ from h10) ⟨hO.nd.mono hG9, hO.st.mono hG9, hO.fc, hO.ft, hta9, hO.r1, hO.r2⟩
 refine L0<|C0 1 rfl<|C1 (cn func60) rfl rfl (look_c _ hS9 hJ9 (hok.put (i := m.st.toNat) (by rw [← HEQ9]; exact (hok.tk (hts ▸ getD_mem hi3)).says m))) fun w12 ⟨G8, r8, hle8, hJ8, h12⟩ =>We<|C0 1 rfl<|Wg<|ret1 rfl rfl ?_
 rw [said_d hA hts (by rw [says_e c6]; exact c11)]
 exact ⟨rfl, G8, r8, Le.trans hG9 hle8, (says_e c6) ▸ hJ8, h12⟩
theorem inf76 : Inf prog 76 (.pointer none) 1 8 := by unfold Inf; kernel_rfl
def pj (b : Nat) : Value := pz b
structure CtlO (F : Snap) (js : List J) (qs : List Nat) (rj : List Res) : Prop where
 lq : qs.length = js.length
 lr : rj.length = js.length
 at_ : ∀ i x, js[i]? = some x → ∃ r, rj[i]? = some r ∧ JobR F r (qs.getD i 0) x
theorem CtlO.mono {F G : Snap} (hle : Le F G) {js : List J} {qs : List Nat} {rj : List Res} (h : CtlO F js qs rj) : CtlO G js qs rj := ⟨h.lq, h.lr, fun i x hx => by
 obtain ⟨r, h1, h2⟩ := h.at_ i x hx
 exact ⟨r, h1, h2.mono hle⟩⟩
theorem CtlO.set {F : Snap} {js : List J} {qs : List Nat} {rj : List Res} (h : CtlO F js qs rj) {k : Nat} {x : J} {r : Res} (hk : k < js.length) (hJ : JobR F r (qs.getD k 0) x) : CtlO F (js.set k x) qs (rj.set k r) := by
 have hlr := h.lr
 refine ⟨by rw [List.length_set]; exact h.lq, by rw [List.length_set, List.length_set]; exact h.lr, fun i y hy => ?_⟩
 by_cases e : k = i
 ·subst e
  rw [List.getElem?_set_self hk] at hy
  obtain rfl := Option.some.inj hy
  exact ⟨r, by rw [List.getElem?_set_self (by omega)], hJ⟩
 rw [List.getElem?_set_ne e] at hy
 obtain ⟨q, h1, h2⟩ := h.at_ i y hy
 exact ⟨q, by rw [List.getElem?_set_ne e]; exact h1, h2⟩
abbrev kB (b : Nat) (key : List UInt8) (A : Option Addr) (n cap : Nat) : Res := [(b, .cells #[.string (bs key), .slice A n cap] 75 (0, 0))]
def CtlR (F : Snap) (r : Res) (b : Nat) (key : List UInt8) (js : List J) : Prop := ∃ A cap rP qs rj, r = (kB b key A qs.length cap :: rP :: rj).flatten ∧ Row 76 pj rP (.slice A qs.length cap) qs ∧ CtlO F js qs rj
theorem CtlR.mono {F G : Snap} (hle : Le F G) {r : Res} {b : Nat} {key : List UInt8} {js : List J} (h : CtlR F r b key js) : CtlR G r b key js := by
 obtain ⟨A, cap, rP, qs, rj, h1, h2, h3⟩ := h
 exact ⟨A, cap, rP, qs, rj, h1, h2, h3.mono hle⟩
theorem CtlR.open_ {W w : World} {F : Snap} {cs : List Res} {r : Res} {b : Nat} {key : List UInt8} {js : List J} (h : St W F (r :: cs) w) (hC : CtlR F r b key js) : ∃ A cap rP qs rj, St W F (kB b key A qs.length cap :: rP :: (rj ++ cs)) w ∧ Row 76 pj rP (.slice A qs.length cap) qs ∧ CtlO F js qs rj := by
 obtain ⟨A, cap, rP, qs, rj, rfl, h2, h3⟩ := hC
 exact ⟨A, cap, rP, qs, rj, St.flat h (by simp), h2, h3⟩
theorem CtlR.close {W w : World} {F : Snap} {cs rj : List Res} {b cap : Nat} {key : List UInt8} {A : Option Addr} {rP : Res} {qs : List Nat} {js : List J} (h : St W F (kB b key A qs.length cap :: rP :: (rj ++ cs)) w) (hr : Row 76 pj rP (.slice A qs.length cap) qs) (hO : CtlO F js qs rj) : ∃ r, CtlR F r b key js ∧ St W F (r :: cs) w :=
 ⟨_, ⟨A, cap, rP, qs, rj, rfl, hr, hO⟩, St.flat h (by simp)⟩
theorem take2 {W w : World} {F : Snap} {cs rj : List Res} {a p r : Res} {k : Nat} (h : St W F (a :: p :: (rj ++ cs)) w) (hk : rj[k]? = some r) : St W F (r :: a :: p :: (rj.set k [] ++ cs)) w := by
 have hl : k < rj.length := (List.getElem?_eq_some_iff.1 hk).1
 have := St.out h (i := k + 2) (show (rj ++ cs)[k]? = some r by rw [List.getElem?_append_left hl]; exact hk)
 have e : (a :: p :: (rj ++ cs)).set (k + 2) [] = a :: p :: (rj.set k [] ++ cs) := by
  simp only [List.set_cons_succ]
  rw [List.set_append_left _ _ hl]
 rwa [e] at this
theorem give2 {W w : World} {F : Snap} {cs rj : List Res} {a p r : Res} {k : Nat} (h : St W F (r :: a :: p :: (rj.set k [] ++ cs)) w) (hl : k < rj.length) : St W F (a :: p :: (rj.set k r ++ cs)) w := by
 have := St.in_ h (i := k + 2) (show (rj.set k [] ++ cs)[k]? = some [] by rw [List.getElem?_append_left (by rw [List.length_set]; exact hl), List.getElem?_set_self hl])
 have e : (a :: p :: (rj.set k [] ++ cs)).set (k + 2) r = a :: p :: (rj.set k r ++ cs) := by
  simp only [List.set_cons_succ]
  rw [List.set_append_left _ _ (by rw [List.length_set]; exact hl), List.set_set]
 rwa [e] at this
theorem at_no {js : List J} {id : Int} (h : at_ js id = none) : id < 1 ∨ (1 ≤ id ∧ (js.length : Int) < id) := by
 unfold at_ at h
 split at h
 ·omega
 cases h
theorem at_yes {js : List J} {id : Int} {k : Nat} (h : at_ js id = some k) : 1 ≤ id ∧ id ≤ (js.length : Int) ∧ k = (id - 1).toNat ∧ k < js.length ∧ ∃ x, js[k]? = some x := by
 unfold at_ at h
 split at h
 ·cases h
 have hk := Option.some.inj h
 have hl : k < js.length := by omega
 exact ⟨by omega, by omega, hk.symm, hl, _, gE hl⟩
theorem find_lo (w : World) {b cap : Nat} {key : List UInt8} {A : Option Addr} {rP : Res} {qs : List Nat} (id : Int) (h : St W F ([(b, .cells #[.string (bs key), .slice A qs.length cap] 75 (0, 0))] :: rP :: cs) w) (hr : Row 76 pj rP (.slice A qs.length cap) qs) (hq : qs.length ≤ 16) (hid : id < 1) : Calls prog 39 #[pz b, Vi id] w fun e w' => e = .returned (.pointer none) ∧ St W F ([(b, .cells #[.string (bs key), .slice A qs.length cap] 75 (0, 0))] :: rP :: cs) w'  := by
 refine enter (args := [pz b, Vi id]) func39 rfl rfl rfl<|Wi<|C0 1 rfl<|Wh<|C0 1 rfl<|I0 (Bf (L2 underlying25 rfl rfl) rfl) rfl<|C0 2 rfl<|Q0 rfl<|I0 (Bt (Q1 rfl rfl) (dA hid)) rfl<|C0 10 rfl<|Wa<|J1 rfl (rfl)<|Wi<|C0 1 rfl<|Wg<|ret1 rfl rfl ⟨rfl, h⟩
theorem find_hi (w : World) {b cap : Nat} {key : List UInt8} {A : Option Addr} {rP : Res} {qs : List Nat} (id : Int) (h : St W F ([(b, .cells #[.string (bs key), .slice A qs.length cap] 75 (0, 0))] :: rP :: cs) w) (hr : Row 76 pj rP (.slice A qs.length cap) qs) (hq : qs.length ≤ 16) (hid : ¬ id < 1) (hid2 : (qs.length : Int) < id) : Calls prog 39 #[pz b, Vi id] w fun e w' => e = .returned (.pointer none) ∧ St W F ([(b, .cells #[.string (bs key), .slice A qs.length cap] 75 (0, 0))] :: rP :: cs) w'  := by
 refine enter (args := [pz b, Vi id]) func39 rfl rfl rfl<|Wi<|C0 1 rfl<|Wh<|C0 1 rfl<|I0 (Bf (L2 underlying25 rfl rfl) rfl) rfl<|C0 2 rfl<|Q0 rfl<|I0 (Bf (Q1 rfl rfl) (dN hid)) rfl<|H1 h [0] 7 rfl<|Q0 rfl<|I0 (R0 (n := (qs.length : Int)) (Y0 underlying73 rfl rfl) rfl) rfl<|Q0 rfl<|I0 (Bt (Y1 rfl rfl) (dA hid2)) rfl<|C0 1 rfl<|Wa<|J1 rfl (rfl)<|Wi<|C0 1 rfl<|Wg<|ret1 rfl rfl ⟨rfl, h⟩
theorem find_at (w : World) {b cap : Nat} {key : List UInt8} {A : Option Addr} {rP : Res} {qs : List Nat} (id : Int) (h : St W F ([(b, .cells #[.string (bs key), .slice A qs.length cap] 75 (0, 0))] :: rP :: cs) w) (hr : Row 76 pj rP (.slice A qs.length cap) qs) (hq : qs.length ≤ 16) (hid : ¬ id < 1) (hid2 : ¬ (qs.length : Int) < id) : Calls prog 39 #[pz b, Vi id] w fun e w' => e = .returned (pz (qs.getD (id - 1).toNat 0)) ∧ St W F ([(b, .cells #[.string (bs key), .slice A qs.length cap] 75 (0, 0))] :: rP :: cs) w'  := by
 refine enter (args := [pz b, Vi id]) func39 rfl rfl rfl<|Wi<|C0 1 rfl<|Wh<|C0 1 rfl<|I0 (Bf (L2 underlying25 rfl rfl) rfl) rfl<|C0 2 rfl<|Q0 rfl<|I0 (Bf (Q1 rfl rfl) (dN hid)) rfl<|H1 h [0] 7 rfl<|Q0 rfl<|I0 (R0 (n := (qs.length : Int)) (Y0 underlying73 rfl rfl) rfl) rfl<|Q0 rfl<|I0 (Bf (Y1 rfl rfl) (dN hid2)) rfl<|C0 1 rfl<|Wa<|E1 rfl (rfl)<|U0 (H0 (N0 ?_))
 obtain ⟨ad, rfl⟩ := Row.some hr (by omega)
 refine L0<|H1 h [0] 5 rfl<|I0 (N3 rfl rfl (by omega)) rfl<|I0 (W0 underlying73 inf76 rfl rfl (n := (id - 1).toNat) (by omega) (by omega)) rfl<|I0 (X1 (u := pz (qs.getD (id - 1).toNat 0)) (I2 (0 : Nat) h 1 rfl hr (n := (id - 1).toNat) (by omega) underlying76 rfl rfl) rfl) rfl<|C0 1 rfl<|Wg<|ret1 rfl rfl ⟨rfl, h⟩
theorem find_no (w : World) {b cap : Nat} {key : List UInt8} {A : Option Addr} {rP : Res} {qs : List Nat} (id : Int) (h : St W F ([(b, .cells #[.string (bs key), .slice A qs.length cap] 75 (0, 0))] :: rP :: cs) w) (hr : Row 76 pj rP (.slice A qs.length cap) qs) (hq : qs.length ≤ 16) {js : List J} (hl : qs.length = js.length) (hat : at_ js id = none) : Calls prog 39 #[pz b, Vi id] w fun e w' => e = .returned (.pointer none) ∧ St W F ([(b, .cells #[.string (bs key), .slice A qs.length cap] 75 (0, 0))] :: rP :: cs) w' := by
 rcases at_no hat with h1 | ⟨h1, h2⟩
 ·exact find_lo w id h hr hq h1
 exact find_hi w id h hr hq (by omega) (by omega)
theorem find_ye (w : World) {b cap : Nat} {key : List UInt8} {A : Option Addr} {rP : Res} {qs : List Nat} (id : Int) (h : St W F ([(b, .cells #[.string (bs key), .slice A qs.length cap] 75 (0, 0))] :: rP :: cs) w) (hr : Row 76 pj rP (.slice A qs.length cap) qs) (hq : qs.length ≤ 16) {js : List J} {k : Nat} (hl : qs.length = js.length) (hat : at_ js id = some k) : Calls prog 39 #[pz b, Vi id] w fun e w' => e = .returned (pz (qs.getD k 0)) ∧ St W F ([(b, .cells #[.string (bs key), .slice A qs.length cap] 75 (0, 0))] :: rP :: cs) w' := by
 obtain ⟨h1, h2, rfl, _⟩ := at_yes hat
 exact find_at w id h hr hq (by omega) (by omega)
theorem inf4 : Inf prog 4 (.bool false) 1 1 := by unfold Inf; kernel_rfl
theorem inf42 : Inf prog 42 (.agg #[.int .i64 0, .int .i64 0, .int .i64 0, .int .i64 0, .int .i64 0, .int .i64 0, .int .i64 0, .string ⟨#[]⟩]) 8 72 := by unfold Inf; kernel_rfl
theorem fld42_2 : fldB prog 42 2 2 = true := by kernel_rfl
theorem fld42_3 : fldB prog 42 3 3 = true := by kernel_rfl
theorem fld42_4 : fldB prog 42 4 4 = true := by kernel_rfl
theorem can_no {js : List J} {id : Int} (h : at_ js id = none) : canM js id = (1, js) := by
 unfold canM
 rw [h]
theorem can_hi {js : List J} {id : Int} {k : Nat} {x : J} (h : at_ js id = some k) (hx : js[k]? = some x) (hp : 2 ≤ x.ph) : canM js id = (14, js) := by
 unfold canM
 rw [h]
 simp only [hx]
 exact if_pos hp
theorem can_ok {js : List J} {id : Int} {k : Nat} {x : J} (h : at_ js id = some k) (hx : js[k]? = some x) (hp : ¬ 2 ≤ x.ph) : canM js id = (0, js.set k x.cancel) := by
 unfold canM
 rw [h]
 simp only [hx]
 exact if_neg hp
theorem hear_a {x : J} {m : M} (h : m.k = 1) (h2 : x.ph = 0) : x.hear m = (true, x.started m.f m.ar) := if_pos ⟨h, h2⟩
theorem hear_b {x : J} {m : M} (h : ¬ (m.k = 1 ∧ x.ph = 0)) (h2 : (m.k = 3 ∨ m.k = 6) ∧ x.ph = 1) : x.hear m = x.said m := (if_neg h).trans (if_pos h2)
theorem hear_c {x : J} {m : M} (h : ¬ (m.k = 1 ∧ x.ph = 0)) (h2 : ¬ ((m.k = 3 ∨ m.k = 6) ∧ x.ph = 1)) (h3 : m.k = 9 ∧ x.ph = 2) : x.hear m = (true, x.left m.f) := (if_neg h).trans ((if_neg h2).trans (if_pos h3))
theorem hear_d {x : J} {m : M} (h : ¬ (m.k = 1 ∧ x.ph = 0)) (h2 : ¬ ((m.k = 3 ∨ m.k = 6) ∧ x.ph = 1)) (h3 : ¬ (m.k = 9 ∧ x.ph = 2)) : x.hear m = (false, x) := (if_neg h).trans ((if_neg h2).trans (if_neg h3))
theorem del_e {js : List J} {l : List UInt8} {m : M} {ec : Int} (h : decB l = (m, ec)) (he : ¬ ec = 0) : delM js l = (false, js) := by
 unfold delM
 rw [h]
 exact if_pos he
theorem del_no {js : List J} {l : List UInt8} {m : M} {ec : Int} (h : decB l = (m, ec)) (he : ec = 0) (hat : at_ js m.j = none) : delM js l = (false, js) := by
 unfold delM
 rw [h]
 simp only [hat, he]
 exact if_neg (by simp)
theorem del_mine {js : List J} {l : List UInt8} {m : M} {ec : Int} {k : Nat} {x : J} (h : decB l = (m, ec)) (he : ec = 0) (hat : at_ js m.j = some k) (hx : js[k]? = some x) (hm : ¬ x.mine m) : delM js l = (false, js) := by
 unfold delM
 rw [h]
 simp only [hat, he, hx]
 rw [if_neg (by simp), if_neg hm]
theorem del_y {js : List J} {l : List UInt8} {m : M} {ec : Int} {k : Nat} {x : J} (h : decB l = (m, ec)) (he : ec = 0) (hat : at_ js m.j = some k) (hx : js[k]? = some x) (hm : x.mine m) : delM js l = ((x.hear m).1, js.set k (x.hear m).2) := by
 unfold delM
 rw [h]
 simp only [hat, he, hx]
 rw [if_neg (by simp), if_pos hm]
theorem dec_may {l : List UInt8} (h : (decB l).2 = 0) : mayM (decB l).1 := by
 unfold Wir.decB at h ⊢
 split
 ·rename_i h1
  rw [if_pos h1] at h
  exact absurd h h1
 rename_i h1
 rw [if_neg h1] at h
 split
 ·assumption
 rename_i h2
 rw [if_neg h2] at h
 cases h
theorem dec_zero {l : List UInt8} (h : ¬ (decB l).2 = 0) : (decB l).1.j = 0 := by
 unfold Wir.decB at h ⊢
 split
 ·rfl
 rename_i h1
 rw [if_neg h1] at h
 split
 ·rename_i h2
  rw [if_pos h2] at h
  exact absurd rfl h
 rfl
theorem dec_m (w : World) (l : List UInt8) (h : St W F cs w) (hl : l.length ≤ 9223372036854775807) : Calls prog 38 #[.string (bs l)] w fun r w' => ∃ m ec, decB l = (m, ec) ∧ r = .returned (.tuple #[.agg #[Vi m.k, Vi m.f, Vi m.t, Vi m.j, Vi m.ep, Vi m.st, Vi m.ar, .string (bs m.tx)], Vi ec]) ∧ St W F cs w' := (Wir.dec_c w l h hl).mono fun r w' ⟨h1, h2⟩ => ⟨(decB l).1, (decB l).2, rfl, h1, h2⟩
theorem dl_cases {js : List J} {l : List UInt8} {m : M} {ec : Int} (h : decB l = (m, ec)) : (¬ ec = 0 ∧ at_ js m.j = none) ∨ (ec = 0 ∧ at_ js m.j = none) ∨ ∃ k, ec = 0 ∧ at_ js m.j = some k ∧ mayM m := by
 have e1 : (decB l).1 = m := by rw [h]
 have e2 : (decB l).2 = ec := by rw [h]
 by_cases he : ec = 0
 ·rcases hat : at_ js m.j with _ | k
  ·exact .inr (.inl ⟨he, rfl⟩)
  exact .inr (.inr ⟨k, he, rfl, e1 ▸ dec_may (e2.trans he)⟩)
 refine .inl ⟨he, ?_⟩
 rw [← e1, dec_zero (by rw [e2]; exact he)]
 rfl
theorem mine_cases (x : J) (m : M) : ¬ m.t = -1 ∨ (m.t = -1 ∧ ¬ m.ep = x.ep) ∨ (m.t = -1 ∧ m.ep = x.ep ∧ m.f ∉ x.ns) ∨ x.mine m := by
 by_cases h1 : m.t = -1
 ·by_cases h2 : m.ep = x.ep
  ·by_cases h3 : m.f ∈ x.ns
   ·exact .inr (.inr (.inr ⟨h1, h2, h3⟩))
   exact .inr (.inr (.inl ⟨h1, h2, h3⟩))
  exact .inr (.inl ⟨h1, h2⟩)
 exact .inl h1
theorem kcases (m : M) : (m.k = 1 ∧ ¬ m.k = 3 ∧ ¬ m.k = 6 ∧ ¬ m.k = 9) ∨ (¬ m.k = 1 ∧ m.k = 3 ∧ ¬ m.k = 9) ∨ (¬ m.k = 1 ∧ ¬ m.k = 3 ∧ m.k = 6 ∧ ¬ m.k = 9) ∨ (¬ m.k = 1 ∧ ¬ m.k = 3 ∧ ¬ m.k = 6 ∧ m.k = 9) ∨ (¬ m.k = 1 ∧ ¬ m.k = 3 ∧ ¬ m.k = 6 ∧ ¬ m.k = 9) := by omega
theorem new_c (w : World) (key : List UInt8) (h : St W F cs w) : Calls prog 12 #[.string (bs key)] w fun e w' => ∃ b r, e = .returned (pz b) ∧ CtlR F r b key [] ∧ St W F (r :: cs) w'  := by
 refine enter (args := [.string (bs key)]) func12 rfl rfl rfl<|Wi<|C0 1 rfl<|We<|C0 1 rfl<|I0 (R2 (vs := [(0, .string (bs key))]) (cells := #[.string (bs key), .slice none 0 0]) rfl (by kernel_rfl)) rfl<|J3 rfl h rfl fun b5 w1 h1=>C0 1 rfl<|J0 (H0 (O1 ?_))
 replace h1 : St W F (kB b5 key none 0 0 :: cs) w1 := h1
 obtain ⟨r7, hC7, hS7⟩ := CtlR.close (rj := []) (qs := []) (js := []) (rP := []) (A := none) (cap := 0) (b := b5) (key := key) (show St W F (kB b5 key none 0 0 :: [] :: ([] ++ cs)) _ from St.flat h1 (by simp)) (Row.nil 76 pj) ⟨rfl, rfl, fun i x hxk => by simp at hxk⟩
 exact ret1 rfl rfl ⟨b5, r7, rfl, hC7, hS7⟩
theorem jobs_c (w : World) {r : Res} {b : Nat} {key : List UInt8} {js : List J} (h : St W F (r :: cs) w) (hC : CtlR F r b key js)  : Calls prog 20 #[pz b] w fun e w' => e = .returned (Vi js.length) ∧ ∃ r', CtlR F r' b key js ∧ St W F (r' :: cs) w'  := by
 refine enter (args := [pz b]) func20 rfl rfl rfl ?_
 obtain ⟨A0, cap0, rP, qs, rj, h, hr, hK⟩ := CtlR.open_ h hC
 have hlq := hK.lq
 have hlr := hK.lr
 refine Wi<|C0 1 rfl<|Wh<|C0 1 rfl<|I0 (L2 underlying25 rfl rfl) rfl<|Wa<|E1 rfl (rfl)<|Wk<|H1 h [0] 4 rfl<|I0 (R0 (n := (js.length : Int)) (Y0 underlying73 rfl rfl) (congrArg (fun n : Nat => (n : Int)) hlq)) rfl<|C0 1 rfl<|J0 (H0 (O1 ?_))
 obtain ⟨r7, hC7, hS7⟩ := CtlR.close h hr hK
 exact ret1 rfl rfl ⟨rfl, r7, hC7, hS7⟩
theorem cancel_c (w : World) {r : Res} {b : Nat} {key : List UInt8} {js : List J} (h : St W F (r :: cs) w) (hC : CtlR F r b key js) (hok : ∀ x ∈ js, x.ok) (hjl : js.length ≤ 16) (id : Int) : Calls prog 27 #[pz b, Vi id] w fun e w' => e = .returned (Vi (canM js id).1) ∧ ∃ G r', Le F G ∧ CtlR G r' b key ((canM js id).2) ∧ St W G (r' :: cs) w'  := by
 refine enter (args := [pz b, Vi id]) func27 rfl rfl rfl ?_
 obtain ⟨A0, cap0, rP, qs, rj, h, hr, hK⟩ := CtlR.open_ h hC
 have hlq := hK.lq
 have hlr := hK.lr
 refine Wi<|C0 1 rfl<|J0 (H0 (N0 ?_))
 rcases hat : at_ js id with _ | k
 ·refine L0<|C0 2 rfl<|C1 (cn func39) rfl rfl (find_no _ (id) h hr (by omega) (js := js) hlq hat) fun w1 h1 =>C0 1 rfl<|Wb<|M1<|Wi<|C0 1 rfl<|I0 (L2 underlying76 rfl rfl) rfl<|C0 1 rfl<|Wa<|J1 rfl (rfl)<|Wi<|C0 1 rfl<|J0 (H0 (O1 ?_))
  obtain ⟨r7, hC7, hS7⟩ := CtlR.close h1 hr hK
  refine ret1 rfl rfl ?_
  rw [can_no hat]
  exact ⟨rfl, F, r7, Le.refl F, hC7, hS7⟩
 refine L0<|C0 2 rfl<|C1 (cn func39) rfl rfl (find_ye _ (id) h hr (by omega) (js := js) hlq hat) fun w2 h2 => ?_
 obtain ⟨_, _, _, hkl, x, hxk⟩ := at_yes hat
 obtain ⟨rk, hrk, hJ⟩ := hK.at_ k x hxk
 have hokx := hok x (mG hxk)
 replace h2 := take2 h2 hrk
 obtain ⟨bC, bT, m1, m2, A, B, cap, cap2, ps, zc, zt, fc, ft, l1, l2, tm, h2, hO⟩ := JobR.open_ h2 hJ
 refine C0 1 rfl<|Wb<|M1<|Wi<|C0 1 rfl<|I0 (L2 underlying76 rfl rfl) rfl<|C0 1 rfl<|Wa<|E1 rfl (rfl)<|Wi<|H1 h2 [0] 6 rfl<|Wa<|Z0 rfl (fun c3 => ?_) (fun c3 => ?_)
 ·try simp only [DD] at c3
  refine Wi<|C0 1 rfl<|J0 (H0 (O1 ?_))
  obtain ⟨r9, hJ9, hS9⟩ := JobR.close (x := x) (show St W _ (jB (x) (qs.getD k 0) bC bT m1 m2 A B cap cap2 ps zc zt :: cB x.cs bC zc fc :: tB ps bT zt ft :: [(m1, mobj l1)] :: [(m2, mobj l2)] :: (tm ++ _)) _ from h2) ⟨hO.nd, hO.st, hO.fc, hO.ft, hO.ta, hO.r1, hO.r2⟩
  replace hS9 := give2 hS9 (by omega)
  obtain ⟨r7, hC7, hS7⟩ := CtlR.close hS9 hr ((hK.mono (Le.refl F)).set hkl hJ9)
  rw [set_same (d := x) hkl (by rw [gD, hxk]; rfl)] at hC7
  refine ret1 rfl rfl ?_
  rw [can_hi hat hxk c3]
  exact ⟨rfl, F, r7, Le.refl F, hC7, hS7⟩
 try simp only [DD] at c3
 refine U0<|N1<|H0<|Wi<|C0 3 rfl<|O3 h2 0 rfl rfl rfl inf4 rfl rfl ?_
 intro  w4 h4
 try simp only [ZZ] at h4
 refine Wh<|H1 h4 [0] 5 rfl<|Wa<|Z0 rfl (fun c5 => ?_) (fun c5 => ?_)
 ·try simp only [DD] at c5
  obtain ⟨r9, hJ9, hS9⟩ := JobR.close (x := x.ask) (show St W _ (jB (x.ask) (qs.getD k 0) bC bT m1 m2 A B cap cap2 ps zc zt :: cB x.cs bC zc fc :: tB ps bT zt ft :: [(m1, mobj l1)] :: [(m2, mobj l2)] :: (tm ++ _)) _ from h4) ⟨hO.nd, hO.st, hO.fc, hO.ft, hO.ta, hO.r1, hO.r2⟩
  refine L0<|C0 1 rfl<|C1 (cn func60) rfl rfl (look_c _ hS9 hJ9 hokx.ask) fun w6 ⟨G9, r8, hle9, hJ8, h6⟩ =>We<|C0 1 rfl<|J0 (H0 (O1 ?_))
  replace h6 := give2 h6 (by omega)
  obtain ⟨r7, hC7, hS7⟩ := CtlR.close h6 hr ((hK.mono hle9).set hkl hJ8)
  refine ret1 rfl rfl ?_
  rw [can_ok hat hxk (by omega), show x.cancel = x.ask.look from if_pos c5]
  exact ⟨rfl, G9, r7, hle9, hC7, hS7⟩
 try simp only [DD] at c5
 refine Wk<|C0 1 rfl<|J0 (H0 (O1 ?_))
 obtain ⟨r9, hJ9, hS9⟩ := JobR.close (x := x.ask) (show St W _ (jB (x.ask) (qs.getD k 0) bC bT m1 m2 A B cap cap2 ps zc zt :: cB x.cs bC zc fc :: tB ps bT zt ft :: [(m1, mobj l1)] :: [(m2, mobj l2)] :: (tm ++ _)) _ from h4) ⟨hO.nd, hO.st, hO.fc, hO.ft, hO.ta, hO.r1, hO.r2⟩
 replace hS9 := give2 hS9 (by omega)
 obtain ⟨r7, hC7, hS7⟩ := CtlR.close hS9 hr ((hK.mono (Le.refl F)).set hkl hJ9)
 refine ret1 rfl rfl ?_
 rw [can_ok hat hxk (by omega), show x.cancel = x.ask from if_neg c5]
 exact ⟨rfl, F, r7, Le.refl F, hC7, hS7⟩
theorem deliver_c (w : World) {r : Res} {b : Nat} {key : List UInt8} {js : List J} (h : St W F (r :: cs) w) (hC : CtlR F r b key js) (hok : ∀ x ∈ js, x.ok) (hjl : js.length ≤ 16) (l : List UInt8) (hl : l.length ≤ 9223372036854775807) : Calls prog 18 #[pz b, .string (bs l)] w fun e w' => e = .returned (.bool (delM js l).1) ∧ ∃ G r', Le F G ∧ CtlR G r' b key ((delM js l).2) ∧ St W G (r' :: cs) w'  := by
 refine enter (args := [pz b, .string (bs l)]) func18 rfl rfl rfl ?_
 obtain ⟨A0, cap0, rP, qs, rj, h, hr, hK⟩ := CtlR.open_ h hC
 have hlq := hK.lq
 have hlr := hK.lr
 refine Wi<|C0 1 rfl<|We<|C0 1 rfl<|V1 (cn func38) rfl rfl (dec_m _ l h hl) ?_
 rintro _ w1 ⟨m, ec, hdec, rfl, h1⟩
 refine ⟨_, rfl,C0 3 rfl<|O2 rfl h1 inf42 fun b5 w2 h2=>F4 h2 0 rfl rfl rfl inf42 rfl rfl rfl ?_⟩
 intro  w3 h3
 try simp only [ZZ] at h3
 refine C0 1 rfl<|J0 (H0 (N0 ?_))
 obtain ⟨G0, hG0, hfr0, h3⟩ := h3.freeze (i := 0) rfl
 have hfz5 : G0 b5 = some (.cells #[Vi m.k, Vi m.f, Vi m.t, Vi m.j, Vi m.ep, Vi m.st, Vi m.ar, .string (bs m.tx)] 42 (0, 0)) := hfr0 _ List.mem_cons_self
 replace hK := hK.mono hG0
 rcases dl_cases (js := js) hdec with ⟨hec, hat⟩ | ⟨hec, hat⟩ | ⟨k, hec, hat, hmay⟩
 ·refine L0<|C0 2 rfl<|I0 (K0 underlying3 rfl rfl (h3.cell (cellB hfz5 rfl))) rfl<|C1 (cn func39) rfl rfl (find_no _ (m.j) h3 hr (by omega) (js := js) hlq hat) fun w4 h4 =>C0 1 rfl<|Wb<|N0<|V2 h4 h4 (fun s_ => ([] : List Nat).any (Nat.beq s_)) mixed (by kernel_rfl)<|fun hx =>fun w5 h5=>L3 hx [0] rfl<|Z2 hx 1 (by rfl) (fun w_ => Bt (J2 rfl rfl) (by rw [dN hec]; rfl)) rfl<|L3 hx [2, 3, 4, 5, 6, 7, 8, 9, 10, 11, 12, 13, 14, 15, 16, 17, 18, 19, 20, 21, 22, 23, 24, 25, 26, 27, 28, 29, 30] rfl<|H3 (.inr h5) (by kernel_rfl)<|H0<|J1 rfl (rfl)<|Wi<|C0 1 rfl<|J0 (H0 (O1 ?_))
  obtain ⟨r7, hC7, hS7⟩ := CtlR.close h5 hr hK
  refine ret1 rfl rfl ?_
  rw [del_e hdec hec]
  exact ⟨rfl, G0, r7, hG0, hC7, hS7⟩
 ·refine L0<|C0 2 rfl<|I0 (K0 underlying3 rfl rfl (h3.cell (cellB hfz5 rfl))) rfl<|C1 (cn func39) rfl rfl (find_no _ (m.j) h3 hr (by omega) (js := js) hlq hat) fun w6 h6 =>C0 1 rfl<|Wb<|N0<|V2 h6 h6 (fun s_ => ([] : List Nat).any (Nat.beq s_)) mixed (by kernel_rfl)<|fun hx =>fun w7 h7=>L3 hx [0] rfl<|Z2 hx 1 (by rfl) (fun w_ => Bf (J2 rfl rfl) (by rw [dA hec]; rfl)) rfl<|L3 hx [2, 3] rfl<|M4 (j := 2) (b := false) hx 4 (by rfl) ⟨_, _, rfl, rfl, rfl⟩ (fun w_ => Bt (L2 underlying76 rfl rfl) rfl) rfl<|L3 hx [5, 6, 7, 8, 9, 10, 11, 12, 13, 14, 15, 16, 17, 18, 19, 20, 21, 22, 23, 24, 25, 26, 27, 28, 29, 30] rfl<|H3 (.inr h7) (by kernel_rfl)<|H0<|J1 rfl (rfl)<|Wi<|C0 1 rfl<|J0 (H0 (O1 ?_))
  obtain ⟨r7, hC7, hS7⟩ := CtlR.close h7 hr hK
  refine ret1 rfl rfl ?_
  rw [del_no hdec hec hat]
  exact ⟨rfl, G0, r7, hG0, hC7, hS7⟩
 refine L0<|C0 2 rfl<|I0 (K0 underlying3 rfl rfl (h3.cell (cellB hfz5 rfl))) rfl<|C1 (cn func39) rfl rfl (find_ye _ (m.j) h3 hr (by omega) (js := js) hlq hat) fun w8 h8 => ?_
 obtain ⟨_, _, _, hkl, x, hxk⟩ := at_yes hat
 obtain ⟨rk, hrk, hJ⟩ := hK.at_ k x hxk
 have hokx := hok x (mG hxk)
 replace h8 := take2 h8 hrk
 obtain ⟨bC, bT, m1, m2, A, B, cap, cap2, ps, zc, zt, fc, ft, l1, l2, tm, h8, hO⟩ := JobR.open_ h8 hJ
 refine C0 1 rfl<|J0 (H0 (N0 (N0 ?_)))
 have hns16 := Tal.oks_len hokx.ns.2
 rcases mine_cases x m with hb | ⟨hb0, hb⟩ | ⟨hb0, hb1, hb⟩ | hmine
 ·have hbad : ¬ x.mine m := fun hm => hb hm.1
  refine V2 h8 h8 (fun s_ => ([] : List Nat).any (Nat.beq s_)) mixed (by kernel_rfl)<|fun hx =>fun w9 h9=>L3 hx [0] rfl<|Z2 hx 1 (by rfl) (fun w_ => Bf (J2 rfl rfl) (by rw [dA hec]; rfl)) rfl<|L3 hx [2, 3] rfl<|M4 (j := 2) (b := false) hx 4 (by rfl) ⟨_, _, rfl, rfl, rfl⟩ (fun w_ => Bf (L2 underlying76 rfl rfl) rfl) rfl<|L3 hx [5, 6, 7] rfl<|Y4 (j := 6) (b := false) 12 hx 8 (by rfl) ⟨_, _, rfl, rfl, rfl⟩ (fun w_ hE_ => K0 underlying3 rfl rfl (hE_.cell (cellB hfz5 rfl))) rfl<|M4 (j := 6) (b := false) hx 9 (by rfl) ⟨_, _, rfl, rfl, rfl⟩ (fun w_ => Bt (J2 rfl rfl) (by rw [dN hb]; rfl)) rfl<|L3 hx [10, 11, 12, 13, 14, 15, 16, 17, 18, 19, 20, 21, 22, 23, 24, 25, 26, 27, 28, 29, 30] rfl<|H3 (.inr h9) (by kernel_rfl)<|H0<|J1 rfl (rfl)<|Wi<|C0 1 rfl<|J0 (H0 (O1 ?_))
  obtain ⟨r9, hJ9, hS9⟩ := JobR.close (x := x) (show St W _ (jB (x) (qs.getD k 0) bC bT m1 m2 A B cap cap2 ps zc zt :: cB x.cs bC zc fc :: tB ps bT zt ft :: [(m1, mobj l1)] :: [(m2, mobj l2)] :: (tm ++ _)) _ from h9) ⟨hO.nd, hO.st, hO.fc, hO.ft, hO.ta, hO.r1, hO.r2⟩
  replace hS9 := give2 hS9 (by omega)
  obtain ⟨r7, hC7, hS7⟩ := CtlR.close hS9 hr ((hK.mono (Le.refl G0)).set hkl hJ9)
  rw [set_same (d := x) hkl (by rw [gD, hxk]; rfl)] at hC7
  refine ret1 rfl rfl ?_
  rw [del_mine hdec hec hat hxk hbad]
  exact ⟨rfl, G0, r7, hG0, hC7, hS7⟩
 ·have hbad : ¬ x.mine m := fun hm => hb hm.2.1
  refine V2 h8 h8 (fun s_ => ([] : List Nat).any (Nat.beq s_)) mixed (by kernel_rfl)<|fun hx =>fun w10 h10=>L3 hx [0] rfl<|Z2 hx 1 (by rfl) (fun w_ => Bf (J2 rfl rfl) (by rw [dA hec]; rfl)) rfl<|L3 hx [2, 3] rfl<|M4 (j := 2) (b := false) hx 4 (by rfl) ⟨_, _, rfl, rfl, rfl⟩ (fun w_ => Bf (L2 underlying76 rfl rfl) rfl) rfl<|L3 hx [5, 6, 7] rfl<|Y4 (j := 6) (b := false) 12 hx 8 (by rfl) ⟨_, _, rfl, rfl, rfl⟩ (fun w_ hE_ => K0 underlying3 rfl rfl (hE_.cell (cellB hfz5 rfl))) rfl<|M4 (j := 6) (b := false) hx 9 (by rfl) ⟨_, _, rfl, rfl, rfl⟩ (fun w_ => Bf (J2 rfl rfl) (by rw [dA hb0]; rfl)) rfl<|L3 hx [10, 11, 12, 14, 15, 16] rfl<|Y4 (j := 11) (b := false) 12 hx 13 (by rfl) ⟨_, _, rfl, rfl, rfl⟩ (fun w_ hE_ => K0 underlying3 rfl rfl (hE_.cell (cellB hfz5 rfl))) rfl<|J4 hx 12 [17] [17] [0] rfl<|M4 (j := 11) (b := false) hx 18 (by rfl) ⟨_, _, rfl, rfl, rfl⟩ (fun w_ => Bt (J2 rfl rfl) (by rw [dN hb]; rfl)) rfl<|L3 hx [19, 20, 21, 22, 23, 24, 25, 26, 27, 28, 29, 30] rfl<|H3 (.inr h10) (by kernel_rfl)<|H0<|J1 rfl (rfl)<|Wi<|C0 1 rfl<|J0 (H0 (O1 ?_))
  obtain ⟨r9, hJ9, hS9⟩ := JobR.close (x := x) (show St W _ (jB (x) (qs.getD k 0) bC bT m1 m2 A B cap cap2 ps zc zt :: cB x.cs bC zc fc :: tB ps bT zt ft :: [(m1, mobj l1)] :: [(m2, mobj l2)] :: (tm ++ _)) _ from h10) ⟨hO.nd, hO.st, hO.fc, hO.ft, hO.ta, hO.r1, hO.r2⟩
  replace hS9 := give2 hS9 (by omega)
  obtain ⟨r7, hC7, hS7⟩ := CtlR.close hS9 hr ((hK.mono (Le.refl G0)).set hkl hJ9)
  rw [set_same (d := x) hkl (by rw [gD, hxk]; rfl)] at hC7
  refine ret1 rfl rfl ?_
  rw [del_mine hdec hec hat hxk hbad]
  exact ⟨rfl, G0, r7, hG0, hC7, hS7⟩
 ·have hbad : ¬ x.mine m := fun hm => hb hm.2.2
  refine V2 h8 h8 (fun s_ => ([] : List Nat).any (Nat.beq s_)) mixed (by kernel_rfl)<|fun hx =>fun w11 h11=>L3 hx [0] rfl<|Z2 hx 1 (by rfl) (fun w_ => Bf (J2 rfl rfl) (by rw [dA hec]; rfl)) rfl<|L3 hx [2, 3] rfl<|M4 (j := 2) (b := false) hx 4 (by rfl) ⟨_, _, rfl, rfl, rfl⟩ (fun w_ => Bf (L2 underlying76 rfl rfl) rfl) rfl<|L3 hx [5, 6, 7] rfl<|Y4 (j := 6) (b := false) 12 hx 8 (by rfl) ⟨_, _, rfl, rfl, rfl⟩ (fun w_ hE_ => K0 underlying3 rfl rfl (hE_.cell (cellB hfz5 rfl))) rfl<|M4 (j := 6) (b := false) hx 9 (by rfl) ⟨_, _, rfl, rfl, rfl⟩ (fun w_ => Bf (J2 rfl rfl) (by rw [dA hb0]; rfl)) rfl<|L3 hx [10, 11, 12, 14, 15, 16] rfl<|Y4 (j := 11) (b := false) 12 hx 13 (by rfl) ⟨_, _, rfl, rfl, rfl⟩ (fun w_ hE_ => K0 underlying3 rfl rfl (hE_.cell (cellB hfz5 rfl))) rfl<|J4 hx 12 [17] [17] [0] rfl<|M4 (j := 11) (b := false) hx 18 (by rfl) ⟨_, _, rfl, rfl, rfl⟩ (fun w_ => Bf (J2 rfl rfl) (by rw [dA hb1]; rfl)) rfl<|J4 hx 12 [25] [19, 20, 21, 22, 23, 24, 26, 25] [0] rfl<|Y4 (j := 20) (b := false) 12 hx 27 (by rfl) ⟨_, _, rfl, rfl, rfl⟩ (fun w_ hE_ => K0 underlying3 rfl rfl (hE_.cell (cellB hfz5 rfl))) rfl<|F3 28 h11 (by rfl)<|Q0 rfl<|C1 (cn func40) rfl rfl (Dg.contains_c _ m.f h11 (RdW.of hO.nd) (by omega)) fun w12 h12 =>J0<|H2<|M4 (j := 20) (b := false) hx 29 (by rfl) ⟨_, _, rfl, rfl, rfl⟩ (fun w_ => Bt (R1 rfl) (by rw [dN hb]; rfl)) rfl<|L3 hx [30] rfl<|H3 (.inr h12) (by kernel_rfl)<|H0<|J1 rfl (rfl)<|Wi<|C0 1 rfl<|J0 (H0 (O1 ?_))
  obtain ⟨r9, hJ9, hS9⟩ := JobR.close (x := x) (show St W _ (jB (x) (qs.getD k 0) bC bT m1 m2 A B cap cap2 ps zc zt :: cB x.cs bC zc fc :: tB ps bT zt ft :: [(m1, mobj l1)] :: [(m2, mobj l2)] :: (tm ++ _)) _ from h12) ⟨hO.nd, hO.st, hO.fc, hO.ft, hO.ta, hO.r1, hO.r2⟩
  replace hS9 := give2 hS9 (by omega)
  obtain ⟨r7, hC7, hS7⟩ := CtlR.close hS9 hr ((hK.mono (Le.refl G0)).set hkl hJ9)
  rw [set_same (d := x) hkl (by rw [gD, hxk]; rfl)] at hC7
  refine ret1 rfl rfl ?_
  rw [del_mine hdec hec hat hxk hbad]
  exact ⟨rfl, G0, r7, hG0, hC7, hS7⟩
 refine V2 h8 h8 (fun s_ => ([] : List Nat).any (Nat.beq s_)) mixed (by kernel_rfl)<|fun hx =>fun w13 h13=>L3 hx [0] rfl<|Z2 hx 1 (by rfl) (fun w_ => Bf (J2 rfl rfl) (by rw [dA hec]; rfl)) rfl<|L3 hx [2, 3] rfl<|M4 (j := 2) (b := false) hx 4 (by rfl) ⟨_, _, rfl, rfl, rfl⟩ (fun w_ => Bf (L2 underlying76 rfl rfl) rfl) rfl<|L3 hx [5, 6, 7] rfl<|Y4 (j := 6) (b := false) 12 hx 8 (by rfl) ⟨_, _, rfl, rfl, rfl⟩ (fun w_ hE_ => K0 underlying3 rfl rfl (hE_.cell (cellB hfz5 rfl))) rfl<|M4 (j := 6) (b := false) hx 9 (by rfl) ⟨_, _, rfl, rfl, rfl⟩ (fun w_ => Bf (J2 rfl rfl) (by rw [dA hmine.1]; rfl)) rfl<|L3 hx [10, 11, 12, 14, 15, 16] rfl<|Y4 (j := 11) (b := false) 12 hx 13 (by rfl) ⟨_, _, rfl, rfl, rfl⟩ (fun w_ hE_ => K0 underlying3 rfl rfl (hE_.cell (cellB hfz5 rfl))) rfl<|J4 hx 12 [17] [17] [0] rfl<|M4 (j := 11) (b := false) hx 18 (by rfl) ⟨_, _, rfl, rfl, rfl⟩ (fun w_ => Bf (J2 rfl rfl) (by rw [dA hmine.2.1]; rfl)) rfl<|J4 hx 12 [25] [19, 20, 21, 22, 23, 24, 26, 25] [0] rfl<|Y4 (j := 20) (b := false) 12 hx 27 (by rfl) ⟨_, _, rfl, rfl, rfl⟩ (fun w_ hE_ => K0 underlying3 rfl rfl (hE_.cell (cellB hfz5 rfl))) rfl<|F3 28 h13 (by rfl)<|Q0 rfl<|C1 (cn func40) rfl rfl (Dg.contains_c _ m.f h13 (RdW.of hO.nd) (by omega)) fun w14 h14 =>J0<|H2<|M4 (j := 20) (b := false) hx 29 (by rfl) ⟨_, _, rfl, rfl, rfl⟩ (fun w_ => Bf (R1 rfl) (by rw [dA hmine.2.2]; rfl)) rfl<|L3 hx [30] rfl<|H3 (.inr h14) (by kernel_rfl)<|H0<|E1 rfl (rfl)<|U0 (H0 (N0 (M1 (N0 ?_))))
 rcases kcases m with ⟨hk1, hk3, hk6, hk9⟩ | ⟨hk1, hk3, hk9⟩ | ⟨hk1, hk3, hk6, hk9⟩ | ⟨hk1, hk3, hk6, hk9⟩ | ⟨hk1, hk3, hk6, hk9⟩
 ·have hk36 : ¬ (m.k = 3 ∨ m.k = 6) := by omega
  refine L0<|C0 1 rfl<|I0 (K0 underlying3 rfl rfl (h14.cell (cellB hfz5 rfl))) rfl<|I0 (Bt (L1 rfl rfl) (dA hk1)) rfl<|H1 h14 [0] 8 rfl<|Wa<|Z0 rfl (fun c15 => ?_) (fun c15 => ?_)
  ·try simp only [DD] at c15
   obtain ⟨r9, hJ9, hS9⟩ := JobR.close (x := x) (show St W _ (jB (x) (qs.getD k 0) bC bT m1 m2 A B cap cap2 ps zc zt :: cB x.cs bC zc fc :: tB ps bT zt ft :: [(m1, mobj l1)] :: [(m2, mobj l2)] :: (tm ++ _)) _ from h14) ⟨hO.nd, hO.st, hO.fc, hO.ft, hO.ta, hO.r1, hO.r2⟩
   refine L0<|C0 2 rfl<|I0 (K0 underlying3 rfl rfl (hS9.cell (cellB hfz5 rfl))) rfl<|C0 1 rfl<|I0 (K0 underlying3 rfl rfl (hS9.cell (cellB hfz5 rfl))) rfl<|C1 (cn func41) rfl rfl (started_c _ hS9 hJ9 m.f m.ar hokx hmine.2.2) fun w16 ⟨G9, r8, hle9, hJ8, h16⟩ =>J0<|N1<|H0<|Wi<|C0 1 rfl<|J0 (H0 (O1 ?_))
   replace h16 := give2 h16 (by omega)
   obtain ⟨r7, hC7, hS7⟩ := CtlR.close h16 hr ((hK.mono hle9).set hkl hJ8)
   refine ret1 rfl rfl ?_
   rw [del_y hdec hec hat hxk hmine, hear_a hk1 c15]
   exact ⟨rfl, G9, r7, Le.trans hG0 hle9, hC7, hS7⟩
  try simp only [DD] at c15
  refine Wi<|C0 1 rfl<|I0 (K0 underlying3 rfl rfl (h14.cell (cellB hfz5 rfl))) rfl<|I0 (Bf (L1 rfl rfl) (dN hk3)) rfl<|C0 2 rfl<|Q0 rfl<|I0 (K0 underlying3 rfl rfl (h14.cell (cellB hfz5 rfl))) rfl<|Q0 rfl<|I0 (Bf (L1 rfl rfl) (dN hk6)) rfl<|C0 9 rfl<|Wa<|E1 rfl (rfl)<|Wi<|C0 1 rfl<|I0 (K0 underlying3 rfl rfl (h14.cell (cellB hfz5 rfl))) rfl<|I0 (Bf (L1 rfl rfl) (dN hk9)) rfl<|C0 8 rfl<|Wa<|E1 rfl (rfl)<|Wi<|C0 1 rfl<|J0 (H0 (O1 ?_))
  obtain ⟨r9, hJ9, hS9⟩ := JobR.close (x := x) (show St W _ (jB (x) (qs.getD k 0) bC bT m1 m2 A B cap cap2 ps zc zt :: cB x.cs bC zc fc :: tB ps bT zt ft :: [(m1, mobj l1)] :: [(m2, mobj l2)] :: (tm ++ _)) _ from h14) ⟨hO.nd, hO.st, hO.fc, hO.ft, hO.ta, hO.r1, hO.r2⟩
  replace hS9 := give2 hS9 (by omega)
  obtain ⟨r7, hC7, hS7⟩ := CtlR.close hS9 hr ((hK.mono (Le.refl G0)).set hkl hJ9)
  rw [set_same (d := x) hkl (by rw [gD, hxk]; rfl)] at hC7
  refine ret1 rfl rfl ?_
  rw [del_y hdec hec hat hxk hmine, hear_d (fun hh => c15 hh.2) (fun hh => hk36 hh.1) (fun hh => hk9 hh.1), set_same (d := x) hkl (by rw [gD, hxk]; rfl)]
  exact ⟨rfl, G0, r7, hG0, hC7, hS7⟩
 ·have hk36 : m.k = 3 ∨ m.k = 6 := .inl hk3
  refine L0<|C0 1 rfl<|I0 (K0 underlying3 rfl rfl (h14.cell (cellB hfz5 rfl))) rfl<|I0 (Bf (L1 rfl rfl) (dN hk1)) rfl<|C0 8 rfl<|Wa<|E1 rfl (rfl)<|Wi<|C0 1 rfl<|I0 (K0 underlying3 rfl rfl (h14.cell (cellB hfz5 rfl))) rfl<|I0 (Bt (L1 rfl rfl) (dA hk3)) rfl<|H1 h14 [0] 13 rfl<|Wa<|Z0 rfl (fun c17 => ?_) (fun c17 => ?_)
  ·try simp only [DD] at c17
   refine N0 ?_
   obtain ⟨r9, hJ9, hS9⟩ := JobR.close (x := x) (show St W _ (jB (x) (qs.getD k 0) bC bT m1 m2 A B cap cap2 ps zc zt :: cB x.cs bC zc fc :: tB ps bT zt ft :: [(m1, mobj l1)] :: [(m2, mobj l2)] :: (tm ++ _)) _ from h14) ⟨hO.nd, hO.st, hO.fc, hO.ft, hO.ta, hO.r1, hO.r2⟩
   refine L0<|C0 1 rfl<|I0 (R4 hS9 hfz5 underlying42 rfl inf42 rfl rfl) rfl<|C1 (cn func42) rfl rfl (said_c _ hS9 hJ9 m hokx hmay.2.2.2.2.2.2.1.1) fun w18 ⟨G9, r8, hle9, hJ8, h18⟩ =>C0 1 rfl<|J0 (H0 (O1 ?_))
   replace h18 := give2 h18 (by omega)
   obtain ⟨r7, hC7, hS7⟩ := CtlR.close h18 hr ((hK.mono hle9).set hkl hJ8)
   refine ret1 rfl rfl ?_
   rw [del_y hdec hec hat hxk hmine, hear_b (fun hh => hk1 hh.1) ⟨hk36, c17⟩]
   exact ⟨rfl, G9, r7, Le.trans hG0 hle9, hC7, hS7⟩
  try simp only [DD] at c17
  refine Wi<|C0 1 rfl<|I0 (K0 underlying3 rfl rfl (h14.cell (cellB hfz5 rfl))) rfl<|I0 (Bf (L1 rfl rfl) (dN hk9)) rfl<|C0 8 rfl<|Wa<|E1 rfl (rfl)<|Wi<|C0 1 rfl<|J0 (H0 (O1 ?_))
  obtain ⟨r9, hJ9, hS9⟩ := JobR.close (x := x) (show St W _ (jB (x) (qs.getD k 0) bC bT m1 m2 A B cap cap2 ps zc zt :: cB x.cs bC zc fc :: tB ps bT zt ft :: [(m1, mobj l1)] :: [(m2, mobj l2)] :: (tm ++ _)) _ from h14) ⟨hO.nd, hO.st, hO.fc, hO.ft, hO.ta, hO.r1, hO.r2⟩
  replace hS9 := give2 hS9 (by omega)
  obtain ⟨r7, hC7, hS7⟩ := CtlR.close hS9 hr ((hK.mono (Le.refl G0)).set hkl hJ9)
  rw [set_same (d := x) hkl (by rw [gD, hxk]; rfl)] at hC7
  refine ret1 rfl rfl ?_
  rw [del_y hdec hec hat hxk hmine, hear_d (fun hh => hk1 hh.1) (fun hh => c17 hh.2) (fun hh => hk9 hh.1), set_same (d := x) hkl (by rw [gD, hxk]; rfl)]
  exact ⟨rfl, G0, r7, hG0, hC7, hS7⟩
 ·have hk36 : m.k = 3 ∨ m.k = 6 := .inr hk6
  refine L0<|C0 1 rfl<|I0 (K0 underlying3 rfl rfl (h14.cell (cellB hfz5 rfl))) rfl<|I0 (Bf (L1 rfl rfl) (dN hk1)) rfl<|C0 8 rfl<|Wa<|E1 rfl (rfl)<|Wi<|C0 1 rfl<|I0 (K0 underlying3 rfl rfl (h14.cell (cellB hfz5 rfl))) rfl<|I0 (Bf (L1 rfl rfl) (dN hk3)) rfl<|C0 2 rfl<|Q0 rfl<|I0 (K0 underlying3 rfl rfl (h14.cell (cellB hfz5 rfl))) rfl<|Q0 rfl<|I0 (Bt (L1 rfl rfl) (dA hk6)) rfl<|H1 h14 [0] 9 rfl<|Wa<|Z0 rfl (fun c19 => ?_) (fun c19 => ?_)
  ·try simp only [DD] at c19
   refine N0 ?_
   obtain ⟨r9, hJ9, hS9⟩ := JobR.close (x := x) (show St W _ (jB (x) (qs.getD k 0) bC bT m1 m2 A B cap cap2 ps zc zt :: cB x.cs bC zc fc :: tB ps bT zt ft :: [(m1, mobj l1)] :: [(m2, mobj l2)] :: (tm ++ _)) _ from h14) ⟨hO.nd, hO.st, hO.fc, hO.ft, hO.ta, hO.r1, hO.r2⟩
   refine L0<|C0 1 rfl<|I0 (R4 hS9 hfz5 underlying42 rfl inf42 rfl rfl) rfl<|C1 (cn func42) rfl rfl (said_c _ hS9 hJ9 m hokx hmay.2.2.2.2.2.2.1.1) fun w20 ⟨G9, r8, hle9, hJ8, h20⟩ =>C0 1 rfl<|J0 (H0 (O1 ?_))
   replace h20 := give2 h20 (by omega)
   obtain ⟨r7, hC7, hS7⟩ := CtlR.close h20 hr ((hK.mono hle9).set hkl hJ8)
   refine ret1 rfl rfl ?_
   rw [del_y hdec hec hat hxk hmine, hear_b (fun hh => hk1 hh.1) ⟨hk36, c19⟩]
   exact ⟨rfl, G9, r7, Le.trans hG0 hle9, hC7, hS7⟩
  try simp only [DD] at c19
  refine Wi<|C0 1 rfl<|I0 (K0 underlying3 rfl rfl (h14.cell (cellB hfz5 rfl))) rfl<|I0 (Bf (L1 rfl rfl) (dN hk9)) rfl<|C0 8 rfl<|Wa<|E1 rfl (rfl)<|Wi<|C0 1 rfl<|J0 (H0 (O1 ?_))
  obtain ⟨r9, hJ9, hS9⟩ := JobR.close (x := x) (show St W _ (jB (x) (qs.getD k 0) bC bT m1 m2 A B cap cap2 ps zc zt :: cB x.cs bC zc fc :: tB ps bT zt ft :: [(m1, mobj l1)] :: [(m2, mobj l2)] :: (tm ++ _)) _ from h14) ⟨hO.nd, hO.st, hO.fc, hO.ft, hO.ta, hO.r1, hO.r2⟩
  replace hS9 := give2 hS9 (by omega)
  obtain ⟨r7, hC7, hS7⟩ := CtlR.close hS9 hr ((hK.mono (Le.refl G0)).set hkl hJ9)
  rw [set_same (d := x) hkl (by rw [gD, hxk]; rfl)] at hC7
  refine ret1 rfl rfl ?_
  rw [del_y hdec hec hat hxk hmine, hear_d (fun hh => hk1 hh.1) (fun hh => c19 hh.2) (fun hh => hk9 hh.1), set_same (d := x) hkl (by rw [gD, hxk]; rfl)]
  exact ⟨rfl, G0, r7, hG0, hC7, hS7⟩
 ·have hk36 : ¬ (m.k = 3 ∨ m.k = 6) := by omega
  refine L0<|C0 1 rfl<|I0 (K0 underlying3 rfl rfl (h14.cell (cellB hfz5 rfl))) rfl<|I0 (Bf (L1 rfl rfl) (dN hk1)) rfl<|C0 8 rfl<|Wa<|E1 rfl (rfl)<|Wi<|C0 1 rfl<|I0 (K0 underlying3 rfl rfl (h14.cell (cellB hfz5 rfl))) rfl<|I0 (Bf (L1 rfl rfl) (dN hk3)) rfl<|C0 2 rfl<|Q0 rfl<|I0 (K0 underlying3 rfl rfl (h14.cell (cellB hfz5 rfl))) rfl<|Q0 rfl<|I0 (Bf (L1 rfl rfl) (dN hk6)) rfl<|C0 9 rfl<|Wa<|E1 rfl (rfl)<|Wi<|C0 1 rfl<|I0 (K0 underlying3 rfl rfl (h14.cell (cellB hfz5 rfl))) rfl<|I0 (Bt (L1 rfl rfl) (dA hk9)) rfl<|H1 h14 [0] 8 rfl<|Wa<|Z0 rfl (fun c21 => ?_) (fun c21 => ?_)
  ·try simp only [DD] at c21
   obtain ⟨r9, hJ9, hS9⟩ := JobR.close (x := x) (show St W _ (jB (x) (qs.getD k 0) bC bT m1 m2 A B cap cap2 ps zc zt :: cB x.cs bC zc fc :: tB ps bT zt ft :: [(m1, mobj l1)] :: [(m2, mobj l2)] :: (tm ++ _)) _ from h14) ⟨hO.nd, hO.st, hO.fc, hO.ft, hO.ta, hO.r1, hO.r2⟩
   refine L0<|C0 2 rfl<|I0 (K0 underlying3 rfl rfl (hS9.cell (cellB hfz5 rfl))) rfl<|C1 (cn func43) rfl rfl (left_c _ hS9 hJ9 m.f hokx) fun w22 ⟨G9, r8, hle9, hJ8, h22⟩ =>J0<|N1<|H0<|Wi<|C0 1 rfl<|J0 (H0 (O1 ?_))
   replace h22 := give2 h22 (by omega)
   obtain ⟨r7, hC7, hS7⟩ := CtlR.close h22 hr ((hK.mono hle9).set hkl hJ8)
   refine ret1 rfl rfl ?_
   rw [del_y hdec hec hat hxk hmine, hear_c (fun hh => hk1 hh.1) (fun hh => hk36 hh.1) ⟨hk9, c21⟩]
   exact ⟨rfl, G9, r7, Le.trans hG0 hle9, hC7, hS7⟩
  try simp only [DD] at c21
  refine Wi<|C0 1 rfl<|J0 (H0 (O1 ?_))
  obtain ⟨r9, hJ9, hS9⟩ := JobR.close (x := x) (show St W _ (jB (x) (qs.getD k 0) bC bT m1 m2 A B cap cap2 ps zc zt :: cB x.cs bC zc fc :: tB ps bT zt ft :: [(m1, mobj l1)] :: [(m2, mobj l2)] :: (tm ++ _)) _ from h14) ⟨hO.nd, hO.st, hO.fc, hO.ft, hO.ta, hO.r1, hO.r2⟩
  replace hS9 := give2 hS9 (by omega)
  obtain ⟨r7, hC7, hS7⟩ := CtlR.close hS9 hr ((hK.mono (Le.refl G0)).set hkl hJ9)
  rw [set_same (d := x) hkl (by rw [gD, hxk]; rfl)] at hC7
  refine ret1 rfl rfl ?_
  rw [del_y hdec hec hat hxk hmine, hear_d (fun hh => hk1 hh.1) (fun hh => hk36 hh.1) (fun hh => c21 hh.2), set_same (d := x) hkl (by rw [gD, hxk]; rfl)]
  exact ⟨rfl, G0, r7, hG0, hC7, hS7⟩
 have hk36 : ¬ (m.k = 3 ∨ m.k = 6) := by omega
 refine L0<|C0 1 rfl<|I0 (K0 underlying3 rfl rfl (h14.cell (cellB hfz5 rfl))) rfl<|I0 (Bf (L1 rfl rfl) (dN hk1)) rfl<|C0 8 rfl<|Wa<|E1 rfl (rfl)<|Wi<|C0 1 rfl<|I0 (K0 underlying3 rfl rfl (h14.cell (cellB hfz5 rfl))) rfl<|I0 (Bf (L1 rfl rfl) (dN hk3)) rfl<|C0 2 rfl<|Q0 rfl<|I0 (K0 underlying3 rfl rfl (h14.cell (cellB hfz5 rfl))) rfl<|Q0 rfl<|I0 (Bf (L1 rfl rfl) (dN hk6)) rfl<|C0 9 rfl<|Wa<|E1 rfl (rfl)<|Wi<|C0 1 rfl<|I0 (K0 underlying3 rfl rfl (h14.cell (cellB hfz5 rfl))) rfl<|I0 (Bf (L1 rfl rfl) (dN hk9)) rfl<|C0 8 rfl<|Wa<|E1 rfl (rfl)<|Wi<|C0 1 rfl<|J0 (H0 (O1 ?_))
 obtain ⟨r9, hJ9, hS9⟩ := JobR.close (x := x) (show St W _ (jB (x) (qs.getD k 0) bC bT m1 m2 A B cap cap2 ps zc zt :: cB x.cs bC zc fc :: tB ps bT zt ft :: [(m1, mobj l1)] :: [(m2, mobj l2)] :: (tm ++ _)) _ from h14) ⟨hO.nd, hO.st, hO.fc, hO.ft, hO.ta, hO.r1, hO.r2⟩
 replace hS9 := give2 hS9 (by omega)
 obtain ⟨r7, hC7, hS7⟩ := CtlR.close hS9 hr ((hK.mono (Le.refl G0)).set hkl hJ9)
 rw [set_same (d := x) hkl (by rw [gD, hxk]; rfl)] at hC7
 refine ret1 rfl rfl ?_
 rw [del_y hdec hec hat hxk hmine, hear_d (fun hh => hk1 hh.1) (fun hh => hk36 hh.1) (fun hh => hk9 hh.1), set_same (d := x) hkl (by rw [gD, hxk]; rfl)]
 exact ⟨rfl, G0, r7, hG0, hC7, hS7⟩
theorem inf54 : Inf prog 54 (.agg #[.int .i64 0, .int .i64 0, .int .i64 0, .int .i64 0, .int .i64 0, .slice none 0 0, .slice none 0 0]) 7 88 := by unfold Inf; kernel_rfl
def votesM (x : J) : List Int := x.ts.map fun o => match o with
 |none => -1
 |some t => t.state
theorem votes_len (x : J) : (votesM x).length = x.ts.length := List.length_map _
theorem votes_at {x : J} {i : Nat} (h : i < x.ts.length) : (votesM x).take (i + 1) = (votesM x).take i ++ [(votesM x).getD i 0] := by
 have hl := votes_len x
 rw [List.take_add_one, gE (by omega), gD, gE (by omega)]; rfl
theorem votes_no {x : J} {i : Nat} (h : i < x.ts.length) (h2 : x.ts.getD i none = none) : (votesM x).take (i + 1) = (votesM x).take i ++ [-1] := by
 rw [votes_at h]
 have e : (votesM x).getD i 0 = -1 := by
  rw [gD, gE h] at h2
  have h3 : x.ts[i] = none := h2
  unfold votesM
  rw [gD, List.getElem?_map, gE h, h3]; rfl
 rw [e]
theorem votes_ye {x : J} {i : Nat} {t : T} (h : i < x.ts.length) (h2 : x.ts.getD i none = some t) : (votesM x).take (i + 1) = (votesM x).take i ++ [t.state] := by
 rw [votes_at h]
 have e : (votesM x).getD i 0 = t.state := by
  rw [gD, gE h] at h2
  have h3 : x.ts[i] = some t := h2
  unfold votesM
  rw [gD, List.getElem?_map, gE h, h3]; rfl
 rw [e]
theorem at8 {z1 z2 z3 a b c d e : Res} {tm cs : List Res} {k : Nat} {r : Res} (h : tm[k]? = some r) : (z1 :: z2 :: z3 :: a :: b :: c :: d :: e :: (tm ++ cs))[k + 8]? = some r := at5 (a := a) (b := b) (c := c) (d := d) (e := e) h
theorem St.back1 {W w : World} {F : Snap} {cs rj : List Res} {z a p : Res} (h : St W F (z :: a :: p :: (rj ++ cs)) w) : St W F (a :: p :: (rj ++ (z :: cs))) w := h.perm (List.perm_middle (l₁ := a :: p :: rj))
theorem cloneJ (w : World) {cap bC i : Nat} {c : List Int} {zc : List Value} {fc : Nat × Nat} (h : St W F cs w) (hi : cs[i]? = some (cB c bC zc fc)) (h0 : 0 < c.length) (hc : c.length ≤ 16) : Calls prog 44 #[.slice (some ⟨bC, 0, none⟩) c.length cap] w fun e w' => ∃ r v, e = .returned v ∧ Row 3 Vi r v c ∧ St W F (r :: cs) w' := by
 obtain ⟨G, hG, hr, hS⟩ := h.freeze hi
 refine (Tal.clone_c w (A := some ⟨bC, 0, none⟩) hS (Tal.blk_read (hr _ List.mem_cons_self)) h0 (by omega)).mono ?_
 rintro e w' ⟨r, v, rfl, hrow, hS2⟩
 exact ⟨r, v, rfl, hrow, St.thaw (new := [r]) h hi hr hG hS2⟩
theorem job_no (w : World) {r : Res} {b : Nat} {key : List UInt8} {js : List J} (h : St W F (r :: cs) w) (hC : CtlR F r b key js) (id : Int) (hjl : js.length ≤ 16) (hat : at_ js id = none) : Calls prog 19 #[pz b, Vi id] w fun e w' => e = .returned (.tuple #[.agg #[Vi 0, Vi 0, Vi 0, Vi 0, Vi 0, .slice none 0 0, .slice none 0 0], .bool false]) ∧ ∃ r', CtlR F r' b key js ∧ St W F (r' :: cs) w'  := by
 refine enter (args := [pz b, Vi id]) func19 rfl rfl rfl ?_
 obtain ⟨A0, cap0, rP, qs, rj, h, hr, hK⟩ := CtlR.open_ h hC
 have hlq := hK.lq
 have hlr := hK.lr
 refine Wi<|O2 rfl h inf54 fun b4 w1 h1=>C0 1 rfl<|J0 (H0 (N0 ?_))
 replace h1 := St.back1 h1
 refine L0<|C0 2 rfl<|C1 (cn func39) rfl rfl (find_no _ (id) h1 hr (by omega) (js := js) hlq hat) fun w2 h2 =>C0 1 rfl<|Wh<|C0 1 rfl<|I0 (L2 underlying76 rfl rfl) rfl<|Wa<|J1 rfl (rfl)<|N0 ?_
 obtain ⟨r7, hC7, h2⟩ := CtlR.close h2 hr hK
 refine L0<|I0 (R2 (vs := []) (cells := #[Vi 0, Vi 0, Vi 0, Vi 0, Vi 0, .slice none 0 0, .slice none 0 0]) rfl (by kernel_rfl)) rfl<|F4 h2 1 rfl rfl rfl inf54 rfl rfl rfl ?_
 intro  w3 h3
 try simp only [ZZ] at h3
 refine C0 1 rfl<|Wg<|retB rfl (ResOk.blk h3 1 rfl underlying54 rfl inf54 rfl rfl) (show lk _ _ = _ from rfl) ⟨rfl, r7, hC7, h3.drop 1⟩
theorem job_ye (w : World) {r : Res} {b : Nat} {key : List UInt8} {js : List J} (h : St W F (r :: cs) w) (hC : CtlR F r b key js) (id : Int) (hok : ∀ x ∈ js, x.ok) (hjl : js.length ≤ 16) {k : Nat} {x : J} (hat : at_ js id = some k) (hxk : js[k]? = some x) : Calls prog 19 #[pz b, Vi id] w fun e w' => ∃ G r' A cap A' cap', Le F G ∧ e = .returned (.tuple #[.agg #[Vi x.id, Vi x.ep, Vi x.ph, Vi x.ft, Vi x.cd, .slice A x.cs.length cap, .slice A' (votesM x).length cap'], .bool true]) ∧ RdS (Kd.one Vi) G A x.cs ∧ RdS (Kd.one Vi) G A' (votesM x) ∧ CtlR G r' b key js ∧ St W G (r' :: cs) w'  := by
 refine enter (args := [pz b, Vi id]) func19 rfl rfl rfl ?_
 obtain ⟨A0, cap0, rP, qs, rj, h, hr, hK⟩ := CtlR.open_ h hC
 have hlq := hK.lq
 have hlr := hK.lr
 refine Wi<|O2 rfl h inf54 fun b4 w1 h1=>C0 1 rfl<|J0 (H0 (N0 ?_))
 replace h1 := St.back1 h1
 refine L0<|C0 2 rfl<|C1 (cn func39) rfl rfl (find_ye _ (id) h1 hr (by omega) (js := js) hlq hat) fun w2 h2 => ?_
 obtain ⟨_, _, _, hkl, x', hx'⟩ := at_yes hat
 rw [hxk] at hx'
 obtain rfl := Option.some.inj hx'
 obtain ⟨rk, hrk, hJ⟩ := hK.at_ k x hxk
 have hokx := hok x (mG hxk)
 have hls := (Dg.chk_ok hokx.ss).2.1
 have hlt := hokx.lt
 replace h2 := take2 h2 hrk
 obtain ⟨bC, bT, m1, m2, A, B, cap, cap2, ps, zc, zt, fc, ft, l1, l2, tm, h2, hO⟩ := JobR.open_ h2 hJ
 have hlp := hO.ta.lp
 have hlm := hO.ta.lm
 refine C0 1 rfl<|Wh<|C0 1 rfl<|I0 (L2 underlying76 rfl rfl) rfl<|Wa<|E1 rfl (rfl)<|U0<|H0<|N0<|V2 h2 h2 (fun s_ => ([27] : List Nat).any (Nat.beq s_)) mixed (by kernel_rfl)<|fun hx =>fun w3 h3=>J4 hx 12 [3, 7, 11, 15, 19, 23] [0, 1, 2, 4, 5, 6, 8, 9, 10, 12, 13, 14, 16, 17, 18, 20, 21, 22, 3, 7, 11, 15, 19, 23] [0, 0, 0, 0, 0, 0] rfl<|WE.op2 (.inr h3) (i := 24) (j := 26) (by rfl) (by rfl) (by kernel_rfl) ?_ ?_
 ·refine V1 (cn func44) rfl rfl (cloneJ _ h3 (i := 1) rfl (by rw [hokx.lc]; omega) (by rw [hokx.lc]; omega)) ?_
  rintro _ w4 ⟨rC, vC, rfl, hrC, h4⟩
  refine ⟨_, rfl, ?_⟩
  obtain ⟨AC, cC, rfl, hcC⟩ := hrC.val
  refine J0<|H2<|Z2 hx 25 (by rfl) (fun w_ => R2 (vs := [(0, Vi x.id), (1, Vi x.ep), (2, Vi x.ph), (3, Vi x.ft), (4, Vi x.cd), (5, .slice AC x.cs.length cC)]) (cells := #[Vi x.id, Vi x.ep, Vi x.ph, Vi x.ft, Vi x.cd, .slice AC x.cs.length cC, .slice none 0 0]) rfl (by kernel_rfl)) rfl<|F3 26 (h4.drop 0) (by rfl)<|O2 rfl h4 inf54 fun b7 w5 h5=>J0<|H2<|F3 27 ((h5.drop 1).drop 0) (by rfl) ?_
  refine F4 h5 0 rfl rfl rfl inf54 rfl rfl rfl ?_
  intro  w6 h6
  try simp only [ZZ] at h6
  refine J0<|H2<|H3 (.inl ⟨27, rfl, by kernel_rfl⟩) (by kernel_rfl)<|H0 (N0 (N0 ?_))
  have hN0 := h6.nilRes
  replace hN0 : St W F ([] :: [(b7, .cells #[Vi x.id, Vi x.ep, Vi x.ph, Vi x.ft, Vi x.cd, .slice AC x.cs.length cC, .slice none 0 0] 54 (0, 0))] :: rC :: jB x (qs.getD k 0) bC bT m1 m2 A B cap cap2 ps zc zt :: cB x.cs bC zc fc :: tB ps bT zt ft :: [(m1, mobj l1)] :: [(m2, mobj l2)] :: (tm ++ (kB b key A0 qs.length cap0 :: rP :: (rj.set k [] ++ ([(b4, .cells #[Vi 0, Vi 0, Vi 0, Vi 0, Vi 0, .slice none 0 0, .slice none 0 0] 54 (0, 0))] :: cs))))) w6 := hN0
  refine L0<|H1 hN0 [3] 4 rfl<|I0 (R0 (n := (ps.length : Int)) (Y0 underlying80 rfl rfl) rfl) rfl<|C0 1 rfl<|Wj<|B3 (σ := Nat × Res × Value) (fun q_ => [(0, pz b), (4, pz b4), (6, pz (qs.getD k 0)), (7, pz b7), (46, vT ps bT zt), (47, .int .i64 (ps.length : Int)), (48, .int .i64 (q_.1 : Int))]) (fun q_ w => q_.1 ≤ ps.length ∧ Row 3 Vi q_.2.1 q_.2.2 ((votesM x).take q_.1) ∧ St W F (q_.2.1 :: [(b7, .cells #[Vi x.id, Vi x.ep, Vi x.ph, Vi x.ft, Vi x.cd, .slice AC x.cs.length cC, q_.2.2] 54 (0, 0))] :: rC :: jB x (qs.getD k 0) bC bT m1 m2 A B cap cap2 ps zc zt :: cB x.cs bC zc fc :: tB ps bT zt ft :: [(m1, mobj l1)] :: [(m2, mobj l2)] :: (tm ++ (kB b key A0 qs.length cap0 :: rP :: (rj.set k [] ++ ([(b4, .cells #[Vi 0, Vi 0, Vi 0, Vi 0, Vi 0, .slice none 0 0, .slice none 0 0] 54 (0, 0))] :: cs))))) w) (fun q_ => ps.length - q_.1) (⟨0, [], .slice none 0 0⟩) (⟨Nat.zero_le _, Row.nil _ _, hN0⟩) ?_
  rintro ⟨i, r2, v2⟩ w7 ⟨hi, hro, hL⟩
  try dsimp only at hi hro hL
  refine W2 [(0, pz b), (4, pz b4), (6, pz (qs.getD k 0)), (7, pz b7), (46, vT ps bT zt), (47, .int .i64 (ps.length : Int)), (48, .int .i64 (i : Int))] ?_
  have hvl := votes_len x
  have htl : ((votesM x).take i).length = i := by rw [List.length_take]; omega
  obtain ⟨A3_, c3_, rfl, hc3_⟩ := hro.val
  refine Wi<|C0 1 rfl<|Wb<|Z0 rfl (fun c8 => ?_) (fun c8 => ?_)
  ·try simp only [DD] at c8
   refine U0 (H0 (N0 (M1 (N0 ?_))))
   have hi3 : i < x.ts.length := by omega
   rcases hts : x.ts.getD i none with _ | t
   ·obtain ⟨hp, hm1, hm2⟩ := hO.ta.no i hi3 hts
    refine L0<|I0 (W0 underlying80 inf97 rfl rfl (n := i) rfl (by omega)) rfl<|I0 (X1 (u := .pointer none) (I2 (none : Option Nat) hL 5 rfl (T3 (E := 97) (f := pv) (b := bT) (fz := ft) (xs := ps) (zs := zt) rfl hO.ft) (n := i) (by omega) underlying97 rfl rfl) (by rw [hp]; rfl)) rfl<|C0 1 rfl<|We<|C0 1 rfl<|Wh<|C0 1 rfl<|I0 (U3 underlying97 rfl rfl) rfl<|Wa<|E1 rfl (rfl)<|U0<|H0<|L0<|H1 hL [1] 3 rfl<|X2 (vs := (([-1] : List Int)).map Vi) hL rfl underlying33 inf3 rfl rfl rfl rfl rfl fun lit59 w9 h9=>I3 (ys := ([-1] : List Int)) 1 h9 rfl rfl rfl rfl underlying33 underlying33 (.inr ⟨_, rfl⟩) inf3 rfl hro (Src.lit h9 0 rfl rfl rfl) rfl rfl (by first | omega | (simp [htl]; done) | (simp [htl]; omega)) (by first | omega | (simp [htl]; done) | (simp [htl]; omega)) ?_
    intro r10 v10 w11 hr10 h11
    simp only [lz, ls] at h11
    replace h11 := h11.drop 0
    simp only [ez, es'] at h11
    obtain ⟨Aq10, cq10, rfl, hcq10⟩ := hr10.val
    refine C0 1 rfl<|O3 h11 1 rfl rfl rfl inf33 rfl rfl ?_
    intro  w12 h12
    try simp only [ZZ] at h12
    refine J0<|N1<|H0<|L0<|I0 (V0 rfl rfl (by omega)) rfl<|C0 1 rfl<|J0 ?_
    have e9 := votes_no hi3 hts
    have hr9 := hr10
    rw [← e9] at hr9 h12
    exact F1 (⟨i + 1, r10, (.slice Aq10 _ cq10)⟩ : Nat × Res × Value) (by show ps.length - (i + 1) < ps.length - i; omega) ⟨rfl, rfl, rfl, rfl, rfl, rfl, rfl, trivial⟩ ⟨by show i + 1 ≤ _; omega, hr9, h12⟩
   obtain ⟨bt, q1, q2, hp, hm1, hm2, mv, mc, lv, lc, hTR⟩ := hO.ta.ye i t hts
   refine L0<|I0 (W0 underlying80 inf97 rfl rfl (n := i) rfl (by omega)) rfl<|I0 (X1 (u := pz bt) (I2 (none : Option Nat) hL 5 rfl (T3 (E := 97) (f := pv) (b := bT) (fz := ft) (xs := ps) (zs := zt) rfl hO.ft) (n := i) (by omega) underlying97 rfl rfl) (by rw [hp]; rfl)) rfl<|C0 1 rfl<|We<|C0 1 rfl<|Wh<|C0 1 rfl<|I0 (U3 underlying97 rfl rfl) rfl<|Wa<|J1 rfl (rfl)<|L0<|C0 1 rfl<|C1 (cn func45) rfl rfl (Tal.state_c _ hL (TR.at2 hTR (at8 hm1) (at8 hm2) (by omega))) fun w13 h13 =>C0 1 rfl<|Wf<|H1 h13 [1] 3 rfl<|X2 (vs := (([t.state] : List Int)).map Vi) h13 rfl underlying33 inf3 rfl rfl rfl rfl rfl fun lit59 w14 h14=>I3 (ys := ([t.state] : List Int)) 1 h14 rfl rfl rfl rfl underlying33 underlying33 (.inr ⟨_, rfl⟩) inf3 rfl hro (Src.lit h14 0 rfl rfl rfl) rfl rfl (by first | omega | (simp [htl]; done) | (simp [htl]; omega)) (by first | omega | (simp [htl]; done) | (simp [htl]; omega)) ?_
   intro r15 v15 w16 hr15 h16
   simp only [lz, ls] at h16
   replace h16 := h16.drop 0
   simp only [ez, es'] at h16
   obtain ⟨Aq15, cq15, rfl, hcq15⟩ := hr15.val
   refine C0 1 rfl<|O3 h16 1 rfl rfl rfl inf33 rfl rfl ?_
   intro  w17 h17
   try simp only [ZZ] at h17
   refine J0<|N1<|H0<|L0<|I0 (V0 rfl rfl (by omega)) rfl<|C0 1 rfl<|J0 ?_
   have e9 := votes_ye hi3 hts
   have hr9 := hr15
   rw [← e9] at hr9 h17
   exact F1 (⟨i + 1, r15, (.slice Aq15 _ cq15)⟩ : Nat × Res × Value) (by show ps.length - (i + 1) < ps.length - i; omega) ⟨rfl, rfl, rfl, rfl, rfl, rfl, rfl, trivial⟩ ⟨by show i + 1 ≤ _; omega, hr9, h17⟩
  try simp only [DD] at c8
  refine U1 (B2 (WX.cut (E2 (H0 (N0 ?_)))))
  obtain rfl : i = ps.length := by omega
  have hvn : (votesM x).take ps.length = votesM x := List.take_of_length_le (by rw [votes_len, hlp]; exact Nat.le_refl _)
  rw [hvn] at hro hL
  obtain ⟨G1, hG1, hf1, hL⟩ := hL.freeze (i := 0) rfl
  obtain ⟨G2, hG2, hf2, hL⟩ := hL.freeze (i := 0) rfl
  obtain ⟨G3, hG3, hf3, hL⟩ := hL.freeze (i := 0) rfl
  have hle3 := Le.trans hG1 (Le.trans hG2 hG3)
  have hrd1 := (Row.read hro rfl hf1).mono (Le.trans hG2 hG3)
  have hrd2 := Row.read hrC rfl hf3
  have hfz7 := hG3 _ _ (hf2 _ List.mem_cons_self)
  replace hO := hO.mono hle3
  obtain ⟨r9, hJ9, hS9⟩ := JobR.close (x := x) (show St W _ (jB (x) (qs.getD k 0) bC bT m1 m2 A B cap cap2 ps zc zt :: cB x.cs bC zc fc :: tB ps bT zt ft :: [(m1, mobj l1)] :: [(m2, mobj l2)] :: (tm ++ _)) _ from hL) ⟨hO.nd, hO.st, hO.fc, hO.ft, hO.ta, hO.r1, hO.r2⟩
  replace hS9 := give2 hS9 (by omega)
  obtain ⟨r7, hC7, hS7⟩ := CtlR.close hS9 hr ((hK.mono hle3).set hkl hJ9)
  rw [set_same (d := x) hkl (by rw [gD, hxk]; rfl)] at hC7
  refine L0<|I0 (R4 hS7 hfz7 underlying54 rfl inf54 rfl rfl) rfl<|F4 hS7 1 rfl rfl rfl inf54 rfl rfl rfl ?_
  intro  w18 h18
  try simp only [ZZ] at h18
  refine C0 1 rfl<|Wg<|retB rfl (ResOk.blk h18 1 rfl underlying54 rfl inf54 rfl rfl) (show lk _ _ = _ from rfl) ⟨G3, r7, _, _, _, _, hle3, rfl, hrd2, hrd1, hC7, h18.drop 1⟩
 refine O2 rfl h3 inf54 fun b7 w19 h19=>J0<|H2<|F3 24 (h19.drop 0) (by rfl)<|V1 (cn func44) rfl rfl (cloneJ _ h19 (i := 2) rfl (by rw [hokx.lc]; omega) (by rw [hokx.lc]; omega)) ?_
 rintro _ w20 ⟨rC, vC, rfl, hrC, h20⟩
 refine ⟨_, rfl, ?_⟩
 obtain ⟨AC, cC, rfl, hcC⟩ := hrC.val
 refine J0<|H2<|Z2 hx 25 (by rfl) (fun w_ => R2 (vs := [(0, Vi x.id), (1, Vi x.ep), (2, Vi x.ph), (3, Vi x.ft), (4, Vi x.cd), (5, .slice AC x.cs.length cC)]) (cells := #[Vi x.id, Vi x.ep, Vi x.ph, Vi x.ft, Vi x.cd, .slice AC x.cs.length cC, .slice none 0 0]) rfl (by kernel_rfl)) rfl<|F3 27 ((h20.drop 1).drop 0) (by rfl) ?_
 refine F4 h20 1 rfl rfl rfl inf54 rfl rfl rfl ?_
 intro  w21 h21
 try simp only [ZZ] at h21
 refine J0<|H2<|H3 (.inl ⟨27, rfl, by kernel_rfl⟩) (by kernel_rfl)<|H0 (N0 (N0 ?_))
 replace h21 := St.swap2 h21
 have hN0 := h21.nilRes
 replace hN0 : St W F ([] :: [(b7, .cells #[Vi x.id, Vi x.ep, Vi x.ph, Vi x.ft, Vi x.cd, .slice AC x.cs.length cC, .slice none 0 0] 54 (0, 0))] :: rC :: jB x (qs.getD k 0) bC bT m1 m2 A B cap cap2 ps zc zt :: cB x.cs bC zc fc :: tB ps bT zt ft :: [(m1, mobj l1)] :: [(m2, mobj l2)] :: (tm ++ (kB b key A0 qs.length cap0 :: rP :: (rj.set k [] ++ ([(b4, .cells #[Vi 0, Vi 0, Vi 0, Vi 0, Vi 0, .slice none 0 0, .slice none 0 0] 54 (0, 0))] :: cs))))) w21 := hN0
 refine L0<|H1 hN0 [3] 4 rfl<|I0 (R0 (n := (ps.length : Int)) (Y0 underlying80 rfl rfl) rfl) rfl<|C0 1 rfl<|Wj<|B3 (σ := Nat × Res × Value) (fun q_ => [(0, pz b), (4, pz b4), (6, pz (qs.getD k 0)), (7, pz b7), (46, vT ps bT zt), (47, .int .i64 (ps.length : Int)), (48, .int .i64 (q_.1 : Int))]) (fun q_ w => q_.1 ≤ ps.length ∧ Row 3 Vi q_.2.1 q_.2.2 ((votesM x).take q_.1) ∧ St W F (q_.2.1 :: [(b7, .cells #[Vi x.id, Vi x.ep, Vi x.ph, Vi x.ft, Vi x.cd, .slice AC x.cs.length cC, q_.2.2] 54 (0, 0))] :: rC :: jB x (qs.getD k 0) bC bT m1 m2 A B cap cap2 ps zc zt :: cB x.cs bC zc fc :: tB ps bT zt ft :: [(m1, mobj l1)] :: [(m2, mobj l2)] :: (tm ++ (kB b key A0 qs.length cap0 :: rP :: (rj.set k [] ++ ([(b4, .cells #[Vi 0, Vi 0, Vi 0, Vi 0, Vi 0, .slice none 0 0, .slice none 0 0] 54 (0, 0))] :: cs))))) w) (fun q_ => ps.length - q_.1) (⟨0, [], .slice none 0 0⟩) (⟨Nat.zero_le _, Row.nil _ _, hN0⟩) ?_
 rintro ⟨i, r2, v2⟩ w22 ⟨hi, hro, hL⟩
 try dsimp only at hi hro hL
 refine W2 [(0, pz b), (4, pz b4), (6, pz (qs.getD k 0)), (7, pz b7), (46, vT ps bT zt), (47, .int .i64 (ps.length : Int)), (48, .int .i64 (i : Int))] ?_
 have hvl := votes_len x
 have htl : ((votesM x).take i).length = i := by rw [List.length_take]; omega
 obtain ⟨A3_, c3_, rfl, hc3_⟩ := hro.val
 refine Wi<|C0 1 rfl<|Wb<|Z0 rfl (fun c23 => ?_) (fun c23 => ?_)
 ·try simp only [DD] at c23
  refine U0 (H0 (N0 (M1 (N0 ?_))))
  have hi3 : i < x.ts.length := by omega
  rcases hts : x.ts.getD i none with _ | t
  ·obtain ⟨hp, hm1, hm2⟩ := hO.ta.no i hi3 hts
   refine L0<|I0 (W0 underlying80 inf97 rfl rfl (n := i) rfl (by omega)) rfl<|I0 (X1 (u := .pointer none) (I2 (none : Option Nat) hL 5 rfl (T3 (E := 97) (f := pv) (b := bT) (fz := ft) (xs := ps) (zs := zt) rfl hO.ft) (n := i) (by omega) underlying97 rfl rfl) (by rw [hp]; rfl)) rfl<|C0 1 rfl<|We<|C0 1 rfl<|Wh<|C0 1 rfl<|I0 (U3 underlying97 rfl rfl) rfl<|Wa<|E1 rfl (rfl)<|U0<|H0<|L0<|H1 hL [1] 3 rfl<|X2 (vs := (([-1] : List Int)).map Vi) hL rfl underlying33 inf3 rfl rfl rfl rfl rfl fun lit59 w24 h24=>I3 (ys := ([-1] : List Int)) 1 h24 rfl rfl rfl rfl underlying33 underlying33 (.inr ⟨_, rfl⟩) inf3 rfl hro (Src.lit h24 0 rfl rfl rfl) rfl rfl (by first | omega | (simp [htl]; done) | (simp [htl]; omega)) (by first | omega | (simp [htl]; done) | (simp [htl]; omega)) ?_
   intro r25 v25 w26 hr25 h26
   simp only [lz, ls] at h26
   replace h26 := h26.drop 0
   simp only [ez, es'] at h26
   obtain ⟨Aq25, cq25, rfl, hcq25⟩ := hr25.val
   refine C0 1 rfl<|O3 h26 1 rfl rfl rfl inf33 rfl rfl ?_
   intro  w27 h27
   try simp only [ZZ] at h27
   refine J0<|N1<|H0<|L0<|I0 (V0 rfl rfl (by omega)) rfl<|C0 1 rfl<|J0 ?_
   have e9 := votes_no hi3 hts
   have hr9 := hr25
   rw [← e9] at hr9 h27
   exact F1 (⟨i + 1, r25, (.slice Aq25 _ cq25)⟩ : Nat × Res × Value) (by show ps.length - (i + 1) < ps.length - i; omega) ⟨rfl, rfl, rfl, rfl, rfl, rfl, rfl, trivial⟩ ⟨by show i + 1 ≤ _; omega, hr9, h27⟩
  obtain ⟨bt, q1, q2, hp, hm1, hm2, mv, mc, lv, lc, hTR⟩ := hO.ta.ye i t hts
  refine L0<|I0 (W0 underlying80 inf97 rfl rfl (n := i) rfl (by omega)) rfl<|I0 (X1 (u := pz bt) (I2 (none : Option Nat) hL 5 rfl (T3 (E := 97) (f := pv) (b := bT) (fz := ft) (xs := ps) (zs := zt) rfl hO.ft) (n := i) (by omega) underlying97 rfl rfl) (by rw [hp]; rfl)) rfl<|C0 1 rfl<|We<|C0 1 rfl<|Wh<|C0 1 rfl<|I0 (U3 underlying97 rfl rfl) rfl<|Wa<|J1 rfl (rfl)<|L0<|C0 1 rfl<|C1 (cn func45) rfl rfl (Tal.state_c _ hL (TR.at2 hTR (at8 hm1) (at8 hm2) (by omega))) fun w28 h28 =>C0 1 rfl<|Wf<|H1 h28 [1] 3 rfl<|X2 (vs := (([t.state] : List Int)).map Vi) h28 rfl underlying33 inf3 rfl rfl rfl rfl rfl fun lit59 w29 h29=>I3 (ys := ([t.state] : List Int)) 1 h29 rfl rfl rfl rfl underlying33 underlying33 (.inr ⟨_, rfl⟩) inf3 rfl hro (Src.lit h29 0 rfl rfl rfl) rfl rfl (by first | omega | (simp [htl]; done) | (simp [htl]; omega)) (by first | omega | (simp [htl]; done) | (simp [htl]; omega)) ?_
  intro r30 v30 w31 hr30 h31
  simp only [lz, ls] at h31
  replace h31 := h31.drop 0
  simp only [ez, es'] at h31
  obtain ⟨Aq30, cq30, rfl, hcq30⟩ := hr30.val
  refine C0 1 rfl<|O3 h31 1 rfl rfl rfl inf33 rfl rfl ?_
  intro  w32 h32
  try simp only [ZZ] at h32
  refine J0<|N1<|H0<|L0<|I0 (V0 rfl rfl (by omega)) rfl<|C0 1 rfl<|J0 ?_
  have e9 := votes_ye hi3 hts
  have hr9 := hr30
  rw [← e9] at hr9 h32
  exact F1 (⟨i + 1, r30, (.slice Aq30 _ cq30)⟩ : Nat × Res × Value) (by show ps.length - (i + 1) < ps.length - i; omega) ⟨rfl, rfl, rfl, rfl, rfl, rfl, rfl, trivial⟩ ⟨by show i + 1 ≤ _; omega, hr9, h32⟩
 try simp only [DD] at c23
 refine U1 (B2 (WX.cut (E2 (H0 (N0 ?_)))))
 obtain rfl : i = ps.length := by omega
 have hvn : (votesM x).take ps.length = votesM x := List.take_of_length_le (by rw [votes_len, hlp]; exact Nat.le_refl _)
 rw [hvn] at hro hL
 obtain ⟨G1, hG1, hf1, hL⟩ := hL.freeze (i := 0) rfl
 obtain ⟨G2, hG2, hf2, hL⟩ := hL.freeze (i := 0) rfl
 obtain ⟨G3, hG3, hf3, hL⟩ := hL.freeze (i := 0) rfl
 have hle3 := Le.trans hG1 (Le.trans hG2 hG3)
 have hrd1 := (Row.read hro rfl hf1).mono (Le.trans hG2 hG3)
 have hrd2 := Row.read hrC rfl hf3
 have hfz7 := hG3 _ _ (hf2 _ List.mem_cons_self)
 replace hO := hO.mono hle3
 obtain ⟨r9, hJ9, hS9⟩ := JobR.close (x := x) (show St W _ (jB (x) (qs.getD k 0) bC bT m1 m2 A B cap cap2 ps zc zt :: cB x.cs bC zc fc :: tB ps bT zt ft :: [(m1, mobj l1)] :: [(m2, mobj l2)] :: (tm ++ _)) _ from hL) ⟨hO.nd, hO.st, hO.fc, hO.ft, hO.ta, hO.r1, hO.r2⟩
 replace hS9 := give2 hS9 (by omega)
 obtain ⟨r7, hC7, hS7⟩ := CtlR.close hS9 hr ((hK.mono hle3).set hkl hJ9)
 rw [set_same (d := x) hkl (by rw [gD, hxk]; rfl)] at hC7
 refine L0<|I0 (R4 hS7 hfz7 underlying54 rfl inf54 rfl rfl) rfl<|F4 hS7 1 rfl rfl rfl inf54 rfl rfl rfl ?_
 intro  w33 h33
 try simp only [ZZ] at h33
 refine C0 1 rfl<|Wg<|retB rfl (ResOk.blk h33 1 rfl underlying54 rfl inf54 rfl rfl) (show lk _ _ = _ from rfl) ⟨G3, r7, _, _, _, _, hle3, rfl, hrd2, hrd1, hC7, h33.drop 1⟩
theorem inf68 : Inf prog 68 (.agg #[.int .i64 0, .int .i64 0, .int .i64 0, .int .i64 0, .slice none 0 0]) 5 56 := by unfold Inf; kernel_rfl
theorem inf115 : Inf prog 115 (.agg #[.int .i64 0, .int .i64 0]) 2 16 := by unfold Inf; kernel_rfl
theorem fld68_0 : fldB prog 68 0 0 = true := by kernel_rfl
theorem fld68_1 : fldB prog 68 1 1 = true := by kernel_rfl
structure ES where
 s : S
 A : Option Addr
 cap : Nat
def ES.c (e : ES) : List Value := e.s.cs e.A e.cap
theorem rd_none' {α : Type} {d : Kd α} {F : Snap} {xs : List α} (h : RdS d F none xs) : xs = [] := by
 rcases h with h | ⟨ad, hA, _⟩
 ·exact h
 cases hA
theorem RowM.some {α : Type} {E : TypeId} {m : Nat} {f : α → List Value} {r : Res} {A : Option Addr} {n cap : Nat} {xs : List α} (hr : RowM E m f r (.slice A n cap) xs) (h0 : 0 < xs.length) : ∃ ad, A = .some ad := by
 rcases hr with ⟨_, _, hl, _⟩ | ⟨b, cap', arr, fz, _, hv', _⟩
 ·omega
 injection hv' with h1
 exact ⟨_, h1⟩
theorem RowM.cellAt {α : Type} {E : TypeId} {m : Nat} {f : α → List Value} {W w : World} {F : Snap} {cs : List Res} {r : Res} {ad : Addr} {n cap i j k : Nat} {xs : List α} {x : α} {u : Value} (hf : ∀ x, (f x).length = m) (hr : RowM E m f r (.slice (.some ad) n cap) xs) (h : St W F cs w) (hi : cs[i]? = .some r) (hn : xs[j]? = .some x) (hk : (f x)[k]? = .some u) : w.cell? ((ad.add (j * m)).add k) = .some u := by
 obtain ⟨G, hG, hg, hS⟩ := h.freeze hi
 have hR := RowM.read (f := f) hf hr rfl hg
 obtain ⟨ad', c, hA, hc, hcell⟩ := hR.at_ hn
 injection hA with hA
 subst hA
 have hc : c = f x := hc
 subst hc
 rw [add_add]
 exact hS.cell (hcell k u hk)
theorem ES.frz {G : Snap} {A : Option Addr} {es : List ES} {ss : List S} (h : RdS (Kd.rows 5 ES.c (fun _ => rfl)) G A es) (hm : es.map (·.s) = ss) (he : ∀ e ∈ es, RdS KE G e.A e.s.af) : RdS KS G A ss := by
 have := RdS.unpick (d := KS) (er := ES.s) h (fun e h2 => ⟨e.A, e.cap, rfl, he e h2⟩)
 rwa [hm] at this
theorem wide_c (w : World) {A : Option Addr} {cap : Nat} (s : S) (h : St W F cs w) (h1 : 1 ≤ s.rk ∧ s.rk ≤ 32) (h2 : 1 ≤ s.per ∧ s.per ≤ 256) : Calls prog 53 #[.agg #[Vi s.rk, Vi s.per, Vi s.ds, Vi s.lim, .slice A s.af.length cap]] w fun e w' => e = .returned (.bool (decide (256 < s.rk * s.per))) ∧ St W F cs w'  := by
 refine enter (args := [.agg #[Vi s.rk, Vi s.per, Vi s.ds, Vi s.lim, .slice A s.af.length cap]]) func53 rfl rfl rfl ?_
 have hm1 : 0 ≤ s.rk * s.per := Int.mul_nonneg (by omega) (by omega)
 have hm2 : s.rk * s.per ≤ 32 * 256 := Int.mul_le_mul h1.2 h2.2 (by omega) (by omega)
 refine Wi<|J3 rfl h rfl fun b1 w1 h1=>C0 1 rfl<|We<|H1 h1 [0, 0] 4 rfl<|I0 (B4 rfl rfl (by omega)) rfl<|C0 2 rfl<|Wg<|ret1 rfl rfl ⟨rfl, h1.drop 0⟩
theorem idxS_c (w : World) {A : Option Addr} {cap : Nat} {es : List S} (g : FuncId) (pr : S → Bool) (hg : B.Can prog g) (h : St W F cs w) (hR : RdS KS F A es) (hn : es.length ≤ 100000) (hcl : ∀ w e A' cap', e ∈ es → St W F cs w → Calls prog g #[.agg #[Vi e.rk, Vi e.per, Vi e.ds, Vi e.lim, .slice A' e.af.length cap']] w fun r w' => r = .returned (.bool (pr e)) ∧ St W F cs w') : Calls prog 98 #[.slice A es.length cap, .func (.func g) #[] #[]] w fun e w' => (∃ z : Int, e = .returned (Vi z) ∧ decide (0 ≤ z) = es.any pr) ∧ St W F cs w'  := by
 refine enter (args := [.slice A es.length cap, .func (.func g) #[] #[]]) func98 rfl rfl rfl<|Wi<|C0 1 rfl<|Wh<|C0 1 rfl<|I0 (Y0 underlying34 rfl rfl) rfl<|C0 1 rfl<|Wj<|B3 (σ := Nat) (fun q_ => [(0, .slice A es.length cap), (1, .func (.func g) #[] #[]), (7, .int .i64 (es.length : Int)), (8, .int .i64 (q_ : Int))]) (fun q_ w => q_ ≤ es.length ∧ (∀ j, j < q_ → pr (es.getD j S0) = false) ∧ St W F cs w) (fun q_ => es.length - q_) (0) (⟨Nat.zero_le _, fun j hj => absurd hj (Nat.not_lt_zero _), h⟩) ?_
 rintro i w1 ⟨hi, hno, hL⟩
 try dsimp only at hi hno hL
 refine W2 [(0, .slice A es.length cap), (1, .func (.func g) #[] #[]), (7, .int .i64 (es.length : Int)), (8, .int .i64 (i : Int))]<|Wi<|C0 1 rfl<|Wb<|Z0 rfl (fun c2 => ?_) (fun c2 => ?_)
 ·try simp only [DD] at c2
  refine U0<|H0<|N0<|M1<|Wi<|C0 2 rfl<|J0 (H0 (N0 ?_))
  have hi2 : i < es.length := by omega
  obtain ⟨ad, A1, cap1, rfl, hE1, hcell⟩ := Dg.stepAt hR hi2
  refine L0<|C0 3 rfl<|I0 (N2 underlying34 inf68 rfl rfl (n := i) rfl (by omega)) rfl<|I0 (Dg.Runs.stepA hL hcell underlying68 rfl inf68 rfl) rfl<|S3 hg rfl rfl rfl (hcl _ (es.getD i S0) _ _ (Dg.memD S0 (by omega)) hL) ?_
  rintro _ w3 ⟨rfl, h3⟩
  refine ⟨_, rfl,Wa<|Z0 rfl (fun c4 => ?_) (fun c4 => ?_)⟩
  ·try simp only [DD] at c4
   refine Wi<|C0 2 rfl<|Wg<|ret1 rfl rfl ⟨⟨_, rfl, by rw [dA (Int.natCast_nonneg i), Dg.any_t (d := S0) (by omega) c4]⟩, h3⟩
  try simp only [DD] at c4
  refine U0<|N1<|H0<|L0<|I0 (V0 rfl rfl (by omega)) rfl<|C0 1 rfl<|J0<|F1 (i + 1) (by omega) ⟨rfl, rfl, rfl, rfl, trivial⟩ ⟨by omega, fun j hj => (by
   by_cases e : j = i
   ·subst e; exact c4
   exact hno j (by omega)), h3⟩
 try simp only [DD] at c2
 refine U1<|B2<|WX.cut<|E2<|H0<|Wi<|C0 1 rfl<|Wg<|ret1 rfl rfl ⟨⟨_, rfl, by rw [Dg.any_f (d := S0) (fun j hj => hno j (by omega))]; rfl⟩, hL⟩
theorem cfS_c (w : World) {A : Option Addr} {cap : Nat} {es : List S} (g : FuncId) (pr : S → Bool) (hg : B.Can prog g) (h : St W F cs w) (hR : RdS KS F A es) (hn : es.length ≤ 100000) (hcl : ∀ w e A' cap', e ∈ es → St W F cs w → Calls prog g #[.agg #[Vi e.rk, Vi e.per, Vi e.ds, Vi e.lim, .slice A' e.af.length cap']] w fun r w' => r = .returned (.bool (pr e)) ∧ St W F cs w') : Calls prog 56 #[.slice A es.length cap, .func (.func g) #[] #[]] w fun e w' => e = .returned (.bool (es.any pr)) ∧ St W F cs w'  := by
 refine enter (args := [.slice A es.length cap, .func (.func g) #[] #[]]) func56 rfl rfl rfl<|Wi<|C0 1 rfl<|We<|C0 2 rfl<|V1 (cn func98) rfl rfl (idxS_c _ g pr hg h hR hn hcl) ?_
 rintro _ w1 ⟨⟨k, rfl, hk⟩, h1⟩
 refine ⟨_, rfl,C0 2 rfl<|Wg<|ret1 rfl rfl ⟨by rw [← hk], h1⟩⟩
theorem cloneSt_c (w : World) {A : Option Addr} {cap : Nat} {xs : List S} (h : St W F cs w) (hR : RdS KS F A xs) (hn : xs.length ≤ 100000) : Calls prog 57 #[.slice A xs.length cap] w fun e w' => ∃ r v es, e = .returned v ∧ RowM 68 5 ES.c r v es ∧ es.map (·.s) = xs ∧ (∀ e ∈ es, RdS KE F e.A e.s.af) ∧ St W F (r :: cs) w'  := by
 refine enter (args := [.slice A xs.length cap]) func57 rfl rfl rfl ?_
 obtain ⟨es, hes, hR1, hP1⟩ := RdS.pick (d := KS) (f := ES.c) (er := ES.s) (P := fun e => RdS KE F e.A e.s.af) (fun _ => rfl) (fun y c ⟨A, cap, hc, hp⟩ => ⟨⟨y, A, cap⟩, rfl, hc, hp⟩) hR
 have hel : es.length = xs.length := by rw [← hes, List.length_map]
 refine Wi<|C0 1 rfl<|Wh<|C0 1 rfl<|I0 (H6 underlying34 rfl rfl) rfl<|Wa<|Z0 rfl (fun c1 => ?_) (fun c1 => ?_)
 ·try simp only [DD] at c1
  refine Wi<|C0 1 rfl<|J0 (H0 (O1 ?_))
  obtain rfl : A = none := Option.isNone_iff_eq_none.1 c1
  obtain rfl := rd_none' hR
  exact ret1 rfl rfl ⟨[], _, [], rfl, RowM.nil _ _ _, rfl, (fun e he => by cases he), h.nilRes⟩
 try simp only [DD] at c1
 refine Wk<|V4 (vs := []) h rfl underlying34 (inf68.elem rfl rfl) rfl rfl rfl (by decide) ?_
 intro o w2 h2
 try simp only [ZZ] at h2
 have hr0 : RowM 68 5 ES.c _ _ ([] : List ES) := RowM.lit0 (b := o)
 refine C0 1 rfl<|WL.appM (f := ES.c) (ys := es) 0 h2 rfl rfl rfl rfl underlying34 underlying34 (.inr ⟨_, rfl⟩) (inf68.elem rfl rfl) hr0 (Src.rdM hR1 h2 hel.symm (fun _ => rfl)) rfl (by first | omega | (simp; done) | (simp; omega) | (simp only [List.length_nil]; omega)) (by first | omega | (simp; done) | (simp; omega) | (simp only [List.length_nil]; omega)) ?_
 intro r3 v3 w4 hr3 h4
 simp only [lz, ls] at h4
 obtain ⟨A3, cap3, rfl, hcap3⟩ := hr3.val
 refine C0 1 rfl<|Wg<|ret1 rfl rfl ⟨_, _, _, rfl, hr3, hes, hP1, h4⟩
theorem cloneEd_c (w : World) {A : Option Addr} {cap : Nat} {xs : List E} (h : St W F cs w) (hR : RdS KE F A xs) (hn : xs.length ≤ 100000) : Calls prog 58 #[.slice A xs.length cap] w fun e w' => ∃ G A' cap', Le F G ∧ e = .returned (.slice A' xs.length cap') ∧ RdS KE G A' xs ∧ St W G cs w'  := by
 refine enter (args := [.slice A xs.length cap]) func58 rfl rfl rfl<|Wi<|C0 1 rfl<|Wh<|C0 1 rfl<|I0 (H6 underlying66 rfl rfl) rfl<|Wa<|Z0 rfl (fun c1 => ?_) (fun c1 => ?_)
 ·try simp only [DD] at c1
  refine Wi<|C0 1 rfl<|J0 (H0 (O1 ?_))
  obtain rfl : A = none := Option.isNone_iff_eq_none.1 c1
  obtain rfl := rd_none' hR
  exact ret1 rfl rfl ⟨F, none, 0, Le.refl F, rfl, .inl rfl, h⟩
 try simp only [DD] at c1
 refine Wk<|V4 (vs := []) h rfl underlying66 (inf115.elem rfl rfl) rfl rfl rfl (by decide) ?_
 intro o w2 h2
 try simp only [ZZ] at h2
 have hr0 : RowM 115 2 E.cs _ _ ([] : List E) := RowM.lit0 (b := o)
 refine C0 1 rfl<|WL.appM (f := E.cs) (ys := xs) 0 h2 rfl rfl rfl rfl underlying66 underlying66 (.inr ⟨_, rfl⟩) (inf115.elem rfl rfl) hr0 (Src.rdM hR h2 rfl (fun _ => rfl)) rfl (by first | omega | (simp; done) | (simp; omega) | (simp only [List.length_nil]; omega)) (by first | omega | (simp; done) | (simp; omega) | (simp only [List.length_nil]; omega)) ?_
 intro r3 v3 w4 hr3 h4
 simp only [lz, ls] at h4
 obtain ⟨A3, cap3, rfl, hcap3⟩ := hr3.val
 refine C0 1 rfl<|J0 (H0 (O1 ?_))
 obtain ⟨G, hG, hf, hS⟩ := h4.freeze (i := 0) rfl
 exact ret1 rfl rfl ⟨G, _, _, hG, rfl, RowM.read (f := E.cs) (m := 2) (fun _ => rfl) hr3 rfl hf, hS⟩
theorem nodes_c (w : World) {A : Option Addr} {cap : Nat} {ns : List Int} (h : St W F cs w) (hR : RdS (Kd.one Vi) F A ns) (hn : ns.length ≤ 100000) : Calls prog 55 #[.slice A ns.length cap] w fun e w' => e = .returned (.bool (decide (okN ns))) ∧ St W F cs w'  := by
 refine enter (args := [.slice A ns.length cap]) func55 rfl rfl rfl<|Wi<|C0 1 rfl<|J0 (H0 (N0 ?_))
 by_cases hok : okN ns
 ·refine L0<|C0 1 rfl<|V1 (cn func97) rfl rfl (Tal.new_c _ h hR hn hok.2 hok.1) ?_
  rintro _ w1 ⟨G, bt, mv, mc, lv, lc, rfl, hG, h1, hT⟩
  refine ⟨_, rfl,I0 (U3 underlying97 rfl rfl) rfl<|C0 1 rfl<|Wg<|ret1 rfl rfl ⟨?_, ((h1.weak hG).drop 0).drop 0⟩⟩
  rw [dA hok]; rfl
 refine L0<|C0 1 rfl<|C1 (cn func97) rfl rfl (Tal.new_no _ h hR hn hok) fun w2 h2 =>I0 (U3 underlying97 rfl rfl) rfl<|C0 1 rfl<|Wg<|ret1 rfl rfl ⟨?_, h2⟩
 rw [dN hok]; rfl
end Ct
end
end Go.Proofs.YtifdpllfbaogcaaGreat
