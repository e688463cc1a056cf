/- Walks of the reference of chapter 01: digests, tags, texts. -/
import Derived.Test.YtbkfjedecepfoaaMSha10
namespace Go.Proofs.Ytbkfjedecepfoaa
open Go Go.RowKit B
set_option linter.unusedVariables false
set_option linter.unusedSimpArgs false
namespace Sha
open ShaM (rotr Wd D8)

theorem can61 : B.Can Try.prog 61 := ⟨_, Try.func61, by kernel_rfl, rfl⟩   -- roundhouse/roundhouseref01.Of
theorem can62 : B.Can Try.prog 62 := ⟨_, Try.func62, by kernel_rfl, rfl⟩   -- roundhouse/roundhouseref01.turned
theorem can70 : B.Can Try.prog 70 := ⟨_, Try.func70, by kernel_rfl, rfl⟩   -- roundhouse/roundhouseref01.padded
theorem can71 : B.Can Try.prog 71 := ⟨_, Try.func71, by kernel_rfl, rfl⟩   -- roundhouse/roundhouseref01.block
theorem mk_app (a b : List UInt8) : (⟨(a ++ b).toArray⟩ : ByteArray) = ⟨a.toArray⟩ ++ ⟨b.toArray⟩ := by
  apply string_ext; rw [dl_app]
theorem cell8 {xs : List UInt8} {j : Nat} {b : UInt8} (hb : xs[j]? = some b) : ((xs.map V8).toArray)[0 + j]? = some (.int .u8 (b.toNat : Int)) := by simp [hb]
set_option maxRecDepth 100000 in
set_option maxHeartbeats 4000000 in
theorem rof_c {W : World} {F : Snap} {cs : List Res} (w : World) (s : ByteArray) (h : St W F cs w) (hs : s.size ≤ 1000000) : Calls Try.prog 61 #[.string s] w fun e w' => e = .returned (.string ⟨(ShaM.of s.data.toList).toArray⟩) ∧ St W F cs w'  := by
  refine enter (P := Try.prog) (args := [.string s]) Try.func61 rfl rfl rfl ?_
  obtain ⟨S, hS⟩ : ∃ S, S = s.data.toList := ⟨_, rfl⟩
  have hSl : S.length = s.size := by rw [hS]; simp
  have hp : ShaM.pads S.length = (119 - S.length % 64) % 64 := rfl
  have hpc := @rpad_c
  rw [← hS]
  refine WC.seq ?_
  refine WC.reg ?_
  refine WL.v (Runs.assign rfl) rfl ?_
  refine WL.nil ?_
  refine WN.thn ?_
  refine WC.seq ?_
  refine WC.reg ?_
  refine WL.lit (vs := (ShaM.first.list).map VI) h rfl Try.underlying22 inf3 rfl rfl rfl rfl rfl ?_
  intro lit8 w1 h1
  refine WL.v (Runs.assign rfl) rfl ?_
  refine WL.nil ?_
  refine WN.thn ?_
  refine WC.seq ?_
  refine WC.reg ?_
  obtain ⟨G0, hle0, hR0, hS0⟩ := St.litRd (f := VI) (xs := ShaM.first.list) h1
  refine WL.v (Runs.move rfl) rfl ?_
  refine WL.call can70 rfl rfl (hS ▸ rpad_c _ s hS0 (by omega)) ?_
  rintro _ w2 ⟨G3, A3, cap3, hle3, rfl, hc3, hrd3, h2⟩
  refine ⟨_, rfl, ?_⟩
  refine WL.v (Runs.assign rfl) rfl ?_
  refine WL.nil ?_
  refine WN.thn ?_
  refine WC.seq ?_
  refine WC.seq ?_
  refine WC.reg ?_
  have hpl := pad_len S
  have hpp : (ShaM.pad S).length = 64 * ((ShaM.pad S).length / 64) := by rw [pad_len]; omega
  generalize hP : ShaM.pad S = P at *
  refine WL.v (Runs.assign rfl) rfl ?_
  refine WL.nil ?_
  refine WN.thn ?_
  refine WC.block ?_
  refine WC.loop (σ := Nat × Snap × Option Addr × Nat × D8) (fun q_ => [(3, .slice q_.2.2.1 q_.2.2.2.2.list.length q_.2.2.2.1), (4, .slice A3 P.length cap3), (5, .int .i64 ((64 * q_.1 : Nat) : Int))]) (fun q_ w => 64 * q_.1 ≤ P.length ∧ Le G3 q_.2.1 ∧ RdS (Kd.one VI) q_.2.1 q_.2.2.1 q_.2.2.2.2.list ∧ ShaM.blocks (P.length / 64 - q_.1) q_.2.2.2.2 (P.drop (64 * q_.1)) = ShaM.blocks (P.length / 64) ShaM.first P ∧ St W q_.2.1 cs w) (fun q_ => P.length - 64 * q_.1) (⟨0, G3, some ⟨lit8, 0, none⟩, 8, ShaM.first⟩) (by repeat (first | exact trivial | refine ⟨rfl, ?_⟩)) (⟨by omega, Le.refl _, hR0.mono hle3, rfl, h2⟩) ?_
  rintro ⟨k, G, A, cap, dd⟩ w4 ⟨hk, hG, hRd, hB, hL⟩
  try dsimp only at hk hG hRd hB hL
  refine WC.sub (s := [(3, .slice A dd.list.length cap), (4, .slice A3 P.length cap3), (5, .int .i64 ((64 * k : Nat) : Int))]) (by repeat (first | exact trivial | refine ⟨rfl, ?_⟩)) ?_
  have hb1 := (by omega : (64 * k : Nat) ≤ 2000000)
  refine WC.seq ?_
  refine WC.seq ?_
  refine WC.reg ?_
  refine WL.v (Runs.move rfl) rfl ?_
  refine WL.v (Runs.move rfl) rfl ?_
  refine WL.v (Runs.llen Try.underlying22 rfl rfl) rfl ?_
  refine WL.v (Runs.lss rfl rfl) rfl ?_
  refine WL.nil ?_
  refine WN.thn ?_
  refine WC.cond rfl (fun c5 => ?_) (fun c5 => ?_)
  · try simp only [decide_eq_true_eq, decide_eq_false_iff_not, Bool.not_eq_true', Bool.not_eq_false', Bool.and_eq_true, Int.not_lt, Int.not_le] at c5
    first
    | (exfalso; omega)
    | skip
      refine WC.skip ?_
      refine WN.thn ?_
      refine WC.seq ?_
      refine WC.block ?_
      refine WC.reg ?_
      refine WL.v (Runs.move rfl) rfl ?_
      refine WL.v (Runs.move rfl) rfl ?_
      refine WL.v (Runs.move rfl) rfl ?_
      refine WL.v (Runs.move rfl) rfl ?_
      refine WL.v (Runs.addn rfl rfl (by omega)) rfl ?_
      refine WL.v (Runs.lsl_lh Try.underlying22 inf3 rfl rfl rfl (n := 64 * k) (m := 64 * k + 64) (by omega) (by omega) (by omega) (by omega)) rfl ?_
      refine WL.call can71 rfl rfl (by have hb := rblock_c (Ah := A) (Ab := if cap3 = 64 * k then A3 else A3.map (·.add (64 * k))) (caph := cap) (capb := cap3 - 64 * k) (bs := (P.drop (64 * k)).take 64) w4 dd hL hRd ((by simpa [Kd.one] using ((hrd3.mono hG).drop (64 * k) (cap := cap3) (by omega)).take 64)) (by rw [List.length_take, List.length_drop]; omega); rw [show ((P.drop (64 * k)).take 64).length = 64 * k + 64 - 64 * k by rw [List.length_take, List.length_drop]; omega] at hb; simpa using hb) ?_
      rintro _ w6 ⟨G7, A7, cap7, hle7, rfl, hc7, hrd7, h6⟩
      refine ⟨_, rfl, ?_⟩
      refine WL.v (Runs.assign rfl) rfl ?_
      refine WL.nil ?_
      refine WN.blk ?_
      refine WN.thn ?_
      refine WC.reg ?_
      refine WL.v (Runs.move rfl) rfl ?_
      refine WL.v (Runs.addn rfl rfl (by omega)) rfl ?_
      refine WL.v (Runs.assign rfl) rfl ?_
      refine WL.nil ?_
      refine WN.again (⟨k + 1, G7, A7, cap7, ShaM.block dd ((P.drop (64 * k)).take 64)⟩ : Nat × Snap × Option Addr × Nat × D8) (by show P.length - 64 * (k + 1) < P.length - 64 * k; omega) ⟨rfl, rfl, ?_, trivial⟩ ⟨by show 64 * (k + 1) ≤ _; omega, Le.trans hG hle7, hrd7, ?_, h6⟩
      · show some (Value.int .i64 (((64 * k : Nat) : Int) + 64)) = some (Value.int .i64 ((64 * (k + 1) : Nat) : Int))
        rw [show ((64 * k : Nat) : Int) + 64 = ((64 * (k + 1) : Nat) : Int) by omega]
      · show ShaM.blocks (P.length / 64 - (k + 1)) (ShaM.block dd ((P.drop (64 * k)).take 64)) (P.drop (64 * (k + 1))) = _
        rw [← hB, show P.length / 64 - k = (P.length / 64 - (k + 1)) + 1 by omega, ← ShaR.bl_step, List.drop_drop, show 64 * (k + 1) = 64 * k + 64 by omega]
  · try simp only [decide_eq_true_eq, decide_eq_false_iff_not, Bool.not_eq_true', Bool.not_eq_false', Bool.and_eq_true, Int.not_lt, Int.not_le] at c5
    first
    | (exfalso; omega)
    | skip
      refine WC.exit ?_
      refine WX.thn ?_
      refine WX.cut ?_
      refine WX.hit ?_
      refine WN.thn ?_
      refine WC.seq ?_
      refine WC.reg ?_
      obtain ⟨ax, rfl, hh⟩ := rd1 hRd (by rw [list_len]; omega)
      have hD : ShaM.blocks (P.length / 64) ShaM.first P = dd := by rw [← hB, show P.length / 64 - k = 0 by omega]; rfl
      refine WL.v (Runs.assign rfl) rfl ?_
      refine WL.nil ?_
      refine WN.thn ?_
      refine WC.seq ?_
      refine WC.seq ?_
      refine WC.reg ?_
      refine WL.v (Runs.assign rfl) rfl ?_
      refine WL.nil ?_
      refine WN.thn ?_
      refine WC.block ?_
      refine WC.loop (σ := Nat) (fun q_ => [(3, .slice (some ax) dd.list.length cap), (6, .string ⟨((dd.list.take q_).flatMap ShaM.out4).toArray⟩), (7, .int .i64 (q_ : Int))]) (fun q_ w => q_ ≤ 8 ∧ St W G cs w) (fun q_ => 8 - q_) (0) (by repeat (first | exact trivial | refine ⟨rfl, ?_⟩)) (⟨by omega, hL⟩) ?_
      rintro i w8 ⟨hi, hL⟩
      try dsimp only at hi hL
      refine WC.sub (s := [(3, .slice (some ax) dd.list.length cap), (6, .string ⟨((dd.list.take i).flatMap ShaM.out4).toArray⟩), (7, .int .i64 (i : Int))]) (by repeat (first | exact trivial | refine ⟨rfl, ?_⟩)) ?_
      have hx := (dd.list.getD i 0).isLt
      have hlen : ((dd.list.take i).flatMap ShaM.out4).length = 4 * i := by rw [flat_len, List.length_take, list_len]; omega
      refine WC.seq ?_
      refine WC.seq ?_
      refine WC.reg ?_
      refine WL.v (Runs.move rfl) rfl ?_
      refine WL.v (Runs.lss rfl rfl) rfl ?_
      refine WL.nil ?_
      refine WN.thn ?_
      refine WC.cond rfl (fun c9 => ?_) (fun c9 => ?_)
      · try simp only [decide_eq_true_eq, decide_eq_false_iff_not, Bool.not_eq_true', Bool.not_eq_false', Bool.and_eq_true, Int.not_lt, Int.not_le] at c9
        first
        | (exfalso; omega)
        | skip
          refine WC.skip ?_
          refine WN.thn ?_
          refine WC.seq ?_
          refine WC.block ?_
          refine WC.dreg (fun w_ => St W _ _ w_) (fun k => Nat.beq k 27 || Nat.beq k 28) mixed (by kernel_rfl) (hL.drew) (fun hx => ?_)
          refine WM.pure hx (by rfl) rfl (fun w_ => Runs.move rfl) rfl ?_
          refine WM.pure hx (by rfl) rfl (fun w_ => Runs.move rfl) rfl ?_
          refine WM.pure hx (by rfl) rfl (fun w_ => Runs.move rfl) rfl ?_
          refine WM.pure hx (by rfl) rfl (fun w_ => Runs.lidxN Try.underlying22 inf3 rfl rfl (n := i) (by omega) (by rw [list_len]; omega)) rfl ?_
          refine WM.val 14 hx (by rfl) rfl (by kernel_rfl) (fun w_ hC_ => Runs.loadR (f := VI) (0 : Wd) hC_ hh (n := i) (by rw [list_len]; omega) Try.underlying3 rfl rfl) rfl ?_
          refine WM.pure hx (by rfl) rfl (fun w_ => Runs.quon rfl rfl (by omega) (by omega)) rfl ?_
          refine WM.pure hx (by rfl) rfl (fun w_ => Runs.intT (n := ((UInt8.ofNat ((dd.list.getD i 0) >>> 24).toNat).toNat : Int)) (Runs.ito8 Try.underlying3 Try.underlying5 rfl (m := (dd.list.getD i 0).toNat / 16777216) (by first | rfl | omega | (simp; done))) (ShaR.o24 _)) rfl ?_
          refine WM.pure hx (by rfl) rfl (fun w_ => Runs.move rfl) rfl ?_
          refine WM.pure hx (by rfl) rfl (fun w_ => Runs.move rfl) rfl ?_
          refine WM.pure hx (by rfl) rfl (fun w_ => Runs.lidxN Try.underlying22 inf3 rfl rfl (n := i) (by omega) (by rw [list_len]; omega)) rfl ?_
          refine WM.val 14 hx (by rfl) rfl (by kernel_rfl) (fun w_ hC_ => Runs.loadR (f := VI) (0 : Wd) hC_ hh (n := i) (by rw [list_len]; omega) Try.underlying3 rfl rfl) rfl ?_
          refine WM.pure hx (by rfl) rfl (fun w_ => Runs.quon rfl rfl (by omega) (by omega)) rfl ?_
          refine WM.pure hx (by rfl) rfl (fun w_ => Runs.remn rfl rfl (by omega) (by omega)) rfl ?_
          refine WM.pure hx (by rfl) rfl (fun w_ => Runs.intT (n := ((UInt8.ofNat ((dd.list.getD i 0) >>> 16).toNat).toNat : Int)) (Runs.ito8 Try.underlying3 Try.underlying5 rfl (m := (dd.list.getD i 0).toNat / 65536 % 256) (by first | rfl | omega | (simp; done))) (ShaR.o16 _)) rfl ?_
          refine WM.pure hx (by rfl) rfl (fun w_ => Runs.move rfl) rfl ?_
          refine WM.pure hx (by rfl) rfl (fun w_ => Runs.move rfl) rfl ?_
          refine WM.pure hx (by rfl) rfl (fun w_ => Runs.lidxN Try.underlying22 inf3 rfl rfl (n := i) (by omega) (by rw [list_len]; omega)) rfl ?_
          refine WM.val 14 hx (by rfl) rfl (by kernel_rfl) (fun w_ hC_ => Runs.loadR (f := VI) (0 : Wd) hC_ hh (n := i) (by rw [list_len]; omega) Try.underlying3 rfl rfl) rfl ?_
          refine WM.pure hx (by rfl) rfl (fun w_ => Runs.quon rfl rfl (by omega) (by omega)) rfl ?_
          refine WM.pure hx (by rfl) rfl (fun w_ => Runs.remn rfl rfl (by omega) (by omega)) rfl ?_
          refine WM.pure hx (by rfl) rfl (fun w_ => Runs.intT (n := ((UInt8.ofNat ((dd.list.getD i 0) >>> 8).toNat).toNat : Int)) (Runs.ito8 Try.underlying3 Try.underlying5 rfl (m := (dd.list.getD i 0).toNat / 256 % 256) (by first | rfl | omega | (simp; done))) (ShaR.o8 _)) rfl ?_
          refine WM.pure hx (by rfl) rfl (fun w_ => Runs.move rfl) rfl ?_
          refine WM.pure hx (by rfl) rfl (fun w_ => Runs.move rfl) rfl ?_
          refine WM.pure hx (by rfl) rfl (fun w_ => Runs.lidxN Try.underlying22 inf3 rfl rfl (n := i) (by omega) (by rw [list_len]; omega)) rfl ?_
          refine WM.val 14 hx (by rfl) rfl (by kernel_rfl) (fun w_ hC_ => Runs.loadR (f := VI) (0 : Wd) hC_ hh (n := i) (by rw [list_len]; omega) Try.underlying3 rfl rfl) rfl ?_
          refine WM.pure hx (by rfl) rfl (fun w_ => Runs.remn rfl rfl (by omega) (by omega)) rfl ?_
          refine WM.pure hx (by rfl) rfl (fun w_ => Runs.intT (n := ((UInt8.ofNat (dd.list.getD i 0).toNat).toNat : Int)) (Runs.ito8 Try.underlying3 Try.underlying5 rfl (m := (dd.list.getD i 0).toNat % 256) (by first | rfl | omega | (simp; done))) (ShaR.o0 _)) rfl ?_
          refine WM.toD hx rfl (by decide) (by kernel_rfl) ?_
          intro w10 h10
          refine WD.op (by rfl) rfl (by kernel_rfl) ?_
          refine WL.lit (vs := (ShaM.out4 (dd.list.getD i 0)).map V8) h10 rfl Try.underlying74 inf5 rfl rfl rfl rfl rfl ?_
          intro lit55 w11 h11
          refine WL.nil ?_
          refine WD.next ?_
          refine WD.op (by rfl) rfl (by kernel_rfl) ?_
          refine WL.v (Runs.b2s (bs := ShaM.out4 (dd.list.getD i 0)) Try.underlying74 Try.underlying5 Try.underlying9 rfl (by rfl) (.inr ⟨_, rfl, fun j b hb => by rw [add_mk]; exact h11.ocell (i := 0) rfl (cell8 (xs := ShaM.out4 (dd.list.getD i 0)) hb)⟩)) rfl ?_
          refine WL.nil ?_
          refine WD.next ?_
          refine WD.pure hx (by rfl) (fun w_ => Runs.strT (b := ⟨((dd.list.take (i + 1)).flatMap ShaM.out4).toArray⟩) (Runs.sadd rfl rfl (by rw [size_mk, size_mk, hlen]; show _ + 4 ≤ _; omega)) (by rw [take_flat (by rw [list_len]; omega), mk_app])) rfl ?_
          refine WD.pure hx (by rfl) (fun w_ => Runs.assign rfl) rfl ?_
          refine WD.fin rfl (by kernel_rfl) ?_
          refine WN.blk ?_
          refine WN.thn ?_
          refine WC.reg ?_
          refine WL.v (Runs.move rfl) rfl ?_
          refine WL.v (Runs.addn rfl rfl (by omega)) rfl ?_
          refine WL.v (Runs.assign rfl) rfl ?_
          refine WL.nil ?_
          exact WN.again (i + 1) (by omega) ⟨rfl, rfl, rfl, trivial⟩ ⟨by omega, h11.drop 0⟩
      · try simp only [decide_eq_true_eq, decide_eq_false_iff_not, Bool.not_eq_true', Bool.not_eq_false', Bool.and_eq_true, Int.not_lt, Int.not_le] at c9
        first
        | (exfalso; omega)
        | skip
          refine WC.exit ?_
          refine WX.thn ?_
          refine WX.cut ?_
          refine WX.hit ?_
          refine WN.thn ?_
          refine WC.seq ?_
          refine WC.reg ?_
          refine WL.v (Runs.move rfl) rfl ?_
          refine WL.v (Runs.assign rfl) rfl ?_
          refine WL.nil ?_
          refine WN.thn ?_
          refine WC.ret ?_
          obtain rfl : i = 8 := by omega
          refine ret1 rfl rfl ⟨?_, hL.weak (Le.trans (Le.trans hle0 hle3) hG)⟩
          rw [show ShaM.of S = dd.list.flatMap ShaM.out4 by unfold ShaM.of; rw [hP, hD], List.take_of_length_le (by rw [list_len]; omega)]
theorem tur_len (f : Nat → UInt8) (i : Nat) : ((List.range i).map f).length = i := by simp
theorem tur_next (f : Nat → UInt8) (i : Nat) : (List.range (i + 1)).map f = (List.range i).map f ++ [f i] := by simp [List.range_succ]
theorem to8_of (x : UInt8) : ((UInt8.ofNat x.toNat).toNat : Int) = (x.toNat : Int) := by
  rw [UInt8.toNat_ofNat']; have := x.toNat_lt; omega
theorem getD_out (l : List UInt8) (i : Nat) (h : l.length ≤ i) : l.getD i 0 = 0 := by rw [List.getD_eq_getElem?_getD, List.getElem?_eq_none h]; rfl
set_option maxRecDepth 100000 in
set_option maxHeartbeats 1000000 in
theorem tur_c {W : World} {F : Snap} {cs : List Res} (w : World) (key : ByteArray) (by_ : UInt8) (h : St W F cs w) : Calls Try.prog 62 #[.string key, VB by_] w fun e w' => e = .returned (.string ⟨(ShaM.padded key.data.toList by_).toArray⟩) ∧ St W F cs w'  := by
  refine enter (P := Try.prog) (args := [.string key, VB by_]) Try.func62 rfl rfl rfl ?_
  refine WC.seq ?_
  refine WC.reg ?_
  refine WL.v (Runs.assign rfl) rfl ?_
  refine WL.nil ?_
  refine WN.thn ?_
  refine WC.seq ?_
  refine WC.reg ?_
  refine WL.v (Runs.assign rfl) rfl ?_
  refine WL.nil ?_
  refine WN.thn ?_
  refine WC.seq ?_
  refine WC.seq ?_
  refine WC.reg ?_
  refine WL.v (Runs.assign rfl) rfl ?_
  refine WL.nil ?_
  refine WN.thn ?_
  refine WC.block ?_
  refine WC.loop (σ := Nat) (fun q_ => [(0, .string key), (1, VB by_), (5, .string ⟨((List.range q_).map fun j => key.data.toList.getD j 0 ^^^ by_).toArray⟩), (6, .int .i64 (q_ : Int))]) (fun q_ w => q_ ≤ 64 ∧ St W F cs w) (fun q_ => 64 - q_) (0) (by repeat (first | exact trivial | refine ⟨rfl, ?_⟩)) (⟨by omega, h⟩) ?_
  rintro i w1 ⟨hi, hL⟩
  try dsimp only at hi hL
  refine WC.sub (s := [(0, .string key), (1, VB by_), (5, .string ⟨((List.range i).map fun j => key.data.toList.getD j 0 ^^^ by_).toArray⟩), (6, .int .i64 (i : Int))]) (by repeat (first | exact trivial | refine ⟨rfl, ?_⟩)) ?_
  refine WC.seq ?_
  refine WC.seq ?_
  refine WC.reg ?_
  refine WL.v (Runs.move rfl) rfl ?_
  refine WL.v (Runs.lss rfl rfl) rfl ?_
  refine WL.nil ?_
  refine WN.thn ?_
  refine WC.cond rfl (fun c2 => ?_) (fun c2 => ?_)
  · try simp only [decide_eq_true_eq, decide_eq_false_iff_not, Bool.not_eq_true', Bool.not_eq_false', Bool.and_eq_true, Int.not_lt, Int.not_le] at c2
    first
    | (exfalso; omega)
    | skip
      refine WC.skip ?_
      refine WN.thn ?_
      refine WC.seq ?_
      refine WC.block ?_
      refine WC.seq ?_
      refine WC.reg ?_
      refine WL.v (Runs.assign rfl) rfl ?_
      refine WL.nil ?_
      refine WN.thn ?_
      refine WC.seq ?_
      refine WC.seq ?_
      refine WC.reg ?_
      refine WL.v (Runs.move rfl) rfl ?_
      refine WL.v (Runs.move rfl) rfl ?_
      refine WL.v (Runs.slen Try.underlying9 rfl rfl) rfl ?_
      refine WL.v (Runs.lss rfl rfl) rfl ?_
      refine WL.nil ?_
      refine WN.thn ?_
      refine WC.cond rfl (fun c3 => ?_) (fun c3 => ?_)
      · try simp only [decide_eq_true_eq, decide_eq_false_iff_not, Bool.not_eq_true', Bool.not_eq_false', Bool.and_eq_true, Int.not_lt, Int.not_le] at c3
        first
        | (exfalso; omega)
        | skip
          refine WC.reg ?_
          refine WL.v (Runs.move rfl) rfl ?_
          refine WL.v (Runs.move rfl) rfl ?_
          refine WL.v (Runs.sidx8 Try.underlying9 rfl rfl (n := i) rfl (by omega)) rfl ?_
          refine WL.v (Runs.u8toI Try.underlying5 Try.underlying3 rfl) rfl ?_
          refine WL.v (Runs.assign rfl) rfl ?_
          refine WL.nil ?_
          refine WN.thn ?_
          refine WC.reg ?_
          refine WL.v (Runs.move rfl) rfl ?_
          refine WL.v (Runs.move rfl) rfl ?_
          refine WL.v (Runs.move rfl) rfl ?_
          refine WL.v (Runs.intT (n := ((key.data.toList.getD i 0 ^^^ by_).toNat : Int)) (Runs.xorB rfl rfl) rfl) rfl ?_
          refine WL.v (Runs.intT (n := ((key.data.toList.getD i 0 ^^^ by_).toNat : Int)) (Runs.ito8 Try.underlying3 Try.underlying5 rfl rfl) (to8_of _)) rfl ?_
          refine WL.lit (vs := (([key.data.toList.getD i 0 ^^^ by_] : List UInt8)).map V8) hL rfl Try.underlying74 inf5 rfl rfl rfl rfl rfl ?_
          intro lit25 w4 h4
          refine WL.v (Runs.b2s (bs := [key.data.toList.getD i 0 ^^^ by_]) Try.underlying74 Try.underlying5 Try.underlying9 rfl (by rfl) (.inr ⟨_, rfl, fun j b hb => by rw [add_mk]; exact h4.ocell (i := 0) rfl (cell8 (xs := [key.data.toList.getD i 0 ^^^ by_]) hb)⟩)) rfl ?_
          refine WL.v (Runs.strT (b := ⟨((List.range (i + 1)).map fun j => key.data.toList.getD j 0 ^^^ by_).toArray⟩) (Runs.sadd rfl rfl (by rw [size_mk, size_mk, tur_len]; show _ + 1 ≤ _; omega)) (by rw [tur_next, mk_app])) rfl ?_
          refine WL.v (Runs.assign rfl) rfl ?_
          refine WL.nil ?_
          refine WN.blk ?_
          refine WN.thn ?_
          refine WC.reg ?_
          refine WL.v (Runs.move rfl) rfl ?_
          refine WL.v (Runs.addn rfl rfl (by omega)) rfl ?_
          refine WL.v (Runs.assign rfl) rfl ?_
          refine WL.nil ?_
          exact WN.again (i + 1) (by omega) ⟨rfl, rfl, rfl, rfl, trivial⟩ ⟨by omega, h4.drop 0⟩
      · try simp only [decide_eq_true_eq, decide_eq_false_iff_not, Bool.not_eq_true', Bool.not_eq_false', Bool.and_eq_true, Int.not_lt, Int.not_le] at c3
        first
        | (exfalso; omega)
        | skip
          refine WC.skip ?_
          refine WN.thn ?_
          refine WC.reg ?_
          have hg : key.data.toList.getD i 0 = 0 := getD_out _ _ (by simp; omega)
          refine WL.v (Runs.move rfl) rfl ?_
          refine WL.v (Runs.move rfl) rfl ?_
          refine WL.v (Runs.move rfl) rfl ?_
          refine WL.v (Runs.intT (n := ((key.data.toList.getD i 0 ^^^ by_).toNat : Int)) (Runs.xorB (a := 0) rfl rfl) (by rw [hg])) rfl ?_
          refine WL.v (Runs.intT (n := ((key.data.toList.getD i 0 ^^^ by_).toNat : Int)) (Runs.ito8 Try.underlying3 Try.underlying5 rfl rfl) (to8_of _)) rfl ?_
          refine WL.lit (vs := (([key.data.toList.getD i 0 ^^^ by_] : List UInt8)).map V8) hL rfl Try.underlying74 inf5 rfl rfl rfl rfl rfl ?_
          intro lit25 w5 h5
          refine WL.v (Runs.b2s (bs := [key.data.toList.getD i 0 ^^^ by_]) Try.underlying74 Try.underlying5 Try.underlying9 rfl (by rfl) (.inr ⟨_, rfl, fun j b hb => by rw [add_mk]; exact h5.ocell (i := 0) rfl (cell8 (xs := [key.data.toList.getD i 0 ^^^ by_]) hb)⟩)) rfl ?_
          refine WL.v (Runs.strT (b := ⟨((List.range (i + 1)).map fun j => key.data.toList.getD j 0 ^^^ by_).toArray⟩) (Runs.sadd rfl rfl (by rw [size_mk, size_mk, tur_len]; show _ + 1 ≤ _; omega)) (by rw [tur_next, mk_app])) rfl ?_
          refine WL.v (Runs.assign rfl) rfl ?_
          refine WL.nil ?_
          refine WN.blk ?_
          refine WN.thn ?_
          refine WC.reg ?_
          refine WL.v (Runs.move rfl) rfl ?_
          refine WL.v (Runs.addn rfl rfl (by omega)) rfl ?_
          refine WL.v (Runs.assign rfl) rfl ?_
          refine WL.nil ?_
          exact WN.again (i + 1) (by omega) ⟨rfl, rfl, rfl, rfl, trivial⟩ ⟨by omega, h5.drop 0⟩
  · try simp only [decide_eq_true_eq, decide_eq_false_iff_not, Bool.not_eq_true', Bool.not_eq_false', Bool.and_eq_true, Int.not_lt, Int.not_le] at c2
    first
    | (exfalso; omega)
    | skip
      refine WC.exit ?_
      refine WX.thn ?_
      refine WX.cut ?_
      refine WX.hit ?_
      refine WN.thn ?_
      refine WC.seq ?_
      refine WC.reg ?_
      refine WL.v (Runs.move rfl) rfl ?_
      refine WL.v (Runs.assign rfl) rfl ?_
      refine WL.nil ?_
      refine WN.thn ?_
      refine WC.ret ?_
      obtain rfl : i = 64 := by omega
      exact ret1 rfl rfl ⟨rfl, hL⟩
set_option maxRecDepth 100000 in
set_option maxHeartbeats 1000000 in
theorem rhmac_c {W : World} {F : Snap} {cs : List Res} (w : World) (key s : ByteArray) (h : St W F cs w) (hk : key.size ≤ 900000) (hs : s.size ≤ 900000) : Calls Try.prog 42 #[.string key, .string s] w fun e w' => e = .returned (.string ⟨(ShaM.hmac key.data.toList s.data.toList).toArray⟩) ∧ St W F cs w'  := by
  refine enter (P := Try.prog) (args := [.string key, .string s]) Try.func42 rfl rfl rfl ?_
  refine WC.seq ?_
  refine WC.reg ?_
  refine WL.v (Runs.assign rfl) rfl ?_
  refine WL.nil ?_
  refine WN.thn ?_
  refine WC.seq ?_
  refine WC.seq ?_
  refine WC.reg ?_
  refine WL.v (Runs.move rfl) rfl ?_
  refine WL.v (Runs.slen Try.underlying9 rfl rfl) rfl ?_
  refine WL.v (Runs.gtr rfl rfl) rfl ?_
  refine WL.nil ?_
  refine WN.thn ?_
  refine WC.cond rfl (fun c1 => ?_) (fun c1 => ?_)
  · try simp only [decide_eq_true_eq, decide_eq_false_iff_not, Bool.not_eq_true', Bool.not_eq_false', Bool.and_eq_true, Int.not_lt, Int.not_le] at c1
    first
    | (exfalso; omega)
    | skip
      refine WC.reg ?_
      refine WL.v (Runs.move rfl) rfl ?_
      refine WL.call can61 rfl rfl (rof_c _ _ h (by first | omega | (simp [ByteArray.size_append, padded_len, of_len, size_mk]; done) | (simp [ByteArray.size_append, padded_len, of_len, size_mk]; omega))) ?_
      rintro _ w2 ⟨rfl, h2⟩
      refine ⟨_, rfl, ?_⟩
      refine WL.v (Runs.assign rfl) rfl ?_
      refine WL.nil ?_
      refine WN.thn ?_
      refine WC.seq ?_
      refine WC.reg ?_
      refine WL.v (Runs.move rfl) rfl ?_
      refine WL.call can62 rfl rfl (tur_c _ _ 92 h2) ?_
      rintro _ w3 ⟨rfl, h3⟩
      refine ⟨_, rfl, ?_⟩
      refine WL.v (Runs.move rfl) rfl ?_
      refine WL.call can62 rfl rfl (tur_c _ _ 54 h3) ?_
      rintro _ w4 ⟨rfl, h4⟩
      refine ⟨_, rfl, ?_⟩
      refine WL.v (Runs.move rfl) rfl ?_
      refine WL.v (Runs.sadd rfl rfl (by simp [padded_len, size_mk]; omega)) rfl ?_
      refine WL.call can61 rfl rfl (rof_c _ _ h4 (by first | omega | (simp [ByteArray.size_append, padded_len, of_len, size_mk]; done) | (simp [ByteArray.size_append, padded_len, of_len, size_mk]; omega))) ?_
      rintro _ w5 ⟨rfl, h5⟩
      refine ⟨_, rfl, ?_⟩
      refine WL.v (Runs.sadd rfl rfl (by simp [padded_len, of_len, size_mk])) rfl ?_
      refine WL.call can61 rfl rfl (rof_c _ _ h5 (by first | omega | (simp [ByteArray.size_append, padded_len, of_len, size_mk]; done) | (simp [ByteArray.size_append, padded_len, of_len, size_mk]; omega))) ?_
      rintro _ w6 ⟨rfl, h6⟩
      refine ⟨_, rfl, ?_⟩
      refine WL.v (Runs.assign rfl) rfl ?_
      refine WL.nil ?_
      refine WN.thn ?_
      refine WC.ret ?_
      refine ret1 rfl rfl ⟨?_, h6⟩
      have hkl : key.data.toList.length = key.size := by simp
      simp only [dl_mk, dl_app, ShaM.hmac, hkl]
      first
      | rw [if_pos (by omega)]
      | rw [if_neg (by omega)]
  · try simp only [decide_eq_true_eq, decide_eq_false_iff_not, Bool.not_eq_true', Bool.not_eq_false', Bool.and_eq_true, Int.not_lt, Int.not_le] at c1
    first
    | (exfalso; omega)
    | skip
      refine WC.skip ?_
      refine WN.thn ?_
      refine WC.seq ?_
      refine WC.reg ?_
      refine WL.v (Runs.move rfl) rfl ?_
      refine WL.call can62 rfl rfl (tur_c _ _ 92 h) ?_
      rintro _ w7 ⟨rfl, h7⟩
      refine ⟨_, rfl, ?_⟩
      refine WL.v (Runs.move rfl) rfl ?_
      refine WL.call can62 rfl rfl (tur_c _ _ 54 h7) ?_
      rintro _ w8 ⟨rfl, h8⟩
      refine ⟨_, rfl, ?_⟩
      refine WL.v (Runs.move rfl) rfl ?_
      refine WL.v (Runs.sadd rfl rfl (by simp [padded_len, size_mk]; omega)) rfl ?_
      refine WL.call can61 rfl rfl (rof_c _ _ h8 (by first | omega | (simp [ByteArray.size_append, padded_len, of_len, size_mk]; done) | (simp [ByteArray.size_append, padded_len, of_len, size_mk]; omega))) ?_
      rintro _ w9 ⟨rfl, h9⟩
      refine ⟨_, rfl, ?_⟩
      refine WL.v (Runs.sadd rfl rfl (by simp [padded_len, of_len, size_mk])) rfl ?_
      refine WL.call can61 rfl rfl (rof_c _ _ h9 (by first | omega | (simp [ByteArray.size_append, padded_len, of_len, size_mk]; done) | (simp [ByteArray.size_append, padded_len, of_len, size_mk]; omega))) ?_
      rintro _ w10 ⟨rfl, h10⟩
      refine ⟨_, rfl, ?_⟩
      refine WL.v (Runs.assign rfl) rfl ?_
      refine WL.nil ?_
      refine WN.thn ?_
      refine WC.ret ?_
      refine ret1 rfl rfl ⟨?_, h10⟩
      have hkl : key.data.toList.length = key.size := by simp
      simp only [dl_mk, dl_app, ShaM.hmac, hkl]
      first
      | rw [if_pos (by omega)]
      | rw [if_neg (by omega)]
end Sha
end Go.Proofs.Ytbkfjedecepfoaa
