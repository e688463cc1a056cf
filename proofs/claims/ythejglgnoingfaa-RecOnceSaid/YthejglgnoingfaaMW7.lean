/- Walks of package wire: what may be; builders of strings. -/
import Derived.Test.YthejglgnoingfaaMW6
namespace Go.Proofs.Ythejglgnoingfaa
open Go Go.RowKit B
set_option linter.unusedVariables false
set_option linter.unusedSimpArgs false
namespace Wir

theorem inf112 : Inf Try.prog 112 (.slice none 0 0) 1 24 := by unfold Inf; kernel_rfl
theorem inf113 : Inf Try.prog 113 (.pointer none) 1 8 := by unfold Inf; kernel_rfl
theorem inf115 : Inf Try.prog 115 (.agg #[.pointer none, .slice none 0 0]) 2 32 := by unfold Inf; kernel_rfl
theorem fld115_0 : fldB Try.prog 115 0 0 = true := by kernel_rfl
theorem fld115_1 : fldB Try.prog 115 1 1 = true := by kernel_rfl
theorem can85 : B.Can Try.prog 85 := ⟨_, Try.func85, by kernel_rfl, rfl⟩   -- (*strings.Builder).copyCheck
set_option maxRecDepth 100000 in
set_option maxHeartbeats 1000000 in
theorem cc_c {W : World} {F : Snap} {cs : List Res} (w : World) {bb : Nat} {pp v : Value} (h : St W F ([(bb, .cells #[pp, v] 115 (0, 0))] :: cs) w) (hpp : pp = .pointer none) : Calls Try.prog 85 #[.pointer (some ⟨bb, 0, none⟩)] w fun r w' => r = .returned (.tuple #[]) ∧ St W F ([(bb, .cells #[.pointer (some ⟨bb, 0, none⟩), v] 115 (0, 0))] :: cs) w'  := by
  refine enter (P := Try.prog) (args := [.pointer (some ⟨bb, 0, none⟩)]) Try.func85 rfl rfl rfl ?_
  subst hpp
  refine WC.seq (WC.reg ?_)
  refine WL.v (Runs.move rfl) rfl ?_
  refine WL.v (Runs.nilCheckP rfl) rfl ?_
  refine WL.v (Runs.fld fld115_0 rfl) rfl ?_
  refine WL.v (Runs.load1 Try.underlying113 rfl rfl (h.ocell (i := 0) rfl rfl)) rfl ?_
  refine WL.v (Runs.peql Try.underlying113 rfl rfl) rfl ?_
  refine WL.nil (WN.thn ?_)
  refine WC.condT rfl (rfl) ?_
  refine WC.reg ?_
  refine WL.v (Runs.move rfl) rfl ?_
  refine WL.v (Runs.move rfl) rfl ?_
  refine WL.v (Runs.toUnsafe h (i := 0) rfl Try.underlying113 Try.underlying137 inf115 rfl (by show 0 < 2; decide) rfl) rfl ?_
  refine WL.v (Runs.same Try.func94 (by kernel_rfl) (by kernel_rfl) (by kernel_rfl) (by kernel_rfl) rfl) rfl ?_
  refine WL.v (Runs.fromUnsafe h (i := 0) rfl Try.underlying137 Try.underlying113 inf115 (cells := 2) rfl (by kernel_rfl) rfl) rfl ?_
  refine WL.v (Runs.nilCheckP rfl) rfl ?_
  refine WL.v (Runs.fld fld115_0 rfl) rfl ?_
  refine WL.store' h 0 rfl rfl rfl inf113 rfl rfl (Free.zero _) (Nat.le_of_ble_eq_true rfl) ?_
  intro  w1 h1
  try simp only [lz, ls, ez, es'] at h1
  refine WL.nil ?_
  exact end0 rfl ⟨rfl, h1⟩
set_option maxRecDepth 100000 in
set_option maxHeartbeats 1000000 in
theorem cc_s {W : World} {F : Snap} {cs : List Res} (w : World) {bb : Nat} {pp v : Value} (h : St W F ([(bb, .cells #[pp, v] 115 (0, 0))] :: cs) w) (hpp : pp = .pointer (some ⟨bb, 0, none⟩)) : Calls Try.prog 85 #[.pointer (some ⟨bb, 0, none⟩)] w fun r w' => r = .returned (.tuple #[]) ∧ St W F ([(bb, .cells #[.pointer (some ⟨bb, 0, none⟩), v] 115 (0, 0))] :: cs) w'  := by
  refine enter (P := Try.prog) (args := [.pointer (some ⟨bb, 0, none⟩)]) Try.func85 rfl rfl rfl ?_
  subst hpp
  refine WC.seq (WC.reg ?_)
  refine WL.v (Runs.move rfl) rfl ?_
  refine WL.v (Runs.nilCheckP rfl) rfl ?_
  refine WL.v (Runs.fld fld115_0 rfl) rfl ?_
  refine WL.v (Runs.load1 Try.underlying113 rfl rfl (h.ocell (i := 0) rfl rfl)) rfl ?_
  refine WL.v (Runs.peql Try.underlying113 rfl rfl) rfl ?_
  refine WL.nil (WN.thn ?_)
  refine WC.condF rfl (rfl) ?_
  refine WC.seq (WC.reg ?_)
  refine WL.v (Runs.move rfl) rfl ?_
  refine WL.v (Runs.nilCheckP rfl) rfl ?_
  refine WL.v (Runs.fld fld115_0 rfl) rfl ?_
  refine WL.v (Runs.load1 Try.underlying113 rfl rfl (h.ocell (i := 0) rfl rfl)) rfl ?_
  refine WL.v (Runs.move rfl) rfl ?_
  refine WL.v (Runs.pneqS Try.underlying113 inf115 rfl rfl) rfl ?_
  refine WL.nil (WN.thn ?_)
  refine WC.condF rfl (rfl) ?_
  refine WC.skip ?_
  exact end0 rfl ⟨rfl, h⟩
set_option maxRecDepth 100000 in
set_option maxHeartbeats 1000000 in
theorem wstr_c {W : World} {F : Snap} {cs : List Res} (w : World) {bb : Nat} {pp v : Value} {r0 : Res} {xs : List UInt8} (l : List UInt8) (h : St W F ([(bb, .cells #[pp, v] 115 (0, 0))] :: r0 :: cs) w) (hpp : pp = .pointer none ∨ pp = .pointer (some ⟨bb, 0, none⟩)) (hr : Row 5 V8 r0 v xs) (hb : xs.length + l.length ≤ 10000000) : Calls Try.prog 67 #[.pointer (some ⟨bb, 0, none⟩), .string (bs l)] w fun r w' => ∃ r1 v1, r = .returned (.tuple #[Vi l.length, .nilIface]) ∧ Row 5 V8 r1 v1 (xs ++ l) ∧ St W F ([(bb, .cells #[.pointer (some ⟨bb, 0, none⟩), v1] 115 (0, 0))] :: r1 :: cs) w'  := by
  refine enter (P := Try.prog) (args := [.pointer (some ⟨bb, 0, none⟩), .string (bs l)]) Try.func67 rfl rfl rfl ?_
  obtain ⟨Ao, co, rfl, hcap⟩ := hr.val
  refine WC.seq (WC.reg ?_)
  refine WL.v (Runs.assign rfl) rfl ?_
  refine WL.v (Runs.assign rfl) rfl ?_
  refine WL.nil (WN.thn (WC.seq (WC.reg ?_)))
  refine WL.v (Runs.move rfl) rfl ?_
  refine WL.call can85 rfl rfl ((hpp.elim (cc_c _ h) (cc_s _ h))) ?_
  rintro _ w1 ⟨rfl, h1⟩
  refine ⟨_, rfl, ?_⟩
  refine WL.nil (WN.thn (WC.seq (WC.reg ?_)))
  refine WL.v (Runs.move rfl) rfl ?_
  refine WL.v (Runs.move rfl) rfl ?_
  refine WL.v (Runs.nilCheckP rfl) rfl ?_
  refine WL.v (Runs.fld fld115_1 rfl) rfl ?_
  refine WL.v (Runs.load1 Try.underlying112 rfl rfl (h1.ocell (i := 0) rfl rfl)) rfl ?_
  refine WL.v (Runs.move rfl) rfl ?_
  refine WL.app (ys := l) 1 h1 rfl rfl rfl rfl Try.underlying112 Try.underlying9 (.inl rfl) inf5 rfl hr (Src.str) rfl rfl (by first | omega | (simp [bs_size]; done) | (simp [bs_size]; omega)) (by first | omega | (simp [bs_size]; done) | (simp [bs_size]; omega)) ?_
  intro r2 v2 w3 hr2 h3
  simp only [lz, ls] at h3
  obtain ⟨A2, c2, hv2, hcap2⟩ := (hr2).val
  subst hv2
  refine WL.v (Runs.nilCheckP rfl) rfl ?_
  refine WL.v (Runs.fld fld115_1 rfl) rfl ?_
  refine WL.store' h3 0 rfl rfl rfl inf112 rfl rfl (Free.zero _) (Nat.le_of_ble_eq_true rfl) ?_
  intro  w4 h4
  try simp only [lz, ls, ez, es'] at h4
  refine WL.nil (WN.thn (WC.seq (WC.reg ?_)))
  refine WL.v (Runs.move rfl) rfl ?_
  refine WL.v (Runs.intT (n := (l.length : Int)) (Runs.slen Try.underlying9 rfl rfl) rfl) rfl ?_
  refine WL.v (Runs.assign rfl) rfl ?_
  refine WL.v (Runs.assign rfl) rfl ?_
  refine WL.nil (WN.thn (WC.ret ?_))
  exact ret2 rfl rfl rfl ⟨_, _, rfl, hr2, h4⟩
set_option maxRecDepth 100000 in
set_option maxHeartbeats 1000000 in
theorem str_c {W : World} {F : Snap} {cs : List Res} (w : World) {bb : Nat} {pp v : Value} {r0 : Res} {xs : List UInt8} (h : St W F ([(bb, .cells #[pp, v] 115 (0, 0))] :: r0 :: cs) w) (hr : Row 5 V8 r0 v xs) (h0 : xs ≠ []) (hb : xs.length ≤ 10000000) : Calls Try.prog 68 #[.pointer (some ⟨bb, 0, none⟩)] w fun r w' => r = .returned (.string (bs xs)) ∧ St W F cs w'  := by
  refine enter (P := Try.prog) (args := [.pointer (some ⟨bb, 0, none⟩)]) Try.func68 rfl rfl rfl ?_
  have hpos : 0 < xs.length := List.length_pos_iff.2 h0
  obtain ⟨b, zs, fz, rfl, rfl, hfr⟩ := Row.blk hr hpos
  refine WC.seq (WC.reg ?_)
  refine WL.v (Runs.assign rfl) rfl ?_
  refine WL.nil (WN.thn (WC.seq ?_))
  refine WC.eregO h (fun s_ => ([10] : List Nat).any (Nat.beq s_)) mixed (by kernel_rfl) (fun hx => ?_)
  intro w1 h1
  refine WE.p0 hx 0 (by rfl) (fun w_ => Runs.move rfl) rfl ?_
  refine WE.p0 hx 1 (by rfl) (fun w_ => Runs.nilCheckP rfl) rfl ?_
  refine WE.p0 hx 2 (by rfl) (fun w_ => Runs.fld fld115_1 rfl) rfl ?_
  refine WE.p0 hx 5 (by rfl) (fun w_ => Runs.move rfl) rfl ?_
  refine WE.p0 hx 6 (by rfl) (fun w_ => Runs.nilCheckP rfl) rfl ?_
  refine WE.p0 hx 7 (by rfl) (fun w_ => Runs.fld fld115_1 rfl) rfl ?_
  refine WE.v0 12 hx 3 (by rfl) (fun w_ hE_ => Runs.load1 Try.underlying112 rfl rfl (hE_.ocell (i := 0) rfl rfl)) rfl ?_
  refine WE.v0 12 hx 8 (by rfl) (fun w_ hE_ => Runs.load1 Try.underlying112 rfl rfl (hE_.ocell (i := 0) rfl rfl)) rfl ?_
  refine WE.p0 hx 9 (by rfl) (fun w_ => Runs.llen Try.underlying112 rfl rfl) rfl ?_
  refine WE.op (.inr h1) (i := 4) (by rfl) (by kernel_rfl) ?_
  refine WL.v (Runs.usd rfl (by omega)) rfl ?_
  refine WL.nil (WE.next ?_)
  refine WE.op (.inr h1) (i := 10) (by rfl) (by kernel_rfl) ?_
  refine WL.ustr h1 1 rfl Try.underlying133 (by kernel_rfl) h0 (by omega) rfl rfl rfl ?_
  intro fz2 w2 h2
  try simp only [lz, ls, ez, es'] at h2
  refine WL.nil (WE.next ?_)
  refine WE.p0 hx 11 (by rfl) (fun w_ => Runs.assign rfl) rfl ?_
  refine WE.fin (.inl ⟨10, rfl, by kernel_rfl⟩) (by kernel_rfl) ?_
  refine WN.thn (WC.ret ?_)
  exact ret1 rfl rfl ⟨rfl, (h2.drop 0).drop 0⟩
end Wir
end Go.Proofs.Ythejglgnoingfaa
