/- Walks of package wire: what is wrong is kept. -/
import Derived.Test.YthejglgnoingfaaMW2
import Derived.Tactics
import Derived.Tactics2
namespace Go.Proofs.Ythejglgnoingfaa
open Go Go.RowKit B
set_option linter.unusedVariables false
set_option linter.unusedSimpArgs false
namespace Wir

theorem inf26 : Inf Try.prog 26 (.int .i64 0) 1 8 := by unfold Inf; kernel_rfl
theorem inf129 : Inf Try.prog 129 (.agg #[.int .i64 0, .int .i64 0]) 2 16 := by unfold Inf; kernel_rfl
theorem fld103_2 : fldB Try.prog 103 2 2 = true := by kernel_rfl
theorem fld129_0 : fldB Try.prog 129 0 0 = true := by kernel_rfl
theorem fld129_1 : fldB Try.prog 129 1 1 = true := by kernel_rfl
theorem can82 : B.Can Try.prog 82 := ⟨_, Try.func82, by kernel_rfl, rfl⟩   -- (*roundhouse/wire.Reader).take$1
theorem WC.go {P : Program} {Z : Post} {N : Nat} {D : List Deferred} {sl : Sl} {c : Code} {w : World} {a : Act} (h : WC P Z [] N D sl c w) (ha : Ag N D sl a) : c.wp P Z a w := h a ha
theorem ag2 {t : Array Value} {x y : Value} (h0 : t[0]? = some x) (h1 : t[1]? = some y) {d : Nat} {v : Value} (hl : lk [(0, x), (1, y)] d = some v) : t[d]? = some v := by
  rcases d with _ | _ | d
  · have : x = v := by simpa [lk] using hl
    rw [h0, this]
  · have : y = v := by simpa [lk] using hl
    rw [h1, this]
  · simp [lk, Nat.beq] at hl
set_option maxRecDepth 100000 in
set_option maxHeartbeats 1000000 in
theorem catch_p {W : World} {F : Snap} {cs : List Res} (w : World) {i rb bb : Nat} {q at_ e e' : Int} {l : List UInt8} (h : St W F cs w) (hi : cs[i]? = some [(rb, .cells #[.string (bs l), Vi q, Vi e] 103 (0, 0))]) (hb : cellF F ⟨bb, 0, none⟩ = some (.pointer (some ⟨rb, 0, none⟩))) : CallsD Try.prog 82 #[.pointer (some ⟨bb, 0, none⟩)] (.panicking (wch at_ e')) w fun r u' w' => r = .returned (.tuple #[]) ∧ u' = .panicking [{ v := .iface 129 (.agg #[Vi at_, Vi e']), recovered := true }] ∧ St W F (cs.set i [(rb, .cells #[.string (bs l), Vi at_, Vi e'] 103 (0, 0))]) w'  := by
  refine callsD_of_wpS Try.func82 rfl fun c₀ cs₀ hu => ?_
  try unfold wch chain1 at hu
  apply wpS_seq
  apply wpS_region
  simp [wpOpsS, go_sem, recoverD, hu, Try.ntmps82, Exit.thenS]
  refine wpS_of_wp ?_
  refine WC.go (N := 18) (D := []) (sl := [(0, .pointer (some ⟨bb, 0, none⟩)), (1, .iface 129 (.agg #[Vi at_, Vi e']))]) ?_ ⟨rfl, by simp, fun d v hl => ag2 (by simp) (by simp) hl⟩
  refine WC.seq (WC.reg ?_)
  refine WL.v (Runs.move rfl) rfl ?_
  refine WL.v (Runs.ifneq Try.underlying20 rfl rfl) rfl ?_
  refine WL.nil (WN.thn ?_)
  refine WC.condT rfl (rfl) ?_
  refine WC.seq (WC.reg ?_)
  refine WL.v (Runs.move rfl) rfl ?_
  refine WL.v (Runs.assertS Try.underlying129 rfl rfl) rfl ?_
  refine WL.alloc' rfl h inf129 ?_
  intro b2 w1 h1
  refine WL.store' h1 0 rfl rfl rfl inf129 rfl rfl (Free.zero _) (Nat.le_of_ble_eq_true rfl) ?_
  intro  w2 h2
  try simp only [lz, ls, ez, es'] at h2
  refine WL.nil (WN.thn ?_)
  obtain ⟨G, gl, g0, S0⟩ := h2.freeze (i := 0) rfl
  have hw0 : cellF G ⟨b2, 0, none⟩ = some (Vi at_) := by unfold cellF; simp only [g0 _ List.mem_cons_self]; rfl
  have hw1 : cellF G ⟨b2, 1, none⟩ = some (Vi e') := by unfold cellF; simp only [g0 _ List.mem_cons_self]; rfl
  replace S0 : St W G cs w2 := S0
  have hi2 : (cs.set i [(rb, .cells #[.string (bs l), Vi at_, Vi e] 103 (0, 0))])[i]? = some [(rb, .cells #[.string (bs l), Vi at_, Vi e] 103 (0, 0))] := by rw [List.getElem?_set_self (List.getElem?_eq_some_iff.1 hi).1]
  refine WC.eregF S0 (fun s_ => ([] : List Nat).any (Nat.beq s_)) mixed (by kernel_rfl) (fun hx => ?_)
  intro w3 h3
  refine WE.p0 hx 2 (by rfl) (fun w_ => Runs.fld fld129_0 rfl) rfl ?_
  refine WE.p0 hx 4 (by rfl) (fun w_ => Runs.fld fld129_1 rfl) rfl ?_
  refine WE.v0 12 hx 0 (by rfl) (fun w_ hE_ => Exists.elim hE_ (fun cs_ hC_ => Runs.load1 Try.underlying73 rfl rfl (hC_.cell (cellF_le gl hb)))) rfl ?_
  refine WE.v0 12 hx 1 (by rfl) (fun w_ hE_ => Exists.elim hE_ (fun cs_ hC_ => Runs.load1 Try.underlying73 rfl rfl (hC_.cell (cellF_le gl hb)))) rfl ?_
  refine WE.v0 12 hx 3 (by rfl) (fun w_ hE_ => Exists.elim hE_ (fun cs_ hC_ => Runs.load1 Try.underlying3 rfl rfl (hC_.cell hw0))) rfl ?_
  refine WE.p0 hx 6 (by rfl) (fun w_ => Runs.nilCheckP rfl) rfl ?_
  refine WE.p0 hx 7 (by rfl) (fun w_ => Runs.fld fld103_1 rfl) rfl ?_
  refine WE.v0 12 hx 5 (by rfl) (fun w_ hE_ => Exists.elim hE_ (fun cs_ hC_ => Runs.load1 Try.underlying26 rfl rfl (hC_.cell hw1))) rfl ?_
  refine WE.op (.inr (EC.mk h3 (Le.refl _))) (i := 8) (by rfl) (by kernel_rfl) ?_
  refine WL.store' h3 i hi rfl rfl inf3 rfl rfl (Free.zero _) (Nat.le_of_ble_eq_true rfl) ?_
  intro  w4 h4
  try simp only [lz, ls, ez, es'] at h4
  refine WL.nil (WE.next ?_)
  refine WE.p0 hx 9 (by rfl) (fun w_ => Runs.nilCheckP rfl) rfl ?_
  refine WE.p0 hx 10 (by rfl) (fun w_ => Runs.fld fld103_2 rfl) rfl ?_
  refine WE.op (.inr (EC.mk h4 (Le.refl _))) (i := 11) (by rfl) (by kernel_rfl) ?_
  refine WL.store' h4 i hi2 rfl rfl inf26 rfl rfl (Free.zero _) (Nat.le_of_ble_eq_true rfl) ?_
  intro  w5 h5
  try simp only [lz, ls, ez, es'] at h5
  rw [List.set_set] at h5
  refine WL.nil (WE.next ?_)
  refine WE.fin (.inr (EC.mk h5 (Le.refl _))) (by kernel_rfl) ?_
  exact fun a_ ha_ => ⟨ha_.df, _, rfl, .tuple #[], results_none rfl _ _ _, rfl, rfl, h5.weak gl⟩
set_option maxRecDepth 100000 in
set_option maxHeartbeats 1000000 in
theorem catch_i {W : World} {F : Snap} {cs : List Res} (w : World) {bb : Nat} (h : St W F cs w) : CallsD Try.prog 82 #[.pointer (some ⟨bb, 0, none⟩)] .returning w fun r u' w' => r = .returned (.tuple #[]) ∧ u' = .returning ∧ St W F cs w'  := by
  refine callsD_of_wpS Try.func82 rfl fun c₀ cs₀ hu => ?_
  try unfold wch chain1 at hu
  apply wpS_seq
  apply wpS_region
  simp [wpOpsS, go_sem, recoverD, hu, Try.ntmps82, Exit.thenS]
  refine wpS_of_wp ?_
  refine WC.go (N := 18) (D := []) (sl := [(0, .pointer (some ⟨bb, 0, none⟩)), (1, .nilIface)]) ?_ ⟨rfl, by simp, fun d v hl => ag2 (by simp) (by simp) hl⟩
  refine WC.seq (WC.reg ?_)
  refine WL.v (Runs.move rfl) rfl ?_
  refine WL.v (Runs.ifneq0 Try.underlying20 rfl rfl) rfl ?_
  refine WL.nil (WN.thn ?_)
  refine WC.condF rfl (rfl) ?_
  refine WC.skip ?_
  exact fun a_ ha_ => ⟨ha_.df, c₀.mode, rfl, .tuple #[], results_none rfl _ _ _, rfl, hu, h⟩
set_option maxRecDepth 100000 in
set_option maxHeartbeats 1000000 in
theorem take_off {W : World} {F : Snap} {cs : List Res} (w : World) {i rb : Nat} {q e : Int} {l : List UInt8} (fv : Value) (h : St W F cs w) (hi : cs[i]? = some [(rb, .cells #[.string (bs l), Vi q, Vi e] 103 (0, 0))]) (he : e ≠ 0) : Calls Try.prog 57 #[.pointer (some ⟨rb, 0, none⟩), fv] w fun r w' => r = .returned (.tuple #[]) ∧ St W F cs w'  := by
  refine enterD (P := Try.prog) (args := [.pointer (some ⟨rb, 0, none⟩), fv]) Try.func57 rfl rfl rfl ?_
  refine WC.seq (WC.reg ?_)
  refine WL.box rfl h rfl ?_
  intro b2 w1 h1
  refine WL.nil (WN.thn (WC.seq (WC.seq (WC.reg ?_))))
  refine WL.v (Runs.load1 Try.underlying73 rfl rfl (h1.ocell (i := 0) rfl rfl)) rfl ?_
  refine WL.v (Runs.peql Try.underlying73 rfl rfl) rfl ?_
  refine WL.v (Runs.move rfl) rfl ?_
  refine WL.gon rfl rfl rfl ?_
  refine WL.v (Runs.load1 Try.underlying73 rfl rfl (h1.ocell (i := 0) rfl rfl)) rfl ?_
  refine WL.gon rfl rfl rfl ?_
  refine WL.v (Runs.nilCheckP rfl) rfl ?_
  refine WL.gon rfl rfl rfl ?_
  refine WL.v (Runs.fld fld103_2 rfl) rfl ?_
  refine WL.gon rfl rfl rfl ?_
  refine WL.v (Runs.load1 Try.underlying26 rfl rfl (h1.ocell (i := i + 1) hi rfl)) rfl ?_
  refine WL.gon rfl rfl rfl ?_
  refine WL.v (Runs.boolT (c := true) (Runs.neq rfl rfl) (by rw [decide_eq_false he]; rfl)) rfl ?_
  refine WL.v (Runs.pick rfl rfl rfl) rfl ?_
  refine WL.nil (WN.thn ?_)
  refine WC.condT rfl (rfl) ?_
  refine WC.ret ?_
  exact leaveN rfl ⟨rfl, h1.drop 0⟩
set_option maxRecDepth 100000 in
set_option maxHeartbeats 1000000 in
theorem take_nil {W : World} {F : Snap} {cs : List Res} (w : World) (fv : Value) (h : St W F cs w) : Calls Try.prog 57 #[.pointer none, fv] w fun r w' => r = .returned (.tuple #[]) ∧ St W F cs w'  := by
  refine enterD (P := Try.prog) (args := [.pointer none, fv]) Try.func57 rfl rfl rfl ?_
  refine WC.seq (WC.reg ?_)
  refine WL.box rfl h rfl ?_
  intro b2 w1 h1
  refine WL.nil (WN.thn (WC.seq (WC.seq (WC.reg ?_))))
  refine WL.v (Runs.load1 Try.underlying73 rfl rfl (h1.ocell (i := 0) rfl rfl)) rfl ?_
  refine WL.v (Runs.peql Try.underlying73 rfl rfl) rfl ?_
  refine WL.v (Runs.move rfl) rfl ?_
  refine WL.goff rfl rfl rfl rfl ?_
  refine WL.goff rfl rfl rfl rfl ?_
  refine WL.goff rfl rfl rfl rfl ?_
  refine WL.goff rfl rfl rfl rfl ?_
  refine WL.goff rfl rfl rfl rfl ?_
  refine WL.v (Runs.pick rfl rfl rfl) rfl ?_
  refine WL.nil (WN.thn ?_)
  refine WC.condT rfl (rfl) ?_
  refine WC.ret ?_
  exact leaveN rfl ⟨rfl, h1.drop 0⟩
set_option maxRecDepth 100000 in
set_option maxHeartbeats 1000000 in
theorem take_on {W : World} {F : Snap} {cs : List Res} (w : World) {i rb f : Nat} {q : Int} {l : List UInt8} {caps : List Value} {K1 : List Res → Prop} {K2 : Int → Int → List Res → Prop} (hcan : B.Can Try.prog f) (h : St W F cs w) (hi : cs[i]? = some [(rb, .cells #[.string (bs l), Vi q, Vi 0] 103 (0, 0))])
    (hdo : ∀ G w', Le F G → St W G cs w' → Calls Try.prog f caps.toArray w' fun r w'' => (∃ cs1, r = .returned (.tuple #[]) ∧ K1 cs1 ∧ St W G cs1 w'') ∨ ∃ a e q cs2, r = .panicked (wch a e) ∧ K2 a e cs2 ∧ cs2[i]? = some [(rb, .cells #[.string (bs l), Vi q, Vi 0] 103 (0, 0))] ∧ St W G cs2 w'') :
    Calls Try.prog 57 #[.pointer (some ⟨rb, 0, none⟩), .func (.func f) #[] caps.toArray] w fun r w' => r = .returned (.tuple #[]) ∧ ((∃ cs1, K1 cs1 ∧ St W F cs1 w') ∨ ∃ a e cs2, K2 a e cs2 ∧ St W F (cs2.set i [(rb, .cells #[.string (bs l), Vi a, Vi e] 103 (0, 0))]) w')  := by
  refine enterD (P := Try.prog) (args := [.pointer (some ⟨rb, 0, none⟩), .func (.func f) #[] caps.toArray]) Try.func57 rfl rfl rfl ?_
  refine WC.seq (WC.reg ?_)
  refine WL.box rfl h rfl ?_
  intro b2 w1 h1
  refine WL.nil (WN.thn (WC.seq (WC.seq (WC.reg ?_))))
  refine WL.v (Runs.load1 Try.underlying73 rfl rfl (h1.ocell (i := 0) rfl rfl)) rfl ?_
  refine WL.v (Runs.peql Try.underlying73 rfl rfl) rfl ?_
  refine WL.v (Runs.move rfl) rfl ?_
  refine WL.gon rfl rfl rfl ?_
  refine WL.v (Runs.load1 Try.underlying73 rfl rfl (h1.ocell (i := 0) rfl rfl)) rfl ?_
  refine WL.gon rfl rfl rfl ?_
  refine WL.v (Runs.nilCheckP rfl) rfl ?_
  refine WL.gon rfl rfl rfl ?_
  refine WL.v (Runs.fld fld103_2 rfl) rfl ?_
  refine WL.gon rfl rfl rfl ?_
  refine WL.v (Runs.load1 Try.underlying26 rfl rfl (h1.ocell (i := i + 1) hi rfl)) rfl ?_
  refine WL.gon rfl rfl rfl ?_
  refine WL.v (Runs.boolT (c := false) (Runs.neq rfl rfl) rfl) rfl ?_
  refine WL.v (Runs.pick rfl rfl rfl) rfl ?_
  refine WL.nil (WN.thn ?_)
  refine WC.condF rfl (rfl) ?_
  refine WC.skip (WN.thn (WC.seq ?_))
  obtain ⟨G, gl, g0, S0⟩ := h1.freeze (i := 0) rfl
  have hb : cellF G ⟨b2, 0, none⟩ = some (.pointer (some ⟨rb, 0, none⟩)) := by unfold cellF; simp only [g0 _ List.mem_cons_self]; rfl
  replace S0 : St W G cs w1 := S0
  refine WC.reg ?_
  refine WL.v (Runs.makeFunc (us := []) (vs := [.pointer (some ⟨b2, 0, none⟩)]) rfl rfl) rfl ?_
  refine WL.deferC rfl ?_
  refine WL.nil (WN.thn (WC.reg ?_))
  refine WL.v (Runs.move rfl) rfl ?_
  refine WL.callvP hcan rfl rfl rfl (hdo G _ gl S0) ?_
  rintro _ w2 (⟨cs1, rfl, hk1, h2⟩ | ⟨a, e, q2, cs2, rfl, hk2, hi2, h2⟩)
  rotate_left
  · refine .inr ⟨_, rfl, ?_⟩
    refine dieC rfl can82 rfl ((catch_p w2 h2 hi2 hb).mono fun r u' w' ⟨h1, h2, h3⟩ => ⟨h1, h2, rfl, .inr ⟨a, e, cs2, hk2, h3.weak gl⟩⟩)
  refine .inl ⟨_, rfl, ?_⟩
  
  refine WL.nil ?_
  exact leaveC rfl can82 ((catch_i w2 (bb := b2) h2).mono fun r u' w' ⟨h1, h2, h3⟩ => ⟨h1, h2, rfl, .inl ⟨cs1, hk1, h3.weak gl⟩⟩)
end Wir
end Go.Proofs.Ythejglgnoingfaa
