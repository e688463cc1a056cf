/- Walks of package wire: readers. -/
import Derived.Test.YthejglgnoingfaaMW3
namespace Go.Proofs.Ythejglgnoingfaa
open Go Go.RowKit B
set_option linter.unusedVariables false
set_option linter.unusedSimpArgs false
namespace Wir

theorem can57 : B.Can Try.prog 57 := ⟨_, Try.func57, by kernel_rfl, rfl⟩   -- (*roundhouse/wire.Reader).take
theorem can58 : B.Can Try.prog 58 := ⟨_, Try.func58, by kernel_rfl, rfl⟩   -- (*roundhouse/wire.Reader).Num$1
theorem rnx_le {l : List UInt8} {p : Nat} (h : rerr l p = 0) : rnx l p ≤ l.length := by
  unfold rerr at h
  unfold rnx
  split at h
  · cases h
  · split at h
    · cases h
    · split at h
      · cases h
      · omega
theorem cerr_0 {l : List UInt8} {p : Nat} {m : Int} (h : cerr l p m = 0) : rerr l p = 0 ∧ (rval l p : Int) ≤ m := by
  unfold cerr at h
  by_cases h1 : rerr l p = 0
  · rw [if_neg (by rw [h1]; decide)] at h
    split at h
    · cases h
    · exact ⟨h1, by omega⟩
  · rw [if_pos h1] at h; exact absurd h h1
/-- what a reader gives: a value, a place, an error -/
def rdN (l : List UInt8) (p : Nat) (e : Int) : Nat × Nat × Int := if e ≠ 0 then (0, p, e) else if rerr l p = 0 then (rval l p, rnx l p, 0) else (0, p, rerr l p)
def rdT (l : List UInt8) (p : Nat) (e : Int) : List UInt8 × Nat × Int := if e ≠ 0 then ([], p, e) else if cerr l p 4096 ≠ 0 then ([], p, cerr l p 4096) else if l.length < rnx l p + rval l p then ([], rnx l p, 2) else ((l.drop (rnx l p)).take (rval l p), rnx l p + rval l p, 0)
theorem rdN_le {l : List UInt8} {p : Nat} (e : Int) (hp : p ≤ l.length) : (rdN l p e).2.1 ≤ l.length := by
  unfold rdN
  split
  · exact hp
  · split
    · rename_i h; exact rnx_le h
    · exact hp
theorem rdT_le {l : List UInt8} {p : Nat} (e : Int) (hp : p ≤ l.length) : (rdT l p e).2.1 ≤ l.length := by
  unfold rdT
  split
  · exact hp
  · split
    · exact hp
    · rename_i h
      have h := cerr_0 (Classical.byContradiction fun hh => h hh)
      split
      · exact rnx_le h.1
      · simp only; omega
set_option maxRecDepth 100000 in
set_option maxHeartbeats 1000000 in
theorem num1_c {W : World} {F : Snap} {cs : List Res} (w : World) {i rb : Nat} {p : Nat} {l : List UInt8} {j k bb nb : Nat} {v0 : Int} (h : St W F cs w) (hi : cs[i]? = some [(rb, .cells #[.string (bs l), Vi p, Vi 0] 103 (0, 0))]) (hk : cs[k]? = some [(bb, .cells #[.pointer (some ⟨rb, 0, none⟩)] 73 (0, 0))]) (hj : cs[j]? = some [(nb, .cells #[Vi v0] 3 (0, 0))]) (hij : i ≠ j) (hl : l.length ≤ 100000) (hp : p ≤ l.length) : Calls Try.prog 58 #[.pointer (some ⟨bb, 0, none⟩), .pointer (some ⟨nb, 0, none⟩)] w fun r w' =>
  (r = .returned (.tuple #[]) ∧ rerr l p = 0 ∧ St W F ((cs.set i [(rb, .cells #[.string (bs l), Vi (rnx l p : Nat), Vi 0] 103 (0, 0))]).set j [(nb, .cells #[Vi (rval l p : Nat)] 3 (0, 0))]) w') ∨ (∃ q, r = .panicked (wch p (rerr l p)) ∧ rerr l p ≠ 0 ∧ St W F (cs.set i [(rb, .cells #[.string (bs l), Vi q, Vi 0] 103 (0, 0))]) w')  := by
  refine enter (P := Try.prog) (args := [.pointer (some ⟨bb, 0, none⟩), .pointer (some ⟨nb, 0, none⟩)]) Try.func58 rfl rfl rfl ?_
  refine WC.reg ?_
  refine WL.v (Runs.load1 Try.underlying73 rfl rfl (h.ocell (hk) rfl)) rfl ?_
  refine WL.callP can59 rfl rfl (num_c _ h hi hl hp) ?_
  rintro _ w1 (⟨he, rfl, h1⟩ | ⟨he, q, rfl, h1⟩)
  rotate_left
  · refine .inr ⟨_, rfl, ?_⟩
    exact die0 (.inr ⟨q, rfl, he, h1⟩)
  refine .inl ⟨_, rfl, ?_⟩
  
  refine WL.store' h1 j (by rw [List.getElem?_set_ne hij]; exact hj) rfl rfl inf3 rfl rfl (Free.zero _) (Nat.le_of_ble_eq_true rfl) ?_
  intro  w2 h2
  try simp only [lz, ls, ez, es'] at h2
  refine WL.nil ?_
  exact end0 rfl (.inl ⟨rfl, he, h2⟩)
set_option maxRecDepth 100000 in
set_option maxHeartbeats 1000000 in
theorem readN_off {W : World} {F : Snap} {cs : List Res} (w : World) {i rb : Nat} {p : Nat} {l : List UInt8} {e : Int} (h : St W F cs w) (hi : cs[i]? = some [(rb, .cells #[.string (bs l), Vi p, Vi e] 103 (0, 0))]) (he : e ≠ 0) : Calls Try.prog 33 #[.pointer (some ⟨rb, 0, none⟩)] w fun r w' => r = .returned (Vi 0) ∧ St W F cs w'  := by
  refine enter (P := Try.prog) (args := [.pointer (some ⟨rb, 0, none⟩)]) Try.func33 rfl rfl rfl ?_
  refine WC.seq (WC.reg ?_)
  refine WL.box rfl h rfl ?_
  intro b1 w1 h1
  refine WL.v (Runs.assign rfl) rfl ?_
  refine WL.nil (WN.thn (WC.seq (WC.reg ?_)))
  refine WL.alloc' rfl h1 inf3 ?_
  intro b3 w2 h2
  refine WL.store' h2 0 rfl rfl rfl inf3 rfl rfl (Free.zero _) (Nat.le_of_ble_eq_true rfl) ?_
  intro  w3 h3
  try simp only [lz, ls, ez, es'] at h3
  refine WL.nil (WN.thn (WC.seq (WC.reg ?_)))
  refine WL.v (Runs.load1 Try.underlying73 rfl rfl (h3.ocell (i := 1) rfl rfl)) rfl ?_
  refine WL.v (Runs.makeFunc (us := []) (vs := [.pointer (some ⟨b1, 0, none⟩), .pointer (some ⟨b3, 0, none⟩)]) rfl rfl) rfl ?_
  refine WL.call can57 rfl rfl (take_off _ _ h3 (i := i + 2) hi he) ?_
  rintro _ w4 ⟨rfl, h4⟩
  refine ⟨_, rfl, ?_⟩
  refine WL.nil (WN.thn (WC.seq (WC.reg ?_)))
  refine WL.v (Runs.load1 Try.underlying3 rfl rfl (h4.ocell (i := 0) rfl rfl)) rfl ?_
  refine WL.v (Runs.assign rfl) rfl ?_
  refine WL.nil (WN.thn (WC.ret ?_))
  exact ret1 rfl rfl ⟨rfl, (h4.drop 0).drop 0⟩
set_option maxRecDepth 100000 in
set_option maxHeartbeats 1000000 in
theorem readN_on {W : World} {F : Snap} {cs : List Res} (w : World) {i rb : Nat} {p : Nat} {l : List UInt8} (h : St W F cs w) (hi : cs[i]? = some [(rb, .cells #[.string (bs l), Vi p, Vi 0] 103 (0, 0))]) (hl : l.length ≤ 100000) (hp : p ≤ l.length) : Calls Try.prog 33 #[.pointer (some ⟨rb, 0, none⟩)] w fun r w' => r = .returned (Vi ((rdN l p 0).1 : Nat)) ∧ St W F (cs.set i [(rb, .cells #[.string (bs l), Vi ((rdN l p 0).2.1 : Nat), Vi (rdN l p 0).2.2] 103 (0, 0))]) w'  := by
  refine enter (P := Try.prog) (args := [.pointer (some ⟨rb, 0, none⟩)]) Try.func33 rfl rfl rfl ?_
  refine WC.seq (WC.reg ?_)
  refine WL.box rfl h rfl ?_
  intro b1 w1 h1
  refine WL.v (Runs.assign rfl) rfl ?_
  refine WL.nil (WN.thn (WC.seq (WC.reg ?_)))
  refine WL.alloc' rfl h1 inf3 ?_
  intro b3 w2 h2
  refine WL.store' h2 0 rfl rfl rfl inf3 rfl rfl (Free.zero _) (Nat.le_of_ble_eq_true rfl) ?_
  intro  w3 h3
  try simp only [lz, ls, ez, es'] at h3
  refine WL.nil (WN.thn (WC.seq (WC.reg ?_)))
  refine WL.v (Runs.load1 Try.underlying73 rfl rfl (h3.ocell (i := 1) rfl rfl)) rfl ?_
  refine WL.v (Runs.makeFunc (us := []) (vs := [.pointer (some ⟨b1, 0, none⟩), .pointer (some ⟨b3, 0, none⟩)]) rfl rfl) rfl ?_
  refine WL.call can57 rfl rfl (take_on (f := 58) (caps := [.pointer (some ⟨b1, 0, none⟩), .pointer (some ⟨b3, 0, none⟩)]) (i := i + 2)
    (K1 := fun cs1 => rerr l p = 0 ∧ cs1 = ([(b3, .cells #[Vi (rval l p : Nat)] 3 (0, 0))] :: [(b1, .cells #[.pointer (some ⟨rb, 0, none⟩)] 73 (0, 0))] :: cs.set i [(rb, .cells #[.string (bs l), Vi (rnx l p : Nat), Vi 0] 103 (0, 0))])) (K2 := fun a e cs2 => rerr l p ≠ 0 ∧ a = p ∧ e = rerr l p ∧ ∃ q, cs2 = ([(b3, .cells #[Vi 0] 3 (0, 0))] :: [(b1, .cells #[.pointer (some ⟨rb, 0, none⟩)] 73 (0, 0))] :: cs.set i [(rb, .cells #[.string (bs l), Vi q, Vi 0] 103 (0, 0))]))
    _ can58 h3 hi (fun G w2 hle hS => (num1_c w2 (i := i + 2) (j := 0) (k := 1) hS hi rfl rfl (by omega) hl hp).mono fun r w3 hh => ?_)) ?_
  · rcases hh with ⟨h1, h2, h3⟩ | ⟨q, h1, h2, h3⟩
    · exact .inl ⟨_, h1, ⟨h2, rfl⟩, h3⟩
    · exact .inr ⟨p, rerr l p, q, _, h1, ⟨h2, rfl, rfl, q, rfl⟩, by show (cs.set i _)[i]? = _; rw [List.getElem?_set_self (List.getElem?_eq_some_iff.1 hi).1], h3⟩
  rintro _ wt ⟨rfl, hh⟩
  refine ⟨_, rfl, ?_⟩
  obtain ⟨vv, hvv, hS⟩ : ∃ vv, vv = ((rdN l p 0).1 : Nat) ∧ St W F ([(b3, .cells #[Vi (vv : Nat)] 3 (0, 0))] :: [(b1, .cells #[.pointer (some ⟨rb, 0, none⟩)] 73 (0, 0))] :: cs.set i [(rb, .cells #[.string (bs l), Vi ((rdN l p 0).2.1 : Nat), Vi (rdN l p 0).2.2] 103 (0, 0))]) wt := by
    rcases hh with ⟨cs1, ⟨he, rfl⟩, h3⟩ | ⟨a, e, cs2, ⟨he, rfl, rfl, q, rfl⟩, h3⟩
    · have e1 : rdN l p 0 = (rval l p, rnx l p, 0) := by unfold rdN; rw [if_neg (by simp), if_pos he]
      rw [e1]; exact ⟨_, rfl, h3⟩
    · have e1 : rdN l p 0 = (0, p, rerr l p) := by unfold rdN; rw [if_neg (by simp), if_neg he]
      rw [e1]; refine ⟨_, rfl, ?_⟩
      simp only [List.set_cons_succ, List.set_set] at h3
      exact h3
  refine WL.nil (WN.thn (WC.seq (WC.reg ?_)))
  refine WL.v (Runs.load1 Try.underlying3 rfl rfl (hS.ocell (i := 0) rfl rfl)) rfl ?_
  refine WL.v (Runs.assign rfl) rfl ?_
  refine WL.nil (WN.thn (WC.ret ?_))
  obtain ⟨rfl⟩ := hvv
  exact ret1 rfl rfl ⟨rfl, (hS.drop 0).drop 0⟩
end Wir
end Go.Proofs.Ythejglgnoingfaa
