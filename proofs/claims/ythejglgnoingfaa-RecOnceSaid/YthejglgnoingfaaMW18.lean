/- Walks of package wire: lists. -/
import Derived.Test.YthejglgnoingfaaMW9
namespace Go.Proofs.Ythejglgnoingfaa
open Go Go.RowKit B
set_option linter.unusedVariables false
set_option linter.unusedSimpArgs false
namespace Wir

theorem inf4 : Inf Try.prog 4 (.bool false) 1 1 := by unfold Inf; kernel_rfl
theorem inf22 : Inf Try.prog 22 (.slice none 0 0) 1 24 := by unfold Inf; kernel_rfl
theorem can60 : B.Can Try.prog 60 := ⟨_, Try.func60, by kernel_rfl, rfl⟩   -- (*roundhouse/wire.Reader).List$1
theorem can61 : B.Can Try.prog 61 := ⟨_, Try.func61, by kernel_rfl, rfl⟩   -- (*roundhouse/wire.Reader).count
/-- what a list gives: the numbers, a place, an error -/
def rdn (l : List UInt8) : Nat → Nat → List Int → List Int × Nat × Int
  | 0, q, acc => (acc, q, 0)
  | n + 1, q, acc => if rerr l q = 0 then rdn l n (rnx l q) (acc ++ [(rval l q : Int)]) else ([], q, rerr l q)
def rdL (l : List UInt8) (p : Nat) (e m : Int) : List Int × Nat × Int := if e ≠ 0 then ([], p, e) else if cerr l p m ≠ 0 then ([], p, cerr l p m) else rdn l (rval l p) (rnx l p) []
theorem rdn_le {l : List UInt8} : ∀ (n q : Nat) (acc : List Int), q ≤ l.length → (rdn l n q acc).2.1 ≤ l.length
  | 0, q, acc, h => h
  | n + 1, q, acc, h => by
    rw [rdn]
    split
    · rename_i h1; exact rdn_le n _ _ (rnx_le h1)
    · exact h
theorem rdL_le {l : List UInt8} {p : Nat} (e m : Int) (hp : p ≤ l.length) : (rdL l p e m).2.1 ≤ l.length := by
  unfold rdL
  split
  · exact hp
  · split
    · exact hp
    · rename_i h; exact rdn_le _ _ _ (rnx_le (cerr_0 (Classical.byContradiction fun hh => h hh)).1)
theorem rdn_s {l : List UInt8} {n q : Nat} {acc : List Int} (h : rerr l q = 0) (hn : 0 < n) : rdn l n q acc = rdn l (n - 1) (rnx l q) (acc ++ [(rval l q : Int)]) := by
  obtain ⟨m, rfl⟩ : ∃ m, n = m + 1 := ⟨n - 1, by omega⟩
  rw [rdn, if_pos h]; rfl
theorem rdn_x {l : List UInt8} {n q : Nat} {acc : List Int} (h : rerr l q ≠ 0) (hn : 0 < n) : rdn l n q acc = ([], q, rerr l q) := by
  obtain ⟨m, rfl⟩ : ∃ m, n = m + 1 := ⟨n - 1, by omega⟩
  rw [rdn, if_neg h]
set_option maxRecDepth 100000 in
set_option maxHeartbeats 4000000 in
theorem list1_c {W : World} {F : Snap} {cs : List Res} (w : World) {i rb : Nat} {p : Nat} {l : List UInt8} {j k m o bb mb lb ob : Nat} {b0 : Bool} {most : Int} (h : St W F cs w) (hi : cs[i]? = some [(rb, .cells #[.string (bs l), Vi p, Vi 0] 103 (0, 0))]) (hk : cs[k]? = some [(bb, .cells #[.pointer (some ⟨rb, 0, none⟩)] 73 (0, 0))]) (hm : cs[m]? = some [(mb, .cells #[Vi most] 3 (0, 0))]) (hj : cs[j]? = some [(lb, .cells #[.slice none 0 0] 22 (0, 0))]) (ho : cs[o]? = some [(ob, .cells #[.bool b0] 4 (0, 0))]) (hne : i ≠ j ∧ i ≠ k ∧ j ≠ k ∧ i ≠ o ∧ j ≠ o) (hl : l.length ≤ 100000) (hp : p ≤ l.length) : Calls Try.prog 60 #[.pointer (some ⟨bb, 0, none⟩), .pointer (some ⟨mb, 0, none⟩), .pointer (some ⟨lb, 0, none⟩), .pointer (some ⟨ob, 0, none⟩)] w fun r w' =>
  (r = .returned (.tuple #[]) ∧ ∃ xs nx rr v, (cerr l p most = 0 ∧ rdL l p 0 most = (xs, nx, 0)) ∧ Row 3 Vi rr v xs ∧ St W F (rr :: ((cs.set i [(rb, .cells #[.string (bs l), Vi (nx : Nat), Vi 0] 103 (0, 0))]).set j [(lb, .cells #[v] 22 (0, 0))]).set o [(ob, .cells #[.bool true] 4 (0, 0))]) w') ∨ (∃ (a : Nat) (e q : Int) (v : Value), r = .panicked (wch a e) ∧ (e ≠ 0 ∧ rdL l p 0 most = ([], a, e)) ∧ St W F ((cs.set i [(rb, .cells #[.string (bs l), Vi q, Vi 0] 103 (0, 0))]).set j [(lb, .cells #[v] 22 (0, 0))]) w')  := by
  refine enter (P := Try.prog) (args := [.pointer (some ⟨bb, 0, none⟩), .pointer (some ⟨mb, 0, none⟩), .pointer (some ⟨lb, 0, none⟩), .pointer (some ⟨ob, 0, none⟩)]) Try.func60 rfl rfl rfl ?_
  refine WC.seq (WC.seq (WC.reg ?_))
  refine WL.v (Runs.load1 Try.underlying73 rfl rfl (h.ocell (hk) rfl)) rfl ?_
  refine WL.v (Runs.load1 Try.underlying3 rfl rfl (h.ocell hm rfl)) rfl ?_
  refine WL.callP can61 rfl rfl (count_c _ most h hi hl hp) ?_
  rintro _ w1 (⟨he, rfl, h1⟩ | ⟨he, q, rfl, h1⟩)
  rotate_left
  · refine .inr ⟨_, rfl, ?_⟩
    refine die0 (.inr ⟨p, _, q, .slice none 0 0, rfl, ⟨he, by unfold rdL; rw [if_neg (by simp), if_pos he]⟩, ?_⟩)
    rw [setS (by rw [List.getElem?_set_ne hne.1]; exact hj)]
    exact h1
  refine .inl ⟨_, rfl, ?_⟩
  have hrn := rnx_le (cerr_0 he).1
  have hvm : rval l p ≤ 1099511627776 := by
    have := rdN_bnd l p 0
    unfold rdN at this
    rwa [if_neg (by simp), if_pos (cerr_0 he).1] at this
  have hacq : rnx l p ≤ l.length := hrn
  have hX : ∀ q v, ((cs.set i [(rb, .cells #[.string (bs l), Vi q, Vi 0] 103 (0, 0))]).set j [(lb, .cells #[v] 22 (0, 0))])[i]? = some [(rb, .cells #[.string (bs l), Vi q, Vi 0] 103 (0, 0))] := fun q v => by rw [List.getElem?_set_ne (Ne.symm hne.1), List.getElem?_set_self (List.getElem?_eq_some_iff.1 hi).1]
  have hXk : ∀ q v, ((cs.set i [(rb, .cells #[.string (bs l), Vi q, Vi 0] 103 (0, 0))]).set j [(lb, .cells #[v] 22 (0, 0))])[k]? = some [(bb, .cells #[.pointer (some ⟨rb, 0, none⟩)] 73 (0, 0))] := fun q v => by rw [List.getElem?_set_ne hne.2.2.1, List.getElem?_set_ne hne.2.1]; exact hk
  have hXj : ∀ q v, ((cs.set i [(rb, .cells #[.string (bs l), Vi q, Vi 0] 103 (0, 0))]).set j [(lb, .cells #[v] 22 (0, 0))])[j]? = some [(lb, .cells #[v] 22 (0, 0))] := fun q v => by rw [List.getElem?_set_self (by rw [List.length_set]; exact (List.getElem?_eq_some_iff.1 hj).1)]
  have hXo : ∀ q v, ((cs.set i [(rb, .cells #[.string (bs l), Vi q, Vi 0] 103 (0, 0))]).set j [(lb, .cells #[v] 22 (0, 0))])[o]? = some [(ob, .cells #[.bool b0] 4 (0, 0))] := fun q v => by rw [List.getElem?_set_ne hne.2.2.2.2, List.getElem?_set_ne hne.2.2.2.1]; exact ho
  have hX0 : cs.set i [(rb, .cells #[.string (bs l), Vi (rnx l p : Nat), Vi 0] 103 (0, 0))] = (cs.set i [(rb, .cells #[.string (bs l), Vi (rnx l p : Nat), Vi 0] 103 (0, 0))]).set j [(lb, .cells #[.slice none 0 0] 22 (0, 0))] := (setS (by rw [List.getElem?_set_ne hne.1]; exact hj)).symm
  refine WL.v (Runs.move rfl) rfl ?_
  refine WL.nil (WN.thn (WC.block ?_))
  refine WC.loop (σ := Nat × Nat × List Int × Res × Value) (fun q_ => [(0, .pointer (some ⟨bb, 0, none⟩)), (2, .pointer (some ⟨lb, 0, none⟩)), (3, .pointer (some ⟨ob, 0, none⟩)), (6, .int .i64 (rval l p : Int)), (7, .int .i64 (q_.1 : Int))]) (fun q_ w => q_.1 ≤ rval l p ∧ q_.2.2.1.length ≤ q_.2.1 ∧ rdn l (rval l p) (rnx l p) [] = rdn l (rval l p - q_.1) q_.2.1 q_.2.2.1 ∧ q_.2.1 ≤ l.length ∧ Row 3 Vi q_.2.2.2.1 q_.2.2.2.2 q_.2.2.1 ∧ St W F (q_.2.2.2.1 :: (cs.set i [(rb, .cells #[.string (bs l), Vi (q_.2.1 : Nat), Vi 0] 103 (0, 0))]).set j [(lb, .cells #[q_.2.2.2.2] 22 (0, 0))]) w) (fun q_ => rval l p - q_.1) (⟨0, rnx l p, [], [], .slice none 0 0⟩) (by repeat (first | exact trivial | refine ⟨rfl, ?_⟩)) (⟨by omega, Nat.zero_le _, rfl, hrn, Row.nil _ _, by rw [← hX0]; exact h1.nilRes⟩) ?_
  rintro ⟨a, q, acc, r, v⟩ w2 ⟨ha, hac, hrd, hq, hro, hL⟩
  try dsimp only at ha hac hrd hq hro hL
  refine WC.sub (s := [(0, .pointer (some ⟨bb, 0, none⟩)), (2, .pointer (some ⟨lb, 0, none⟩)), (3, .pointer (some ⟨ob, 0, none⟩)), (6, .int .i64 (rval l p : Int)), (7, .int .i64 (a : Int))]) (by repeat (first | exact trivial | refine ⟨rfl, ?_⟩)) ?_
  obtain ⟨A, cap, rfl, hcap⟩ := hro.val
  refine WC.seq (WC.reg ?_)
  refine WL.v (Runs.lss rfl rfl) rfl ?_
  refine WL.nil (WN.thn (WC.seq ?_))
  refine WC.cond rfl (fun c3 => ?_) (fun c3 => ?_)
  · try simp only [dt, df, nt, nf, ba, il, ie] at c3
    first
    | (exfalso; omega)
    | skip
      refine WC.skip (WN.thn (WC.seq (WC.block ?_)))
      refine WC.ereg hL (fun w_ => w_.cell? ⟨lb, 0, none⟩ = some (.slice A acc.length cap) ∧ w_.cell? ⟨bb, 0, none⟩ = some (.pointer (some ⟨rb, 0, none⟩))) (fun s_ => ([4] : List Nat).any (Nat.beq s_)) mixed (by kernel_rfl) (fun hx => ?_)
      intro w4 h4
      refine WE.v0 12 hx 0 (by rfl) (fun w_ hE_ => Runs.load1 Try.underlying22 rfl rfl hE_.1) rfl ?_
      refine WE.v0 12 hx 1 (by rfl) (fun w_ hE_ => Runs.load1 Try.underlying73 rfl rfl hE_.2) rfl ?_
      refine WE.op (.inr ⟨h4.ocell (i := j + 1) (hXj _ _) rfl, h4.ocell (i := k + 1) (hXk _ _) rfl⟩) (i := 2) (by rfl) (by kernel_rfl) ?_
      refine WL.callP can59 rfl rfl (num_c _ (i := i + 1) h4 (hX _ _) hl hq) ?_
      rintro _ w5 (⟨he1, rfl, h5⟩ | ⟨he1, q1, rfl, h5⟩)
      rotate_left
      · refine .inr ⟨_, rfl, ?_⟩
        refine WP.region ?_
        refine die0 (.inr ⟨q, _, q1, .slice A acc.length cap, rfl, ⟨he1, ?_⟩, ?_⟩)
        · unfold rdL; rw [if_neg (by simp), if_neg (by rw [he]; simp), hrd, rdn_x he1 (by omega)]
        · have hz := h5.drop 0
          simp only [List.set_cons_succ, List.eraseIdx_cons_zero] at hz
          rw [List.set_comm _ _ (Ne.symm hne.1), List.set_set] at hz
          exact hz
      refine .inl ⟨_, rfl, ?_⟩
      simp only [List.set_cons_succ] at h5
      rw [List.set_comm _ _ (Ne.symm hne.1), List.set_set] at h5
      have hq1 := rnx_le he1
      have hq9 : q + 1 ≤ rnx l q := by unfold rnx; omega
      refine WL.nil (WE.next ?_)
      refine WE.op (.inr ⟨h5.ocell (i := j + 1) (hXj _ _) rfl, h5.ocell (i := k + 1) (hXk _ _) rfl⟩) (i := 3) (by rfl) (by kernel_rfl) ?_
      refine WL.lit (vs := (([(rval l q : Int)] : List Int)).map Vi) h5 rfl Try.underlying22 inf3 rfl rfl rfl rfl rfl ?_
      intro lit12 w6 h6
      refine WL.nil (WE.next ?_)
      refine WE.op (.inr ⟨h6.ocell (i := j + 2) (hXj _ _) rfl, h6.ocell (i := k + 2) (hXk _ _) rfl⟩) (i := 4) (by rfl) (by kernel_rfl) ?_
      refine WL.app (ys := ([(rval l q : Int)] : List Int)) 1 h6 rfl rfl rfl rfl Try.underlying22 Try.underlying22 (.inr ⟨_, rfl⟩) inf3 rfl hro (Src.lit h6 0 rfl rfl rfl) rfl rfl (by first | omega | (simp []; done) | (simp []; omega)) (by first | omega | (simp []; done) | (simp []; omega)) ?_
      intro r7 v7 w8 hr7 h8
      simp only [lz, ls] at h8
      replace h8 := h8.drop 0
      simp only [ez, es'] at h8
      refine WL.nil (WE.next ?_)
      refine WE.op (.inl ⟨4, rfl, by kernel_rfl⟩) (i := 5) (by rfl) (by kernel_rfl) ?_
      refine WL.store' h8 (j + 1) (hXj _ _) rfl rfl inf22 (by obtain ⟨_, _, rfl, _⟩ := hr7.val; rfl) (by obtain ⟨_, _, rfl, _⟩ := hr7.val; rfl) (Free.zero _) (Nat.le_of_ble_eq_true (by obtain ⟨_, _, rfl, _⟩ := hr7.val; rfl)) ?_
      intro  w9 h9
      try simp only [lz, ls, ez, es'] at h9
      rw [List.set_set] at h9
      refine WL.nil (WE.next ?_)
      refine WE.fin (.inl ⟨4, rfl, by kernel_rfl⟩) (by kernel_rfl) ?_
      refine WN.blk (WN.thn (WC.reg ?_))
      refine WL.v (Runs.addn rfl rfl (by omega)) rfl ?_
      refine WL.v (Runs.move rfl) rfl ?_
      refine WL.nil ?_
      refine WN.again (⟨a + 1, rnx l q, acc ++ [(rval l q : Int)], r7, v7⟩ : Nat × Nat × List Int × Res × Value) (by show rval l p - (a + 1) < rval l p - a; omega) ⟨rfl, rfl, rfl, rfl, rfl, trivial⟩ ⟨by show a + 1 ≤ _; omega, by show (acc ++ [_]).length ≤ rnx l q; rw [List.length_append]; show acc.length + 1 ≤ _; omega, ?_, hq1, hr7, by obtain ⟨_, _, rfl, _⟩ := hr7.val; exact h9⟩
      show _ = rdn l (rval l p - (a + 1)) _ _
      rw [hrd, rdn_s he1 (by omega), Nat.sub_sub]
  · try simp only [dt, df, nt, nf, ba, il, ie] at c3
    first
    | (exfalso; omega)
    | skip
      refine WC.exit (WX.thn (WX.cut (WX.hit (WN.thn (WC.reg ?_)))))
      refine WL.store' hL (o + 1) (hXo _ _) rfl rfl inf4 rfl rfl (Free.zero _) (Nat.le_of_ble_eq_true rfl) ?_
      intro  w10 h10
      try simp only [lz, ls, ez, es'] at h10
      refine WL.nil ?_
      obtain rfl : a = rval l p := by omega
      rw [Nat.sub_self] at hrd
      exact end0 rfl (.inl ⟨rfl, acc, q, _, _, ⟨he, by unfold rdL; rw [if_neg (by simp), if_neg (by rw [he]; simp), hrd]; rfl⟩, hro, h10⟩)
set_option maxRecDepth 100000 in
set_option maxHeartbeats 1000000 in
theorem listL_off {W : World} {F : Snap} {cs : List Res} (w : World) {i rb : Nat} {p : Nat} {l : List UInt8} {e most : Int} (h : St W F cs w) (hi : cs[i]? = some [(rb, .cells #[.string (bs l), Vi p, Vi e] 103 (0, 0))]) (he : e ≠ 0) : Calls Try.prog 34 #[.pointer (some ⟨rb, 0, none⟩), Vi most] w fun r w' => r = .returned (.slice none 0 0) ∧ St W F cs w'  := by
  refine enter (P := Try.prog) (args := [.pointer (some ⟨rb, 0, none⟩), Vi most]) Try.func34 rfl rfl rfl ?_
  refine WC.seq (WC.reg ?_)
  refine WL.box rfl h rfl ?_
  intro b2 w1 h1
  refine WL.box rfl h1 rfl ?_
  intro b3 w2 h2
  refine WL.v (Runs.assign rfl) rfl ?_
  refine WL.nil (WN.thn (WC.seq (WC.reg ?_)))
  refine WL.alloc' rfl h2 inf22 ?_
  intro b5 w3 h3
  refine WL.nil (WN.thn (WC.seq (WC.reg ?_)))
  refine WL.alloc' rfl h3 inf4 ?_
  intro b6 w4 h4
  refine WL.store' h4 0 rfl rfl rfl inf4 rfl rfl (Free.zero _) (Nat.le_of_ble_eq_true rfl) ?_
  intro  w5 h5
  try simp only [lz, ls, ez, es'] at h5
  refine WL.nil (WN.thn (WC.seq (WC.reg ?_)))
  refine WL.v (Runs.load1 Try.underlying73 rfl rfl (h5.ocell (i := 3) rfl rfl)) rfl ?_
  refine WL.v (Runs.makeFunc (us := []) (vs := [.pointer (some ⟨b2, 0, none⟩), .pointer (some ⟨b3, 0, none⟩), .pointer (some ⟨b5, 0, none⟩), .pointer (some ⟨b6, 0, none⟩)]) rfl rfl) rfl ?_
  refine WL.call can57 rfl rfl (take_off _ _ h5 (i := i + 4) hi he) ?_
  rintro _ w6 ⟨rfl, h6⟩
  refine ⟨_, rfl, ?_⟩
  refine WL.nil (WN.thn (WC.seq (WC.seq (WC.reg ?_))))
  refine WL.v (Runs.load1 Try.underlying4 rfl rfl (h6.ocell (i := 0) rfl rfl)) rfl ?_
  refine WL.v (Runs.boolT (c := true) (Runs.not rfl) rfl) rfl ?_
  refine WL.nil (WN.thn ?_)
  refine WC.condT rfl (rfl) ?_
  refine WC.seq (WC.reg ?_)
  refine WL.v (Runs.assign rfl) rfl ?_
  refine WL.nil (WN.thn (WC.ret ?_))
  exact ret1 rfl rfl ⟨rfl, ((((h6.drop 0).drop 0).drop 0).drop 0)⟩
set_option maxRecDepth 100000 in
set_option maxHeartbeats 1000000 in
theorem listL_on {W : World} {F : Snap} {cs : List Res} (w : World) {i rb : Nat} {p : Nat} {l : List UInt8} {most : Int} (h : St W F cs w) (hi : cs[i]? = some [(rb, .cells #[.string (bs l), Vi p, Vi 0] 103 (0, 0))]) (hl : l.length ≤ 100000) (hp : p ≤ l.length) : Calls Try.prog 34 #[.pointer (some ⟨rb, 0, none⟩), Vi most] w fun r w' => ∃ rr v, r = .returned v ∧ Row 3 Vi rr v (rdL l p 0 most).1 ∧ St W F (rr :: cs.set i [(rb, .cells #[.string (bs l), Vi ((rdL l p 0 most).2.1 : Nat), Vi (rdL l p 0 most).2.2] 103 (0, 0))]) w'  := by
  refine enter (P := Try.prog) (args := [.pointer (some ⟨rb, 0, none⟩), Vi most]) Try.func34 rfl rfl rfl ?_
  refine WC.seq (WC.reg ?_)
  refine WL.box rfl h rfl ?_
  intro b2 w1 h1
  refine WL.box rfl h1 rfl ?_
  intro b3 w2 h2
  refine WL.v (Runs.assign rfl) rfl ?_
  refine WL.nil (WN.thn (WC.seq (WC.reg ?_)))
  refine WL.alloc' rfl h2 inf22 ?_
  intro b5 w3 h3
  refine WL.nil (WN.thn (WC.seq (WC.reg ?_)))
  refine WL.alloc' rfl h3 inf4 ?_
  intro b6 w4 h4
  refine WL.store' h4 0 rfl rfl rfl inf4 rfl rfl (Free.zero _) (Nat.le_of_ble_eq_true rfl) ?_
  intro  w5 h5
  try simp only [lz, ls, ez, es'] at h5
  refine WL.nil (WN.thn (WC.seq (WC.reg ?_)))
  refine WL.v (Runs.load1 Try.underlying73 rfl rfl (h5.ocell (i := 3) rfl rfl)) rfl ?_
  refine WL.v (Runs.makeFunc (us := []) (vs := [.pointer (some ⟨b2, 0, none⟩), .pointer (some ⟨b3, 0, none⟩), .pointer (some ⟨b5, 0, none⟩), .pointer (some ⟨b6, 0, none⟩)]) rfl rfl) rfl ?_
  refine WL.call can57 rfl rfl (take_on (f := 60) (caps := [.pointer (some ⟨b2, 0, none⟩), .pointer (some ⟨b3, 0, none⟩), .pointer (some ⟨b5, 0, none⟩), .pointer (some ⟨b6, 0, none⟩)]) (i := i + 4)
    (K1 := fun cs1 => ∃ xs nx rr v, rdL l p 0 most = (xs, nx, 0) ∧ Row 3 Vi rr v xs ∧ cs1 = (rr :: [(b6, .cells #[.bool true] 4 (0, 0))] :: [(b5, .cells #[v] 22 (0, 0))] :: [(b3, .cells #[Vi most] 3 (0, 0))] :: [(b2, .cells #[.pointer (some ⟨rb, 0, none⟩)] 73 (0, 0))] :: cs.set i [(rb, .cells #[.string (bs l), Vi (nx : Nat), Vi 0] 103 (0, 0))])) (K2 := fun a e cs2 => ∃ (a' : Nat) (q : Int) (v : Value), a = (a' : Int) ∧ rdL l p 0 most = ([], a', e) ∧ cs2 = ([(b6, .cells #[.bool false] 4 (0, 0))] :: [(b5, .cells #[v] 22 (0, 0))] :: [(b3, .cells #[Vi most] 3 (0, 0))] :: [(b2, .cells #[.pointer (some ⟨rb, 0, none⟩)] 73 (0, 0))] :: cs.set i [(rb, .cells #[.string (bs l), Vi q, Vi 0] 103 (0, 0))]))
    _ can60 h5 hi (fun G w2 hle hS => (list1_c w2 (i := i + 4) (j := 1) (k := 3) (m := 2) (o := 0) hS hi rfl rfl rfl rfl ⟨by omega, by omega, by omega, by omega, by omega⟩ hl hp).mono fun r w3 hh => ?_)) ?_
  · rcases hh with ⟨h1, xs, nx, rr, v, ⟨h2, h3⟩, h4, h5⟩ | ⟨a, e, q, v, h1, ⟨h2, h3⟩, h4⟩
    · exact .inl ⟨_, h1, ⟨xs, nx, rr, v, h3, h4, rfl⟩, h5⟩
    · exact .inr ⟨a, e, q, _, h1, ⟨a, q, v, rfl, h3, rfl⟩, by show (cs.set i _)[i]? = _; rw [List.getElem?_set_self (List.getElem?_eq_some_iff.1 hi).1], h4⟩
  rintro _ wt ⟨rfl, hh⟩
  refine ⟨_, rfl, ?_⟩
  obtain ⟨ok, v, rr, hS, hcase⟩ : ∃ (ok : Bool) (v : Value) (rr : Res), St W F (rr :: [(b6, .cells #[.bool ok] 4 (0, 0))] :: [(b5, .cells #[v] 22 (0, 0))] :: [(b3, .cells #[Vi most] 3 (0, 0))] :: [(b2, .cells #[.pointer (some ⟨rb, 0, none⟩)] 73 (0, 0))] :: cs.set i [(rb, .cells #[.string (bs l), Vi ((rdL l p 0 most).2.1 : Nat), Vi (rdL l p 0 most).2.2] 103 (0, 0))]) wt ∧ ((ok = true ∧ Row 3 Vi rr v (rdL l p 0 most).1 ∧ True) ∨ (ok = false ∧ rr = [] ∧ (rdL l p 0 most).1 = [])) := by
    rcases hh with ⟨cs1, ⟨xs, nx, rr, v, h3, h4, rfl⟩, h5⟩ | ⟨_, e, cs2, ⟨a, q, v, rfl, h3, rfl⟩, h5⟩
    · rw [h3]; exact ⟨_, _, _, h5, .inl ⟨rfl, h4, trivial⟩⟩
    · rw [h3]; refine ⟨_, v, _, ?_, .inr ⟨rfl, rfl, rfl⟩⟩
      simp only [List.set_cons_succ, List.set_set] at h5
      exact h5.nilRes
  refine WL.nil (WN.thn (WC.seq (WC.seq ?_)))
  rcases hcase with ⟨rfl, hr, e1⟩ | ⟨rfl, rfl, e1⟩
  · obtain ⟨A, cap, rfl, hcap⟩ := hr.val
    refine WC.reg ?_
    refine WL.v (Runs.load1 Try.underlying4 rfl rfl (hS.ocell (i := 1) rfl rfl)) rfl ?_
    refine WL.v (Runs.boolT (c := false) (Runs.not rfl) rfl) rfl ?_
    refine WL.nil (WN.thn ?_)
    refine WC.condF rfl (rfl) ?_
    refine WC.skip (WN.thn (WC.seq (WC.reg ?_)))
    refine WL.v (Runs.load1 Try.underlying22 rfl rfl (hS.ocell (i := 2) rfl rfl)) rfl ?_
    refine WL.v (Runs.assign rfl) rfl ?_
    refine WL.nil (WN.thn (WC.ret ?_))
    exact ret1 rfl rfl ⟨_, _, rfl, hr, ((((hS.drop 1).drop 1).drop 1).drop 1)⟩
  · skip
    refine WC.reg ?_
    refine WL.v (Runs.load1 Try.underlying4 rfl rfl (hS.ocell (i := 1) rfl rfl)) rfl ?_
    refine WL.v (Runs.boolT (c := true) (Runs.not rfl) rfl) rfl ?_
    refine WL.nil (WN.thn ?_)
    refine WC.condT rfl (rfl) ?_
    refine WC.seq (WC.reg ?_)
    refine WL.v (Runs.assign rfl) rfl ?_
    refine WL.nil (WN.thn (WC.ret ?_))
    refine ret1 rfl rfl ⟨_, _, rfl, ?_, ((((hS.drop 1).drop 1).drop 1).drop 1)⟩
    rw [e1]
    exact Row.nil _ _
end Wir
end Go.Proofs.Ythejglgnoingfaa
