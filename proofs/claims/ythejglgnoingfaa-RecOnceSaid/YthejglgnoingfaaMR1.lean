/- Walks of package rec: whether a record may be. -/
import Derived.Test.YthejglgnoingfaaProg
import Derived.KernelRfl
import Derived.Test.YthejglgnoingfaaMBaseAH
namespace Go.Proofs.Ythejglgnoingfaa
open Go Go.RowKit B
set_option linter.unusedVariables false
set_option linter.unusedSimpArgs false
namespace Rc

theorem mixed : Try.prog.follows .mixedOrders = true := by kernel_rfl
theorem inf3 : Inf Try.prog 3 (.int .i64 0) 1 8 := by unfold Inf; kernel_rfl
theorem fld24_0 : fldB Try.prog 24 0 0 = true := by kernel_rfl
theorem fld24_1 : fldB Try.prog 24 1 1 = true := by kernel_rfl
theorem fld24_2 : fldB Try.prog 24 2 2 = true := by kernel_rfl
theorem fld24_3 : fldB Try.prog 24 3 3 = true := by kernel_rfl
theorem fld24_4 : fldB Try.prog 24 4 4 = true := by kernel_rfl
theorem fld24_5 : fldB Try.prog 24 5 5 = true := by kernel_rfl
theorem can62 : B.Can Try.prog 62 := ⟨_, Try.func62, by kernel_rfl, rfl⟩   -- roundhouse/rec.in
theorem can63 : B.Can Try.prog 63 := ⟨_, Try.func63, by kernel_rfl, rfl⟩   -- roundhouse/rec.pids
theorem can65 : B.Can Try.prog 65 := ⟨_, Try.func65, by kernel_rfl, rfl⟩   -- roundhouse/roundhouseref15.number
abbrev Vi (n : Int) : Value := .int .i64 n
/-- a record -/
structure R where
  kd : Int
  jb : Int
  ep : Int
  st : Int
  ar : Int
  ls : List Int
def inB (n a b : Int) : Bool := decide (a ≤ n ∧ n ≤ b)
theorem in_dec (n a b : Int) : inB n a b = (decide (n ≥ a) && decide (n ≤ b)) := by
  unfold inB
  by_cases h1 : a ≤ n <;> by_cases h2 : n ≤ b <;> simp [h1, h2]
def mayN (n : Int) : Prop := 0 ≤ n ∧ n ≤ 1099511627776
instance (n : Int) : Decidable (mayN n) := inferInstanceAs (Decidable (_ ∧ _))
def lastP (xs : List Int) (i : Nat) : Int := if i = 0 then 0 else xs.getD (i - 1) 0
def pdAt (xs : List Int) (i : Nat) : Prop := lastP xs i < xs.getD i 0 ∧ xs.getD i 0 ≤ 1099511627776
instance (xs : List Int) (i : Nat) : Decidable (pdAt xs i) := inferInstanceAs (Decidable (_ ∧ _))
/-- pids may be: they rise, from 1 on -/
def okP (xs : List Int) : Prop := (∀ i, i < xs.length → pdAt xs i) ∧ (1 ≤ xs.length ∧ xs.length ≤ 256)
instance (xs : List Int) : Decidable (okP xs) := inferInstanceAs (Decidable (_ ∧ _))
def okL (r : R) : Prop := (r.kd = 1 ∧ okP r.ls) ∨ (r.kd ≠ 1 ∧ r.ls.length = 0)
instance (r : R) : Decidable (okL r) := inferInstanceAs (Decidable (_ ∨ _))
def okR (r : R) : Prop := (mayN r.jb ∧ mayN r.ep ∧ mayN r.st) ∧ (0 ≤ r.kd ∧ r.kd ≤ 7) ∧ (0 ≤ r.ar ∧ r.ar ≤ 255) ∧ okL r
instance (r : R) : Decidable (okR r) := inferInstanceAs (Decidable (_ ∧ _ ∧ _ ∧ _))
theorem pdCase (a b : Int) : b ≤ a ∨ (a < b ∧ 1099511627776 < b) ∨ (a < b ∧ b ≤ 1099511627776) := by omega
theorem okL_1 {r : R} (h : r.kd = 1) : okL r ↔ okP r.ls := by unfold okL; simp [h]
theorem okL_0 {r : R} (h : r.kd ≠ 1) : okL r ↔ r.ls.length = 0 := by unfold okL; simp [h]
def nm3 (r : R) : List Int := [r.jb, r.ep, r.st]
theorem nm3_at (r : R) {k : Nat} (hk : k < 3) : (#[Vi r.jb, Vi r.ep, Vi r.st])[k]? = some (Vi ((nm3 r).getD k 0)) := by
  have : k = 0 ∨ k = 1 ∨ k = 2 := by omega
  rcases this with rfl | rfl | rfl <;> rfl
theorem nm3_all {r : R} (h : ∀ j, j < 3 → mayN ((nm3 r).getD j 0)) : mayN r.jb ∧ mayN r.ep ∧ mayN r.st := ⟨h 0 (by omega), h 1 (by omega), h 2 (by omega)⟩
theorem nm3_no {r : R} {k : Nat} (hk : k < 3) (h : ¬ mayN ((nm3 r).getD k 0)) : ¬ okR r := fun hh => by
  have : k = 0 ∨ k = 1 ∨ k = 2 := by omega
  rcases this with rfl | rfl | rfl
  · exact h hh.1.1
  · exact h hh.1.2.1
  · exact h hh.1.2.2
theorem last_s {xs : List Int} {i : Nat} (h : 0 < i) : lastP xs i = xs.getD (i - 1) 0 := if_neg (by omega)
theorem pd_ge {xs : List Int} {i : Nat} (h : ∀ j, j < i → pdAt xs j) : 0 ≤ lastP xs i := by
  induction i with
  | zero => exact Int.le_refl _
  | succ i ih =>
    have h1 := ih (fun j hj => h j (by omega))
    have h2 := (h i (by omega)).1
    show 0 ≤ xs.getD i 0
    omega
theorem p8Case (x p : Int) (i : Nat) (hp : 0 ≤ p) (h0 : i = 0 → p = 0) : ¬ (1 ≤ x ∧ x ≤ 1099511627776) ∨ ((1 ≤ x ∧ x ≤ 1099511627776) ∧ i = 0 ∧ p < x) ∨ ((1 ≤ x ∧ x ≤ 1099511627776) ∧ 0 < i ∧ x ≤ p) ∨ ((1 ≤ x ∧ x ≤ 1099511627776) ∧ 0 < i ∧ p < x) := by omega
theorem first7 (P0 P1 P2 P3 P4 P5 P6 : Prop) : (¬ P0) ∨ (P0 ∧ ¬ P1) ∨ (P0 ∧ P1 ∧ ¬ P2) ∨ (P0 ∧ P1 ∧ P2 ∧ ¬ P3) ∨ (P0 ∧ P1 ∧ P2 ∧ P3 ∧ ¬ P4) ∨ (P0 ∧ P1 ∧ P2 ∧ P3 ∧ P4 ∧ ¬ P5) ∨ (P0 ∧ P1 ∧ P2 ∧ P3 ∧ P4 ∧ P5 ∧ ¬ P6) ∨ (P0 ∧ P1 ∧ P2 ∧ P3 ∧ P4 ∧ P5 ∧ P6) := by
  by_cases h0 : P0
  · by_cases h1 : P1
    · by_cases h2 : P2
      · by_cases h3 : P3
        · by_cases h4 : P4
          · by_cases h5 : P5
            · by_cases h6 : P6
              · exact .inr (.inr (.inr (.inr (.inr (.inr (.inr (⟨h0, h1, h2, h3, h4, h5, h6⟩)))))))
              · exact .inr (.inr (.inr (.inr (.inr (.inr (.inl ⟨h0, h1, h2, h3, h4, h5, h6⟩))))))
            · exact .inr (.inr (.inr (.inr (.inr (.inl ⟨h0, h1, h2, h3, h4, h5⟩)))))
          · exact .inr (.inr (.inr (.inr (.inl ⟨h0, h1, h2, h3, h4⟩))))
        · exact .inr (.inr (.inr (.inl ⟨h0, h1, h2, h3⟩)))
      · exact .inr (.inr (.inl ⟨h0, h1, h2⟩))
    · exact .inr (.inl ⟨h0, h1⟩)
  · exact .inl h0

theorem two (P0 P1 : Prop) : (¬ P0) ∨ (P0 ∧ ¬ P1) ∨ (P0 ∧ P1) := by
  by_cases h0 : P0
  · by_cases h1 : P1
    · exact .inr (.inr (⟨h0, h1⟩))
    · exact .inr (.inl ⟨h0, h1⟩)
  · exact .inl h0

set_option maxRecDepth 100000 in
set_option maxHeartbeats 1000000 in
theorem in_c {W : World} {F : Snap} {cs : List Res} (w : World) (n a b : Int) (h : St W F cs w) : Calls Try.prog 62 #[Vi n, Vi a, Vi b] w fun r w' => r = .returned (.bool (inB n a b)) ∧ St W F cs w'  := by
  refine enter (P := Try.prog) (args := [Vi n, Vi a, Vi b]) Try.func62 rfl rfl rfl ?_
  refine WC.seq (WC.reg ?_)
  refine WL.v (Runs.assign rfl) rfl ?_
  refine WL.nil (WN.thn (WC.seq ?_))
  by_cases h0 : n ≥ a
  · skip
    refine WC.reg ?_
    refine WL.v (Runs.move rfl) rfl ?_
    refine WL.v (Runs.move rfl) rfl ?_
    refine WL.v (Runs.boolT (c := true) (Runs.geq rfl rfl) (decide_eq_true h0)) rfl ?_
    refine WL.v (Runs.move rfl) rfl ?_
    refine WL.gon rfl rfl rfl ?_
    refine WL.v (Runs.move rfl) rfl ?_
    refine WL.gon rfl rfl rfl ?_
    refine WL.v (Runs.move rfl) rfl ?_
    refine WL.gon rfl rfl rfl ?_
    refine WL.v (Runs.leq rfl rfl) rfl ?_
    refine WL.v (Runs.pick rfl rfl rfl) rfl ?_
    refine WL.v (Runs.assign rfl) rfl ?_
    refine WL.nil (WN.thn (WC.ret ?_))
    refine ret1 rfl rfl ⟨?_, h⟩
    rw [in_dec, decide_eq_true h0]; rfl
  · skip
    refine WC.reg ?_
    refine WL.v (Runs.move rfl) rfl ?_
    refine WL.v (Runs.move rfl) rfl ?_
    refine WL.v (Runs.boolT (c := false) (Runs.geq rfl rfl) (decide_eq_false h0)) rfl ?_
    refine WL.v (Runs.move rfl) rfl ?_
    refine WL.goff rfl rfl rfl rfl ?_
    refine WL.goff rfl rfl rfl rfl ?_
    refine WL.goff rfl rfl rfl rfl ?_
    refine WL.v (Runs.pick rfl rfl rfl) rfl ?_
    refine WL.v (Runs.assign rfl) rfl ?_
    refine WL.nil (WN.thn (WC.ret ?_))
    refine ret1 rfl rfl ⟨?_, h⟩
    rw [in_dec, decide_eq_false h0]; rfl
set_option maxRecDepth 100000 in
set_option maxHeartbeats 1000000 in
theorem pids_c {W : World} {F : Snap} {cs : List Res} (w : World) {A : Option Addr} {cap : Nat} {xs : List Int} (h : St W F cs w) (hR : RdS (Kd.one Vi) F A xs) (hn : xs.length ≤ 100000) : Calls Try.prog 63 #[.slice A xs.length cap] w fun r w' => r = .returned (.bool (decide (okP xs))) ∧ St W F cs w'  := by
  refine enter (P := Try.prog) (args := [.slice A xs.length cap]) Try.func63 rfl rfl rfl ?_
  refine WC.seq (WC.reg ?_)
  refine WL.v (Runs.assign rfl) rfl ?_
  refine WL.nil (WN.thn (WC.seq (WC.reg ?_)))
  refine WL.v (Runs.assign rfl) rfl ?_
  refine WL.nil (WN.thn (WC.seq (WC.seq (WC.reg ?_))))
  refine WL.v (Runs.move rfl) rfl ?_
  refine WL.v (Runs.intT (n := (xs.length : Int)) (Runs.llen Try.underlying22 rfl rfl) rfl) rfl ?_
  refine WL.v (Runs.move rfl) rfl ?_
  refine WL.nil (WN.thn (WC.block ?_))
  refine WC.loop (σ := Nat) (fun q_ => [(0, .slice A xs.length cap), (3, Vi (lastP xs q_)), (6, .slice A xs.length cap), (7, .int .i64 (xs.length : Int)), (8, .int .i64 (q_ : Int))]) (fun q_ w => q_ ≤ xs.length ∧ (∀ j, j < q_ → pdAt xs j) ∧ St W F cs w) (fun q_ => xs.length - q_) (0) (by repeat (first | exact trivial | refine ⟨rfl, ?_⟩)) (⟨Nat.zero_le _, fun j hj => absurd hj (Nat.not_lt_zero _), h⟩) ?_
  rintro i w1 ⟨hi, hall, hL⟩
  try dsimp only at hi hall hL
  refine WC.sub (s := [(0, .slice A xs.length cap), (3, Vi (lastP xs i)), (6, .slice A xs.length cap), (7, .int .i64 (xs.length : Int)), (8, .int .i64 (i : Int))]) (by repeat (first | exact trivial | refine ⟨rfl, ?_⟩)) ?_
  refine WC.seq (WC.reg ?_)
  refine WL.v (Runs.lss rfl rfl) rfl ?_
  refine WL.nil (WN.thn (WC.seq ?_))
  refine WC.cond rfl (fun c2 => ?_) (fun c2 => ?_)
  · try simp only [dt, df, nt, nf, ba, il, ie] at c2
    first
    | (exfalso; omega)
    | skip
      refine WC.skip (WN.thn (WC.seq (WC.block (WC.seq ?_))))
      obtain ⟨ad, rfl, hrd⟩ := rd1 hR (by omega)
      have hi2 : i < xs.length := by omega
      refine WC.reg ?_
      refine WL.v (Runs.lidxN Try.underlying22 inf3 rfl rfl (n := i) rfl (by omega)) rfl ?_
      refine WL.v (Runs.loadR (f := Vi) (0 : Int) hL hrd (n := i) (by omega) Try.underlying3 rfl rfl) rfl ?_
      refine WL.v (Runs.assign rfl) rfl ?_
      refine WL.nil (WN.thn (WC.seq (WC.seq ?_)))
      rcases pdCase (lastP xs i) (xs.getD i 0) with hx | ⟨hx, hy⟩ | ⟨hx, hy⟩
      · skip
        refine WC.reg ?_
        refine WL.v (Runs.move rfl) rfl ?_
        refine WL.v (Runs.move rfl) rfl ?_
        refine WL.v (Runs.boolT (c := true) (Runs.leq rfl rfl) (by rw [decide_eq_true_eq]; omega)) rfl ?_
        refine WL.v (Runs.move rfl) rfl ?_
        refine WL.goff rfl rfl rfl rfl ?_
        refine WL.goff rfl rfl rfl rfl ?_
        refine WL.v (Runs.pick rfl rfl rfl) rfl ?_
        refine WL.nil (WN.thn ?_)
        refine WC.condT rfl (rfl) ?_
        refine WC.seq (WC.reg ?_)
        refine WL.v (Runs.assign rfl) rfl ?_
        refine WL.nil (WN.thn (WC.ret ?_))
        have hz : ¬ okP xs := fun hh => by
          have h9 := hh.1 i hi2
          unfold pdAt at h9
          omega
        refine ret1 rfl rfl ⟨?_, hL⟩
        rw [decide_eq_false hz]
      · skip
        refine WC.reg ?_
        refine WL.v (Runs.move rfl) rfl ?_
        refine WL.v (Runs.move rfl) rfl ?_
        refine WL.v (Runs.boolT (c := false) (Runs.leq rfl rfl) (by rw [decide_eq_false_iff_not]; omega)) rfl ?_
        refine WL.v (Runs.move rfl) rfl ?_
        refine WL.gon rfl rfl rfl ?_
        refine WL.v (Runs.move rfl) rfl ?_
        refine WL.gon rfl rfl rfl ?_
        refine WL.v (Runs.boolT (c := true) (Runs.gtr rfl rfl) (by rw [decide_eq_true_eq]; omega)) rfl ?_
        refine WL.v (Runs.pick rfl rfl rfl) rfl ?_
        refine WL.nil (WN.thn ?_)
        refine WC.condT rfl (rfl) ?_
        refine WC.seq (WC.reg ?_)
        refine WL.v (Runs.assign rfl) rfl ?_
        refine WL.nil (WN.thn (WC.ret ?_))
        have hz : ¬ okP xs := fun hh => by
          have h9 := hh.1 i hi2
          unfold pdAt at h9
          omega
        refine ret1 rfl rfl ⟨?_, hL⟩
        rw [decide_eq_false hz]
      · skip
        refine WC.reg ?_
        refine WL.v (Runs.move rfl) rfl ?_
        refine WL.v (Runs.move rfl) rfl ?_
        refine WL.v (Runs.boolT (c := false) (Runs.leq rfl rfl) (by rw [decide_eq_false_iff_not]; omega)) rfl ?_
        refine WL.v (Runs.move rfl) rfl ?_
        refine WL.gon rfl rfl rfl ?_
        refine WL.v (Runs.move rfl) rfl ?_
        refine WL.gon rfl rfl rfl ?_
        refine WL.v (Runs.boolT (c := false) (Runs.gtr rfl rfl) (by rw [decide_eq_false_iff_not]; omega)) rfl ?_
        refine WL.v (Runs.pick rfl rfl rfl) rfl ?_
        refine WL.nil (WN.thn ?_)
        refine WC.condF rfl (rfl) ?_
        refine WC.skip (WN.thn (WC.reg ?_))
        refine WL.v (Runs.move rfl) rfl ?_
        refine WL.v (Runs.assign rfl) rfl ?_
        refine WL.nil (WN.blk (WN.thn (WC.reg ?_)))
        refine WL.v (Runs.addn rfl rfl (by omega)) rfl ?_
        refine WL.v (Runs.move rfl) rfl ?_
        refine WL.nil ?_
        exact WN.again (i + 1) (by omega) ⟨rfl, rfl, rfl, rfl, rfl, trivial⟩ ⟨by omega, fun j hj => (by
          by_cases e : j = i
          · subst e; exact ⟨hx, hy⟩
          · exact hall j (by omega)), hL⟩
  · try simp only [dt, df, nt, nf, ba, il, ie] at c2
    first
    | (exfalso; omega)
    | skip
      refine WC.exit (WX.thn (WX.cut (WX.hit (WN.thn (WC.seq ?_)))))
      refine WC.reg ?_
      refine WL.v (Runs.move rfl) rfl ?_
      refine WL.v (Runs.intT (n := (xs.length : Int)) (Runs.llen Try.underlying22 rfl rfl) rfl) rfl ?_
      refine WL.call can62 rfl rfl (in_c _ (xs.length : Int) 1 256 hL) ?_
      rintro _ w3 ⟨rfl, h3⟩
      refine ⟨_, rfl, ?_⟩
      refine WL.v (Runs.assign rfl) rfl ?_
      refine WL.nil (WN.thn (WC.ret ?_))
      have he : decide (okP xs) = inB (xs.length : Int) 1 256 := decide_eq_decide.2 ⟨fun hh => ⟨by have := hh.2.1; omega, by have := hh.2.2; omega⟩, fun hh => ⟨fun j hj => hall j (by omega), by have := hh.1; omega, by have := hh.2; omega⟩⟩
      refine ret1 rfl rfl ⟨?_, h3⟩
      rw [he]
set_option maxRecDepth 100000 in
set_option maxHeartbeats 4000000 in
theorem may_c {W : World} {F : Snap} {cs : List Res} (w : World) {A : Option Addr} {cap : Nat} {r : R} (h : St W F cs w) (hR : RdS (Kd.one Vi) F A r.ls) (hn : r.ls.length ≤ 100000) : Calls Try.prog 36 #[.agg #[Vi r.kd, Vi r.jb, Vi r.ep, Vi r.st, Vi r.ar, .slice A r.ls.length cap]] w fun r_ w' => r_ = .returned (.bool (decide (okR r))) ∧ St W F cs w'  := by
  refine enter (P := Try.prog) (args := [.agg #[Vi r.kd, Vi r.jb, Vi r.ep, Vi r.st, Vi r.ar, .slice A r.ls.length cap]]) Try.func36 rfl rfl rfl ?_
  refine WC.seq (WC.reg ?_)
  refine WL.box rfl h rfl ?_
  intro b1 w1 h1
  refine WL.v (Runs.assign rfl) rfl ?_
  refine WL.nil (WN.thn (WC.seq (WC.seq (WC.reg ?_))))
  refine WL.v (Runs.fld fld24_1 rfl) rfl ?_
  refine WL.v (Runs.load1 Try.underlying3 rfl rfl (h1.ocell (i := 0) rfl rfl)) rfl ?_
  refine WL.v (Runs.fld fld24_2 rfl) rfl ?_
  refine WL.v (Runs.load1 Try.underlying3 rfl rfl (h1.ocell (i := 0) rfl rfl)) rfl ?_
  refine WL.v (Runs.fld fld24_3 rfl) rfl ?_
  refine WL.v (Runs.load1 Try.underlying3 rfl rfl (h1.ocell (i := 0) rfl rfl)) rfl ?_
  refine WL.v (Runs.build (vs := [(0, Vi r.jb), (1, Vi r.ep), (2, Vi r.st)]) (cells := #[Vi r.jb, Vi r.ep, Vi r.st]) rfl (by kernel_rfl)) rfl ?_
  refine WL.v (Runs.move rfl) rfl ?_
  refine WL.nil (WN.thn (WC.block ?_))
  refine WC.loop (σ := Nat) (fun q_ => [(1, .pointer (some ⟨b1, 0, none⟩)), (11, .agg #[Vi r.jb, Vi r.ep, Vi r.st]), (12, .int .i64 (q_ : Int))]) (fun q_ w => q_ ≤ 3 ∧ (∀ j, j < q_ → mayN ((nm3 r).getD j 0)) ∧ St W F ([(b1, .cells #[Vi r.kd, Vi r.jb, Vi r.ep, Vi r.st, Vi r.ar, .slice A r.ls.length cap] 24 (0, 0))] :: cs) w) (fun q_ => 3 - q_) (0) (by repeat (first | exact trivial | refine ⟨rfl, ?_⟩)) (⟨Nat.zero_le _, fun j hj => absurd hj (Nat.not_lt_zero _), h1⟩) ?_
  rintro k w2 ⟨hk, hall, hL⟩
  try dsimp only at hk hall hL
  refine WC.sub (s := [(1, .pointer (some ⟨b1, 0, none⟩)), (11, .agg #[Vi r.jb, Vi r.ep, Vi r.st]), (12, .int .i64 (k : Int))]) (by repeat (first | exact trivial | refine ⟨rfl, ?_⟩)) ?_
  refine WC.seq (WC.reg ?_)
  refine WL.v (Runs.lss rfl rfl) rfl ?_
  refine WL.nil (WN.thn (WC.seq ?_))
  refine WC.cond rfl (fun c3 => ?_) (fun c3 => ?_)
  · try simp only [dt, df, nt, nf, ba, il, ie] at c3
    first
    | (exfalso; omega)
    | skip
      refine WC.skip (WN.thn (WC.seq (WC.block (WC.seq (WC.reg ?_)))))
      refine WL.v (Runs.intT (n := (nm3 r).getD k 0) (Runs.aggIdx Try.underlying106 Try.underlying3 rfl inf3 rfl rfl (n := k) rfl (by omega) (u := Vi ((nm3 r).getD k 0)) (nm3_at r (by omega))) rfl) rfl ?_
      refine WL.v (Runs.assign rfl) rfl ?_
      refine WL.nil (WN.thn (WC.seq (WC.reg ?_)))
      refine WL.v (Runs.move rfl) rfl ?_
      refine WL.call can62 rfl rfl ((show Calls _ _ _ _ (fun e w' => e = .returned (.bool (decide (mayN ((nm3 r).getD k 0)))) ∧ St W F _ w') from in_c _ ((nm3 r).getD k 0) 0 1099511627776 hL)) ?_
      rintro _ w4 ⟨rfl, h4⟩
      refine ⟨_, rfl, ?_⟩
      refine WL.v (Runs.not rfl) rfl ?_
      refine WL.nil (WN.thn ?_)
      refine WC.cond rfl (fun c5 => ?_) (fun c5 => ?_)
      · try simp only [dt, df, nt, nf, ba, il, ie] at c5
        first
        | (exfalso; omega)
        | skip
          refine WC.seq (WC.reg ?_)
          refine WL.v (Runs.assign rfl) rfl ?_
          refine WL.nil (WN.thn (WC.ret ?_))
          refine ret1 rfl rfl ⟨?_, (h4.drop 0)⟩
          rw [decide_eq_false (nm3_no (k := k) (by omega) (by simpa using c5))]
      · try simp only [dt, df, nt, nf, ba, il, ie] at c5
        first
        | (exfalso; omega)
        | skip
          refine WC.skip (WN.blk (WN.thn (WC.reg ?_)))
          refine WL.v (Runs.addn rfl rfl (by omega)) rfl ?_
          refine WL.v (Runs.move rfl) rfl ?_
          refine WL.nil ?_
          exact WN.again (k + 1) (by omega) ⟨rfl, rfl, rfl, trivial⟩ ⟨by omega, fun j hj => (by
            by_cases e : j = k
            · subst e; simpa using c5
            · exact hall j (by omega)), h4⟩
  · try simp only [dt, df, nt, nf, ba, il, ie] at c3
    first
    | (exfalso; omega)
    | skip
      refine WC.exit (WX.thn (WX.cut (WX.hit (WN.thn (WC.seq ?_)))))
      refine WC.seq ?_
      have h3 := nm3_all (r := r) (fun j hj => hall j (by omega))
      rcases two (0 ≤ r.kd ∧ r.kd ≤ 7) (0 ≤ r.ar ∧ r.ar ≤ 255) with q0 | ⟨q0, q1⟩ | ⟨q0, q1⟩
      · skip
        refine WC.reg ?_
        refine WL.v (Runs.fld fld24_0 rfl) rfl ?_
        refine WL.v (Runs.load1 Try.underlying3 rfl rfl (hL.ocell (i := 0) rfl rfl)) rfl ?_
        refine WL.call can62 rfl rfl (in_c _ r.kd 0 7 hL) ?_
        rintro _ w6 ⟨rfl, h6⟩
        refine ⟨_, rfl, ?_⟩
        refine WL.v (Runs.boolT (c := true) (Runs.not rfl) (by unfold inB; rw [decide_eq_false q0]; rfl)) rfl ?_
        refine WL.v (Runs.move rfl) rfl ?_
        refine WL.goff rfl rfl rfl rfl ?_
        refine WL.goff rfl rfl rfl rfl ?_
        refine WL.goff rfl rfl rfl rfl ?_
        refine WL.goff rfl rfl rfl rfl ?_
        refine WL.v (Runs.pick rfl rfl rfl) rfl ?_
        refine WL.nil (WN.thn ?_)
        refine WC.condT rfl (rfl) ?_
        refine WC.seq (WC.reg ?_)
        refine WL.v (Runs.assign rfl) rfl ?_
        refine WL.nil (WN.thn (WC.ret ?_))
        refine ret1 rfl rfl ⟨?_, (h6.drop 0)⟩
        rw [decide_eq_false (fun hh : okR r => q0 hh.2.1)]
      · skip
        refine WC.reg ?_
        refine WL.v (Runs.fld fld24_0 rfl) rfl ?_
        refine WL.v (Runs.load1 Try.underlying3 rfl rfl (hL.ocell (i := 0) rfl rfl)) rfl ?_
        refine WL.call can62 rfl rfl (in_c _ r.kd 0 7 hL) ?_
        rintro _ w7 ⟨rfl, h7⟩
        refine ⟨_, rfl, ?_⟩
        refine WL.v (Runs.boolT (c := false) (Runs.not rfl) (by unfold inB; rw [decide_eq_true q0]; rfl)) rfl ?_
        refine WL.v (Runs.move rfl) rfl ?_
        refine WL.gon rfl rfl rfl ?_
        refine WL.v (Runs.fld fld24_4 rfl) rfl ?_
        refine WL.gon rfl rfl rfl ?_
        refine WL.v (Runs.load1 Try.underlying3 rfl rfl (h7.ocell (i := 0) rfl rfl)) rfl ?_
        refine WL.gon rfl rfl rfl ?_
        refine WL.call can62 rfl rfl (in_c _ r.ar 0 255 h7) ?_
        rintro _ w8 ⟨rfl, h8⟩
        refine ⟨_, rfl, ?_⟩
        refine WL.gon rfl rfl rfl ?_
        refine WL.v (Runs.boolT (c := true) (Runs.not rfl) (by unfold inB; rw [decide_eq_false q1]; rfl)) rfl ?_
        refine WL.v (Runs.pick rfl rfl rfl) rfl ?_
        refine WL.nil (WN.thn ?_)
        refine WC.condT rfl (rfl) ?_
        refine WC.seq (WC.reg ?_)
        refine WL.v (Runs.assign rfl) rfl ?_
        refine WL.nil (WN.thn (WC.ret ?_))
        refine ret1 rfl rfl ⟨?_, (h8.drop 0)⟩
        rw [decide_eq_false (fun hh : okR r => q1 hh.2.2.1)]
      · skip
        refine WC.reg ?_
        refine WL.v (Runs.fld fld24_0 rfl) rfl ?_
        refine WL.v (Runs.load1 Try.underlying3 rfl rfl (hL.ocell (i := 0) rfl rfl)) rfl ?_
        refine WL.call can62 rfl rfl (in_c _ r.kd 0 7 hL) ?_
        rintro _ w9 ⟨rfl, h9⟩
        refine ⟨_, rfl, ?_⟩
        refine WL.v (Runs.boolT (c := false) (Runs.not rfl) (by unfold inB; rw [decide_eq_true q0]; rfl)) rfl ?_
        refine WL.v (Runs.move rfl) rfl ?_
        refine WL.gon rfl rfl rfl ?_
        refine WL.v (Runs.fld fld24_4 rfl) rfl ?_
        refine WL.gon rfl rfl rfl ?_
        refine WL.v (Runs.load1 Try.underlying3 rfl rfl (h9.ocell (i := 0) rfl rfl)) rfl ?_
        refine WL.gon rfl rfl rfl ?_
        refine WL.call can62 rfl rfl (in_c _ r.ar 0 255 h9) ?_
        rintro _ w10 ⟨rfl, h10⟩
        refine ⟨_, rfl, ?_⟩
        refine WL.gon rfl rfl rfl ?_
        refine WL.v (Runs.boolT (c := false) (Runs.not rfl) (by unfold inB; rw [decide_eq_true q1]; rfl)) rfl ?_
        refine WL.v (Runs.pick rfl rfl rfl) rfl ?_
        refine WL.nil (WN.thn ?_)
        refine WC.condF rfl (rfl) ?_
        refine WC.skip (WN.thn (WC.seq (WC.seq (WC.reg ?_))))
        refine WL.v (Runs.fld fld24_0 rfl) rfl ?_
        refine WL.v (Runs.load1 Try.underlying3 rfl rfl (h10.ocell (i := 0) rfl rfl)) rfl ?_
        refine WL.v (Runs.eql rfl rfl) rfl ?_
        refine WL.nil (WN.thn ?_)
        refine WC.cond rfl (fun c11 => ?_) (fun c11 => ?_)
        · try simp only [dt, df, nt, nf, ba, il, ie] at c11
          first
          | (exfalso; omega)
          | skip
            refine WC.seq (WC.reg ?_)
            refine WL.v (Runs.fld fld24_5 rfl) rfl ?_
            refine WL.v (Runs.load1 Try.underlying22 rfl rfl (h10.ocell (i := 0) rfl rfl)) rfl ?_
            refine WL.call can63 rfl rfl (pids_c _ h10 hR hn) ?_
            rintro _ w12 ⟨rfl, h12⟩
            refine ⟨_, rfl, ?_⟩
            refine WL.v (Runs.assign rfl) rfl ?_
            refine WL.nil (WN.thn (WC.ret ?_))
            refine ret1 rfl rfl ⟨?_, (h12.drop 0)⟩
            rw [show decide (okR r) = decide (okP r.ls) from decide_eq_decide.2 ⟨fun hh => (okL_1 c11).1 hh.2.2.2, fun hh => ⟨h3, q0, q1, (okL_1 c11).2 hh⟩⟩]
        · try simp only [dt, df, nt, nf, ba, il, ie] at c11
          first
          | (exfalso; omega)
          | skip
            refine WC.skip (WN.thn (WC.seq (WC.reg ?_)))
            refine WL.v (Runs.fld fld24_5 rfl) rfl ?_
            refine WL.v (Runs.load1 Try.underlying22 rfl rfl (h10.ocell (i := 0) rfl rfl)) rfl ?_
            refine WL.v (Runs.intT (n := (r.ls.length : Int)) (Runs.llen Try.underlying22 rfl rfl) rfl) rfl ?_
            refine WL.v (Runs.eql rfl rfl) rfl ?_
            refine WL.v (Runs.assign rfl) rfl ?_
            refine WL.nil (WN.thn (WC.ret ?_))
            refine ret1 rfl rfl ⟨?_, (h10.drop 0)⟩
            rw [show decide (okR r) = decide ((r.ls.length : Int) = 0) from decide_eq_decide.2 ⟨fun hh => by have := (okL_0 c11).1 hh.2.2.2; omega, fun hh => ⟨h3, q0, q1, (okL_0 c11).2 (by omega)⟩⟩]
set_option maxRecDepth 100000 in
set_option maxHeartbeats 1000000 in
theorem number_c {W : World} {F : Snap} {cs : List Res} (w : World) (n a : Int) (h : St W F cs w) : Calls Try.prog 65 #[Vi n, Vi a] w fun r w' => r = .returned (.bool (inB n a 1099511627776)) ∧ St W F cs w'  := by
  refine enter (P := Try.prog) (args := [Vi n, Vi a]) Try.func65 rfl rfl rfl ?_
  refine WC.seq (WC.reg ?_)
  refine WL.v (Runs.assign rfl) rfl ?_
  refine WL.nil (WN.thn (WC.seq ?_))
  by_cases h0 : n ≥ a
  · skip
    refine WC.reg ?_
    refine WL.v (Runs.move rfl) rfl ?_
    refine WL.v (Runs.move rfl) rfl ?_
    refine WL.v (Runs.boolT (c := true) (Runs.geq rfl rfl) (decide_eq_true h0)) rfl ?_
    refine WL.v (Runs.move rfl) rfl ?_
    refine WL.gon rfl rfl rfl ?_
    refine WL.v (Runs.move rfl) rfl ?_
    refine WL.gon rfl rfl rfl ?_
    refine WL.v (Runs.leq rfl rfl) rfl ?_
    refine WL.v (Runs.pick rfl rfl rfl) rfl ?_
    refine WL.v (Runs.assign rfl) rfl ?_
    refine WL.nil (WN.thn (WC.ret ?_))
    refine ret1 rfl rfl ⟨?_, h⟩
    rw [in_dec, decide_eq_true h0]; rfl
  · skip
    refine WC.reg ?_
    refine WL.v (Runs.move rfl) rfl ?_
    refine WL.v (Runs.move rfl) rfl ?_
    refine WL.v (Runs.boolT (c := false) (Runs.geq rfl rfl) (decide_eq_false h0)) rfl ?_
    refine WL.v (Runs.move rfl) rfl ?_
    refine WL.goff rfl rfl rfl rfl ?_
    refine WL.goff rfl rfl rfl rfl ?_
    refine WL.v (Runs.pick rfl rfl rfl) rfl ?_
    refine WL.v (Runs.assign rfl) rfl ?_
    refine WL.nil (WN.thn (WC.ret ?_))
    refine ret1 rfl rfl ⟨?_, h⟩
    rw [in_dec, decide_eq_false h0]; rfl
set_option maxRecDepth 100000 in
set_option maxHeartbeats 8000000 in
theorem qmay_c {W : World} {F : Snap} {cs : List Res} (w : World) {A : Option Addr} {cap : Nat} {r : R} (h : St W F cs w) (hR : RdS (Kd.one Vi) F A r.ls) (hn : r.ls.length ≤ 100000) : Calls Try.prog 40 #[.agg #[Vi r.kd, Vi r.jb, Vi r.ep, Vi r.st, Vi r.ar, .slice A r.ls.length cap]] w fun r_ w' => r_ = .returned (.bool (decide (okR r))) ∧ St W F cs w'  := by
  refine enter (P := Try.prog) (args := [.agg #[Vi r.kd, Vi r.jb, Vi r.ep, Vi r.st, Vi r.ar, .slice A r.ls.length cap]]) Try.func40 rfl rfl rfl ?_
  refine WC.seq (WC.reg ?_)
  refine WL.box rfl h rfl ?_
  intro b1 w1 h1
  refine WL.v (Runs.assign rfl) rfl ?_
  refine WL.nil (WN.thn (WC.seq (WC.seq ?_)))
  rcases first7 (¬ r.kd < 0) (¬ 7 < r.kd) (mayN r.jb) (mayN r.ep) (mayN r.st) (¬ r.ar < 0) (¬ 255 < r.ar) with q0 | ⟨q0, q1⟩ | ⟨q0, q1, q2⟩ | ⟨q0, q1, q2, q3⟩ | ⟨q0, q1, q2, q3, q4⟩ | ⟨q0, q1, q2, q3, q4, q5⟩ | ⟨q0, q1, q2, q3, q4, q5, q6⟩ | ⟨q0, q1, q2, q3, q4, q5, q6⟩
  · skip
    refine WC.reg ?_
    refine WL.v (Runs.fld fld24_0 rfl) rfl ?_
    refine WL.v (Runs.load1 Try.underlying3 rfl rfl (h1.ocell (i := 0) rfl rfl)) rfl ?_
    refine WL.v (Runs.boolT (c := true) (Runs.lss rfl rfl) (by rw [decide_eq_true_eq]; omega)) rfl ?_
    refine WL.v (Runs.move rfl) rfl ?_
    refine WL.goff rfl rfl rfl rfl ?_
    refine WL.goff rfl rfl rfl rfl ?_
    refine WL.goff rfl rfl rfl rfl ?_
    refine WL.v (Runs.pick rfl rfl rfl) rfl ?_
    refine WL.v (Runs.move rfl) rfl ?_
    refine WL.goff rfl rfl rfl rfl ?_
    refine WL.goff rfl rfl rfl rfl ?_
    refine WL.goff rfl rfl rfl rfl ?_
    refine WL.goff rfl rfl rfl rfl ?_
    refine WL.v (Runs.pick rfl rfl rfl) rfl ?_
    refine WL.v (Runs.move rfl) rfl ?_
    refine WL.goff rfl rfl rfl rfl ?_
    refine WL.goff rfl rfl rfl rfl ?_
    refine WL.goff rfl rfl rfl rfl ?_
    refine WL.goff rfl rfl rfl rfl ?_
    refine WL.v (Runs.pick rfl rfl rfl) rfl ?_
    refine WL.v (Runs.move rfl) rfl ?_
    refine WL.goff rfl rfl rfl rfl ?_
    refine WL.goff rfl rfl rfl rfl ?_
    refine WL.goff rfl rfl rfl rfl ?_
    refine WL.goff rfl rfl rfl rfl ?_
    refine WL.v (Runs.pick rfl rfl rfl) rfl ?_
    refine WL.v (Runs.move rfl) rfl ?_
    refine WL.goff rfl rfl rfl rfl ?_
    refine WL.goff rfl rfl rfl rfl ?_
    refine WL.goff rfl rfl rfl rfl ?_
    refine WL.v (Runs.pick rfl rfl rfl) rfl ?_
    refine WL.v (Runs.move rfl) rfl ?_
    refine WL.goff rfl rfl rfl rfl ?_
    refine WL.goff rfl rfl rfl rfl ?_
    refine WL.goff rfl rfl rfl rfl ?_
    refine WL.v (Runs.pick rfl rfl rfl) rfl ?_
    refine WL.nil (WN.thn ?_)
    refine WC.condT rfl (rfl) ?_
    refine WC.seq (WC.reg ?_)
    refine WL.v (Runs.assign rfl) rfl ?_
    refine WL.nil (WN.thn (WC.ret ?_))
    refine ret1 rfl rfl ⟨?_, (h1.drop 0)⟩
    rw [decide_eq_false (fun hh : okR r => q0 (by have := hh.2.1.1; omega))]
  · skip
    refine WC.reg ?_
    refine WL.v (Runs.fld fld24_0 rfl) rfl ?_
    refine WL.v (Runs.load1 Try.underlying3 rfl rfl (h1.ocell (i := 0) rfl rfl)) rfl ?_
    refine WL.v (Runs.boolT (c := false) (Runs.lss rfl rfl) (by rw [decide_eq_false_iff_not]; omega)) rfl ?_
    refine WL.v (Runs.move rfl) rfl ?_
    refine WL.gon rfl rfl rfl ?_
    refine WL.v (Runs.fld fld24_0 rfl) rfl ?_
    refine WL.gon rfl rfl rfl ?_
    refine WL.v (Runs.load1 Try.underlying3 rfl rfl (h1.ocell (i := 0) rfl rfl)) rfl ?_
    refine WL.gon rfl rfl rfl ?_
    refine WL.v (Runs.boolT (c := true) (Runs.gtr rfl rfl) (by rw [decide_eq_true_eq]; omega)) rfl ?_
    refine WL.v (Runs.pick rfl rfl rfl) rfl ?_
    refine WL.v (Runs.move rfl) rfl ?_
    refine WL.goff rfl rfl rfl rfl ?_
    refine WL.goff rfl rfl rfl rfl ?_
    refine WL.goff rfl rfl rfl rfl ?_
    refine WL.goff rfl rfl rfl rfl ?_
    refine WL.v (Runs.pick rfl rfl rfl) rfl ?_
    refine WL.v (Runs.move rfl) rfl ?_
    refine WL.goff rfl rfl rfl rfl ?_
    refine WL.goff rfl rfl rfl rfl ?_
    refine WL.goff rfl rfl rfl rfl ?_
    refine WL.goff rfl rfl rfl rfl ?_
    refine WL.v (Runs.pick rfl rfl rfl) rfl ?_
    refine WL.v (Runs.move rfl) rfl ?_
    refine WL.goff rfl rfl rfl rfl ?_
    refine WL.goff rfl rfl rfl rfl ?_
    refine WL.goff rfl rfl rfl rfl ?_
    refine WL.goff rfl rfl rfl rfl ?_
    refine WL.v (Runs.pick rfl rfl rfl) rfl ?_
    refine WL.v (Runs.move rfl) rfl ?_
    refine WL.goff rfl rfl rfl rfl ?_
    refine WL.goff rfl rfl rfl rfl ?_
    refine WL.goff rfl rfl rfl rfl ?_
    refine WL.v (Runs.pick rfl rfl rfl) rfl ?_
    refine WL.v (Runs.move rfl) rfl ?_
    refine WL.goff rfl rfl rfl rfl ?_
    refine WL.goff rfl rfl rfl rfl ?_
    refine WL.goff rfl rfl rfl rfl ?_
    refine WL.v (Runs.pick rfl rfl rfl) rfl ?_
    refine WL.nil (WN.thn ?_)
    refine WC.condT rfl (rfl) ?_
    refine WC.seq (WC.reg ?_)
    refine WL.v (Runs.assign rfl) rfl ?_
    refine WL.nil (WN.thn (WC.ret ?_))
    refine ret1 rfl rfl ⟨?_, (h1.drop 0)⟩
    rw [decide_eq_false (fun hh : okR r => q1 (by have := hh.2.1.2; omega))]
  · skip
    refine WC.reg ?_
    refine WL.v (Runs.fld fld24_0 rfl) rfl ?_
    refine WL.v (Runs.load1 Try.underlying3 rfl rfl (h1.ocell (i := 0) rfl rfl)) rfl ?_
    refine WL.v (Runs.boolT (c := false) (Runs.lss rfl rfl) (by rw [decide_eq_false_iff_not]; omega)) rfl ?_
    refine WL.v (Runs.move rfl) rfl ?_
    refine WL.gon rfl rfl rfl ?_
    refine WL.v (Runs.fld fld24_0 rfl) rfl ?_
    refine WL.gon rfl rfl rfl ?_
    refine WL.v (Runs.load1 Try.underlying3 rfl rfl (h1.ocell (i := 0) rfl rfl)) rfl ?_
    refine WL.gon rfl rfl rfl ?_
    refine WL.v (Runs.boolT (c := false) (Runs.gtr rfl rfl) (by rw [decide_eq_false_iff_not]; omega)) rfl ?_
    refine WL.v (Runs.pick rfl rfl rfl) rfl ?_
    refine WL.v (Runs.move rfl) rfl ?_
    refine WL.gon rfl rfl rfl ?_
    refine WL.v (Runs.fld fld24_1 rfl) rfl ?_
    refine WL.gon rfl rfl rfl ?_
    refine WL.v (Runs.load1 Try.underlying3 rfl rfl (h1.ocell (i := 0) rfl rfl)) rfl ?_
    refine WL.gon rfl rfl rfl ?_
    refine WL.call can65 rfl rfl ((show Calls _ _ _ _ (fun e w' => e = .returned (.bool (decide (mayN r.jb))) ∧ St W F _ w') from number_c _ r.jb 0 h1)) ?_
    rintro _ w2 ⟨rfl, h2⟩
    refine ⟨_, rfl, ?_⟩
    refine WL.gon rfl rfl rfl ?_
    refine WL.v (Runs.boolT (c := true) (Runs.not rfl) (by rw [decide_eq_false q2]; rfl)) rfl ?_
    refine WL.v (Runs.pick rfl rfl rfl) rfl ?_
    refine WL.v (Runs.move rfl) rfl ?_
    refine WL.goff rfl rfl rfl rfl ?_
    refine WL.goff rfl rfl rfl rfl ?_
    refine WL.goff rfl rfl rfl rfl ?_
    refine WL.goff rfl rfl rfl rfl ?_
    refine WL.v (Runs.pick rfl rfl rfl) rfl ?_
    refine WL.v (Runs.move rfl) rfl ?_
    refine WL.goff rfl rfl rfl rfl ?_
    refine WL.goff rfl rfl rfl rfl ?_
    refine WL.goff rfl rfl rfl rfl ?_
    refine WL.goff rfl rfl rfl rfl ?_
    refine WL.v (Runs.pick rfl rfl rfl) rfl ?_
    refine WL.v (Runs.move rfl) rfl ?_
    refine WL.goff rfl rfl rfl rfl ?_
    refine WL.goff rfl rfl rfl rfl ?_
    refine WL.goff rfl rfl rfl rfl ?_
    refine WL.v (Runs.pick rfl rfl rfl) rfl ?_
    refine WL.v (Runs.move rfl) rfl ?_
    refine WL.goff rfl rfl rfl rfl ?_
    refine WL.goff rfl rfl rfl rfl ?_
    refine WL.goff rfl rfl rfl rfl ?_
    refine WL.v (Runs.pick rfl rfl rfl) rfl ?_
    refine WL.nil (WN.thn ?_)
    refine WC.condT rfl (rfl) ?_
    refine WC.seq (WC.reg ?_)
    refine WL.v (Runs.assign rfl) rfl ?_
    refine WL.nil (WN.thn (WC.ret ?_))
    refine ret1 rfl rfl ⟨?_, (h2.drop 0)⟩
    rw [decide_eq_false (fun hh : okR r => q2 hh.1.1)]
  · skip
    refine WC.reg ?_
    refine WL.v (Runs.fld fld24_0 rfl) rfl ?_
    refine WL.v (Runs.load1 Try.underlying3 rfl rfl (h1.ocell (i := 0) rfl rfl)) rfl ?_
    refine WL.v (Runs.boolT (c := false) (Runs.lss rfl rfl) (by rw [decide_eq_false_iff_not]; omega)) rfl ?_
    refine WL.v (Runs.move rfl) rfl ?_
    refine WL.gon rfl rfl rfl ?_
    refine WL.v (Runs.fld fld24_0 rfl) rfl ?_
    refine WL.gon rfl rfl rfl ?_
    refine WL.v (Runs.load1 Try.underlying3 rfl rfl (h1.ocell (i := 0) rfl rfl)) rfl ?_
    refine WL.gon rfl rfl rfl ?_
    refine WL.v (Runs.boolT (c := false) (Runs.gtr rfl rfl) (by rw [decide_eq_false_iff_not]; omega)) rfl ?_
    refine WL.v (Runs.pick rfl rfl rfl) rfl ?_
    refine WL.v (Runs.move rfl) rfl ?_
    refine WL.gon rfl rfl rfl ?_
    refine WL.v (Runs.fld fld24_1 rfl) rfl ?_
    refine WL.gon rfl rfl rfl ?_
    refine WL.v (Runs.load1 Try.underlying3 rfl rfl (h1.ocell (i := 0) rfl rfl)) rfl ?_
    refine WL.gon rfl rfl rfl ?_
    refine WL.call can65 rfl rfl ((show Calls _ _ _ _ (fun e w' => e = .returned (.bool (decide (mayN r.jb))) ∧ St W F _ w') from number_c _ r.jb 0 h1)) ?_
    rintro _ w3 ⟨rfl, h3⟩
    refine ⟨_, rfl, ?_⟩
    refine WL.gon rfl rfl rfl ?_
    refine WL.v (Runs.boolT (c := false) (Runs.not rfl) (by rw [decide_eq_true q2]; rfl)) rfl ?_
    refine WL.v (Runs.pick rfl rfl rfl) rfl ?_
    refine WL.v (Runs.move rfl) rfl ?_
    refine WL.gon rfl rfl rfl ?_
    refine WL.v (Runs.fld fld24_2 rfl) rfl ?_
    refine WL.gon rfl rfl rfl ?_
    refine WL.v (Runs.load1 Try.underlying3 rfl rfl (h3.ocell (i := 0) rfl rfl)) rfl ?_
    refine WL.gon rfl rfl rfl ?_
    refine WL.call can65 rfl rfl ((show Calls _ _ _ _ (fun e w' => e = .returned (.bool (decide (mayN r.ep))) ∧ St W F _ w') from number_c _ r.ep 0 h3)) ?_
    rintro _ w4 ⟨rfl, h4⟩
    refine ⟨_, rfl, ?_⟩
    refine WL.gon rfl rfl rfl ?_
    refine WL.v (Runs.boolT (c := true) (Runs.not rfl) (by rw [decide_eq_false q3]; rfl)) rfl ?_
    refine WL.v (Runs.pick rfl rfl rfl) rfl ?_
    refine WL.v (Runs.move rfl) rfl ?_
    refine WL.goff rfl rfl rfl rfl ?_
    refine WL.goff rfl rfl rfl rfl ?_
    refine WL.goff rfl rfl rfl rfl ?_
    refine WL.goff rfl rfl rfl rfl ?_
    refine WL.v (Runs.pick rfl rfl rfl) rfl ?_
    refine WL.v (Runs.move rfl) rfl ?_
    refine WL.goff rfl rfl rfl rfl ?_
    refine WL.goff rfl rfl rfl rfl ?_
    refine WL.goff rfl rfl rfl rfl ?_
    refine WL.v (Runs.pick rfl rfl rfl) rfl ?_
    refine WL.v (Runs.move rfl) rfl ?_
    refine WL.goff rfl rfl rfl rfl ?_
    refine WL.goff rfl rfl rfl rfl ?_
    refine WL.goff rfl rfl rfl rfl ?_
    refine WL.v (Runs.pick rfl rfl rfl) rfl ?_
    refine WL.nil (WN.thn ?_)
    refine WC.condT rfl (rfl) ?_
    refine WC.seq (WC.reg ?_)
    refine WL.v (Runs.assign rfl) rfl ?_
    refine WL.nil (WN.thn (WC.ret ?_))
    refine ret1 rfl rfl ⟨?_, (h4.drop 0)⟩
    rw [decide_eq_false (fun hh : okR r => q3 hh.1.2.1)]
  · skip
    refine WC.reg ?_
    refine WL.v (Runs.fld fld24_0 rfl) rfl ?_
    refine WL.v (Runs.load1 Try.underlying3 rfl rfl (h1.ocell (i := 0) rfl rfl)) rfl ?_
    refine WL.v (Runs.boolT (c := false) (Runs.lss rfl rfl) (by rw [decide_eq_false_iff_not]; omega)) rfl ?_
    refine WL.v (Runs.move rfl) rfl ?_
    refine WL.gon rfl rfl rfl ?_
    refine WL.v (Runs.fld fld24_0 rfl) rfl ?_
    refine WL.gon rfl rfl rfl ?_
    refine WL.v (Runs.load1 Try.underlying3 rfl rfl (h1.ocell (i := 0) rfl rfl)) rfl ?_
    refine WL.gon rfl rfl rfl ?_
    refine WL.v (Runs.boolT (c := false) (Runs.gtr rfl rfl) (by rw [decide_eq_false_iff_not]; omega)) rfl ?_
    refine WL.v (Runs.pick rfl rfl rfl) rfl ?_
    refine WL.v (Runs.move rfl) rfl ?_
    refine WL.gon rfl rfl rfl ?_
    refine WL.v (Runs.fld fld24_1 rfl) rfl ?_
    refine WL.gon rfl rfl rfl ?_
    refine WL.v (Runs.load1 Try.underlying3 rfl rfl (h1.ocell (i := 0) rfl rfl)) rfl ?_
    refine WL.gon rfl rfl rfl ?_
    refine WL.call can65 rfl rfl ((show Calls _ _ _ _ (fun e w' => e = .returned (.bool (decide (mayN r.jb))) ∧ St W F _ w') from number_c _ r.jb 0 h1)) ?_
    rintro _ w5 ⟨rfl, h5⟩
    refine ⟨_, rfl, ?_⟩
    refine WL.gon rfl rfl rfl ?_
    refine WL.v (Runs.boolT (c := false) (Runs.not rfl) (by rw [decide_eq_true q2]; rfl)) rfl ?_
    refine WL.v (Runs.pick rfl rfl rfl) rfl ?_
    refine WL.v (Runs.move rfl) rfl ?_
    refine WL.gon rfl rfl rfl ?_
    refine WL.v (Runs.fld fld24_2 rfl) rfl ?_
    refine WL.gon rfl rfl rfl ?_
    refine WL.v (Runs.load1 Try.underlying3 rfl rfl (h5.ocell (i := 0) rfl rfl)) rfl ?_
    refine WL.gon rfl rfl rfl ?_
    refine WL.call can65 rfl rfl ((show Calls _ _ _ _ (fun e w' => e = .returned (.bool (decide (mayN r.ep))) ∧ St W F _ w') from number_c _ r.ep 0 h5)) ?_
    rintro _ w6 ⟨rfl, h6⟩
    refine ⟨_, rfl, ?_⟩
    refine WL.gon rfl rfl rfl ?_
    refine WL.v (Runs.boolT (c := false) (Runs.not rfl) (by rw [decide_eq_true q3]; rfl)) rfl ?_
    refine WL.v (Runs.pick rfl rfl rfl) rfl ?_
    refine WL.v (Runs.move rfl) rfl ?_
    refine WL.gon rfl rfl rfl ?_
    refine WL.v (Runs.fld fld24_3 rfl) rfl ?_
    refine WL.gon rfl rfl rfl ?_
    refine WL.v (Runs.load1 Try.underlying3 rfl rfl (h6.ocell (i := 0) rfl rfl)) rfl ?_
    refine WL.gon rfl rfl rfl ?_
    refine WL.call can65 rfl rfl ((show Calls _ _ _ _ (fun e w' => e = .returned (.bool (decide (mayN r.st))) ∧ St W F _ w') from number_c _ r.st 0 h6)) ?_
    rintro _ w7 ⟨rfl, h7⟩
    refine ⟨_, rfl, ?_⟩
    refine WL.gon rfl rfl rfl ?_
    refine WL.v (Runs.boolT (c := true) (Runs.not rfl) (by rw [decide_eq_false q4]; rfl)) rfl ?_
    refine WL.v (Runs.pick rfl rfl rfl) rfl ?_
    refine WL.v (Runs.move rfl) rfl ?_
    refine WL.goff rfl rfl rfl rfl ?_
    refine WL.goff rfl rfl rfl rfl ?_
    refine WL.goff rfl rfl rfl rfl ?_
    refine WL.v (Runs.pick rfl rfl rfl) rfl ?_
    refine WL.v (Runs.move rfl) rfl ?_
    refine WL.goff rfl rfl rfl rfl ?_
    refine WL.goff rfl rfl rfl rfl ?_
    refine WL.goff rfl rfl rfl rfl ?_
    refine WL.v (Runs.pick rfl rfl rfl) rfl ?_
    refine WL.nil (WN.thn ?_)
    refine WC.condT rfl (rfl) ?_
    refine WC.seq (WC.reg ?_)
    refine WL.v (Runs.assign rfl) rfl ?_
    refine WL.nil (WN.thn (WC.ret ?_))
    refine ret1 rfl rfl ⟨?_, (h7.drop 0)⟩
    rw [decide_eq_false (fun hh : okR r => q4 hh.1.2.2)]
  · skip
    refine WC.reg ?_
    refine WL.v (Runs.fld fld24_0 rfl) rfl ?_
    refine WL.v (Runs.load1 Try.underlying3 rfl rfl (h1.ocell (i := 0) rfl rfl)) rfl ?_
    refine WL.v (Runs.boolT (c := false) (Runs.lss rfl rfl) (by rw [decide_eq_false_iff_not]; omega)) rfl ?_
    refine WL.v (Runs.move rfl) rfl ?_
    refine WL.gon rfl rfl rfl ?_
    refine WL.v (Runs.fld fld24_0 rfl) rfl ?_
    refine WL.gon rfl rfl rfl ?_
    refine WL.v (Runs.load1 Try.underlying3 rfl rfl (h1.ocell (i := 0) rfl rfl)) rfl ?_
    refine WL.gon rfl rfl rfl ?_
    refine WL.v (Runs.boolT (c := false) (Runs.gtr rfl rfl) (by rw [decide_eq_false_iff_not]; omega)) rfl ?_
    refine WL.v (Runs.pick rfl rfl rfl) rfl ?_
    refine WL.v (Runs.move rfl) rfl ?_
    refine WL.gon rfl rfl rfl ?_
    refine WL.v (Runs.fld fld24_1 rfl) rfl ?_
    refine WL.gon rfl rfl rfl ?_
    refine WL.v (Runs.load1 Try.underlying3 rfl rfl (h1.ocell (i := 0) rfl rfl)) rfl ?_
    refine WL.gon rfl rfl rfl ?_
    refine WL.call can65 rfl rfl ((show Calls _ _ _ _ (fun e w' => e = .returned (.bool (decide (mayN r.jb))) ∧ St W F _ w') from number_c _ r.jb 0 h1)) ?_
    rintro _ w8 ⟨rfl, h8⟩
    refine ⟨_, rfl, ?_⟩
    refine WL.gon rfl rfl rfl ?_
    refine WL.v (Runs.boolT (c := false) (Runs.not rfl) (by rw [decide_eq_true q2]; rfl)) rfl ?_
    refine WL.v (Runs.pick rfl rfl rfl) rfl ?_
    refine WL.v (Runs.move rfl) rfl ?_
    refine WL.gon rfl rfl rfl ?_
    refine WL.v (Runs.fld fld24_2 rfl) rfl ?_
    refine WL.gon rfl rfl rfl ?_
    refine WL.v (Runs.load1 Try.underlying3 rfl rfl (h8.ocell (i := 0) rfl rfl)) rfl ?_
    refine WL.gon rfl rfl rfl ?_
    refine WL.call can65 rfl rfl ((show Calls _ _ _ _ (fun e w' => e = .returned (.bool (decide (mayN r.ep))) ∧ St W F _ w') from number_c _ r.ep 0 h8)) ?_
    rintro _ w9 ⟨rfl, h9⟩
    refine ⟨_, rfl, ?_⟩
    refine WL.gon rfl rfl rfl ?_
    refine WL.v (Runs.boolT (c := false) (Runs.not rfl) (by rw [decide_eq_true q3]; rfl)) rfl ?_
    refine WL.v (Runs.pick rfl rfl rfl) rfl ?_
    refine WL.v (Runs.move rfl) rfl ?_
    refine WL.gon rfl rfl rfl ?_
    refine WL.v (Runs.fld fld24_3 rfl) rfl ?_
    refine WL.gon rfl rfl rfl ?_
    refine WL.v (Runs.load1 Try.underlying3 rfl rfl (h9.ocell (i := 0) rfl rfl)) rfl ?_
    refine WL.gon rfl rfl rfl ?_
    refine WL.call can65 rfl rfl ((show Calls _ _ _ _ (fun e w' => e = .returned (.bool (decide (mayN r.st))) ∧ St W F _ w') from number_c _ r.st 0 h9)) ?_
    rintro _ w10 ⟨rfl, h10⟩
    refine ⟨_, rfl, ?_⟩
    refine WL.gon rfl rfl rfl ?_
    refine WL.v (Runs.boolT (c := false) (Runs.not rfl) (by rw [decide_eq_true q4]; rfl)) rfl ?_
    refine WL.v (Runs.pick rfl rfl rfl) rfl ?_
    refine WL.v (Runs.move rfl) rfl ?_
    refine WL.gon rfl rfl rfl ?_
    refine WL.v (Runs.fld fld24_4 rfl) rfl ?_
    refine WL.gon rfl rfl rfl ?_
    refine WL.v (Runs.load1 Try.underlying3 rfl rfl (h10.ocell (i := 0) rfl rfl)) rfl ?_
    refine WL.gon rfl rfl rfl ?_
    refine WL.v (Runs.boolT (c := true) (Runs.lss rfl rfl) (by rw [decide_eq_true_eq]; omega)) rfl ?_
    refine WL.v (Runs.pick rfl rfl rfl) rfl ?_
    refine WL.v (Runs.move rfl) rfl ?_
    refine WL.goff rfl rfl rfl rfl ?_
    refine WL.goff rfl rfl rfl rfl ?_
    refine WL.goff rfl rfl rfl rfl ?_
    refine WL.v (Runs.pick rfl rfl rfl) rfl ?_
    refine WL.nil (WN.thn ?_)
    refine WC.condT rfl (rfl) ?_
    refine WC.seq (WC.reg ?_)
    refine WL.v (Runs.assign rfl) rfl ?_
    refine WL.nil (WN.thn (WC.ret ?_))
    refine ret1 rfl rfl ⟨?_, (h10.drop 0)⟩
    rw [decide_eq_false (fun hh : okR r => q5 (by have := hh.2.2.1.1; omega))]
  · skip
    refine WC.reg ?_
    refine WL.v (Runs.fld fld24_0 rfl) rfl ?_
    refine WL.v (Runs.load1 Try.underlying3 rfl rfl (h1.ocell (i := 0) rfl rfl)) rfl ?_
    refine WL.v (Runs.boolT (c := false) (Runs.lss rfl rfl) (by rw [decide_eq_false_iff_not]; omega)) rfl ?_
    refine WL.v (Runs.move rfl) rfl ?_
    refine WL.gon rfl rfl rfl ?_
    refine WL.v (Runs.fld fld24_0 rfl) rfl ?_
    refine WL.gon rfl rfl rfl ?_
    refine WL.v (Runs.load1 Try.underlying3 rfl rfl (h1.ocell (i := 0) rfl rfl)) rfl ?_
    refine WL.gon rfl rfl rfl ?_
    refine WL.v (Runs.boolT (c := false) (Runs.gtr rfl rfl) (by rw [decide_eq_false_iff_not]; omega)) rfl ?_
    refine WL.v (Runs.pick rfl rfl rfl) rfl ?_
    refine WL.v (Runs.move rfl) rfl ?_
    refine WL.gon rfl rfl rfl ?_
    refine WL.v (Runs.fld fld24_1 rfl) rfl ?_
    refine WL.gon rfl rfl rfl ?_
    refine WL.v (Runs.load1 Try.underlying3 rfl rfl (h1.ocell (i := 0) rfl rfl)) rfl ?_
    refine WL.gon rfl rfl rfl ?_
    refine WL.call can65 rfl rfl ((show Calls _ _ _ _ (fun e w' => e = .returned (.bool (decide (mayN r.jb))) ∧ St W F _ w') from number_c _ r.jb 0 h1)) ?_
    rintro _ w11 ⟨rfl, h11⟩
    refine ⟨_, rfl, ?_⟩
    refine WL.gon rfl rfl rfl ?_
    refine WL.v (Runs.boolT (c := false) (Runs.not rfl) (by rw [decide_eq_true q2]; rfl)) rfl ?_
    refine WL.v (Runs.pick rfl rfl rfl) rfl ?_
    refine WL.v (Runs.move rfl) rfl ?_
    refine WL.gon rfl rfl rfl ?_
    refine WL.v (Runs.fld fld24_2 rfl) rfl ?_
    refine WL.gon rfl rfl rfl ?_
    refine WL.v (Runs.load1 Try.underlying3 rfl rfl (h11.ocell (i := 0) rfl rfl)) rfl ?_
    refine WL.gon rfl rfl rfl ?_
    refine WL.call can65 rfl rfl ((show Calls _ _ _ _ (fun e w' => e = .returned (.bool (decide (mayN r.ep))) ∧ St W F _ w') from number_c _ r.ep 0 h11)) ?_
    rintro _ w12 ⟨rfl, h12⟩
    refine ⟨_, rfl, ?_⟩
    refine WL.gon rfl rfl rfl ?_
    refine WL.v (Runs.boolT (c := false) (Runs.not rfl) (by rw [decide_eq_true q3]; rfl)) rfl ?_
    refine WL.v (Runs.pick rfl rfl rfl) rfl ?_
    refine WL.v (Runs.move rfl) rfl ?_
    refine WL.gon rfl rfl rfl ?_
    refine WL.v (Runs.fld fld24_3 rfl) rfl ?_
    refine WL.gon rfl rfl rfl ?_
    refine WL.v (Runs.load1 Try.underlying3 rfl rfl (h12.ocell (i := 0) rfl rfl)) rfl ?_
    refine WL.gon rfl rfl rfl ?_
    refine WL.call can65 rfl rfl ((show Calls _ _ _ _ (fun e w' => e = .returned (.bool (decide (mayN r.st))) ∧ St W F _ w') from number_c _ r.st 0 h12)) ?_
    rintro _ w13 ⟨rfl, h13⟩
    refine ⟨_, rfl, ?_⟩
    refine WL.gon rfl rfl rfl ?_
    refine WL.v (Runs.boolT (c := false) (Runs.not rfl) (by rw [decide_eq_true q4]; rfl)) rfl ?_
    refine WL.v (Runs.pick rfl rfl rfl) rfl ?_
    refine WL.v (Runs.move rfl) rfl ?_
    refine WL.gon rfl rfl rfl ?_
    refine WL.v (Runs.fld fld24_4 rfl) rfl ?_
    refine WL.gon rfl rfl rfl ?_
    refine WL.v (Runs.load1 Try.underlying3 rfl rfl (h13.ocell (i := 0) rfl rfl)) rfl ?_
    refine WL.gon rfl rfl rfl ?_
    refine WL.v (Runs.boolT (c := false) (Runs.lss rfl rfl) (by rw [decide_eq_false_iff_not]; omega)) rfl ?_
    refine WL.v (Runs.pick rfl rfl rfl) rfl ?_
    refine WL.v (Runs.move rfl) rfl ?_
    refine WL.gon rfl rfl rfl ?_
    refine WL.v (Runs.fld fld24_4 rfl) rfl ?_
    refine WL.gon rfl rfl rfl ?_
    refine WL.v (Runs.load1 Try.underlying3 rfl rfl (h13.ocell (i := 0) rfl rfl)) rfl ?_
    refine WL.gon rfl rfl rfl ?_
    refine WL.v (Runs.boolT (c := true) (Runs.gtr rfl rfl) (by rw [decide_eq_true_eq]; omega)) rfl ?_
    refine WL.v (Runs.pick rfl rfl rfl) rfl ?_
    refine WL.nil (WN.thn ?_)
    refine WC.condT rfl (rfl) ?_
    refine WC.seq (WC.reg ?_)
    refine WL.v (Runs.assign rfl) rfl ?_
    refine WL.nil (WN.thn (WC.ret ?_))
    refine ret1 rfl rfl ⟨?_, (h13.drop 0)⟩
    rw [decide_eq_false (fun hh : okR r => q6 (by have := hh.2.2.1.2; omega))]
  · skip
    refine WC.reg ?_
    refine WL.v (Runs.fld fld24_0 rfl) rfl ?_
    refine WL.v (Runs.load1 Try.underlying3 rfl rfl (h1.ocell (i := 0) rfl rfl)) rfl ?_
    refine WL.v (Runs.boolT (c := false) (Runs.lss rfl rfl) (by rw [decide_eq_false_iff_not]; omega)) rfl ?_
    refine WL.v (Runs.move rfl) rfl ?_
    refine WL.gon rfl rfl rfl ?_
    refine WL.v (Runs.fld fld24_0 rfl) rfl ?_
    refine WL.gon rfl rfl rfl ?_
    refine WL.v (Runs.load1 Try.underlying3 rfl rfl (h1.ocell (i := 0) rfl rfl)) rfl ?_
    refine WL.gon rfl rfl rfl ?_
    refine WL.v (Runs.boolT (c := false) (Runs.gtr rfl rfl) (by rw [decide_eq_false_iff_not]; omega)) rfl ?_
    refine WL.v (Runs.pick rfl rfl rfl) rfl ?_
    refine WL.v (Runs.move rfl) rfl ?_
    refine WL.gon rfl rfl rfl ?_
    refine WL.v (Runs.fld fld24_1 rfl) rfl ?_
    refine WL.gon rfl rfl rfl ?_
    refine WL.v (Runs.load1 Try.underlying3 rfl rfl (h1.ocell (i := 0) rfl rfl)) rfl ?_
    refine WL.gon rfl rfl rfl ?_
    refine WL.call can65 rfl rfl ((show Calls _ _ _ _ (fun e w' => e = .returned (.bool (decide (mayN r.jb))) ∧ St W F _ w') from number_c _ r.jb 0 h1)) ?_
    rintro _ w14 ⟨rfl, h14⟩
    refine ⟨_, rfl, ?_⟩
    refine WL.gon rfl rfl rfl ?_
    refine WL.v (Runs.boolT (c := false) (Runs.not rfl) (by rw [decide_eq_true q2]; rfl)) rfl ?_
    refine WL.v (Runs.pick rfl rfl rfl) rfl ?_
    refine WL.v (Runs.move rfl) rfl ?_
    refine WL.gon rfl rfl rfl ?_
    refine WL.v (Runs.fld fld24_2 rfl) rfl ?_
    refine WL.gon rfl rfl rfl ?_
    refine WL.v (Runs.load1 Try.underlying3 rfl rfl (h14.ocell (i := 0) rfl rfl)) rfl ?_
    refine WL.gon rfl rfl rfl ?_
    refine WL.call can65 rfl rfl ((show Calls _ _ _ _ (fun e w' => e = .returned (.bool (decide (mayN r.ep))) ∧ St W F _ w') from number_c _ r.ep 0 h14)) ?_
    rintro _ w15 ⟨rfl, h15⟩
    refine ⟨_, rfl, ?_⟩
    refine WL.gon rfl rfl rfl ?_
    refine WL.v (Runs.boolT (c := false) (Runs.not rfl) (by rw [decide_eq_true q3]; rfl)) rfl ?_
    refine WL.v (Runs.pick rfl rfl rfl) rfl ?_
    refine WL.v (Runs.move rfl) rfl ?_
    refine WL.gon rfl rfl rfl ?_
    refine WL.v (Runs.fld fld24_3 rfl) rfl ?_
    refine WL.gon rfl rfl rfl ?_
    refine WL.v (Runs.load1 Try.underlying3 rfl rfl (h15.ocell (i := 0) rfl rfl)) rfl ?_
    refine WL.gon rfl rfl rfl ?_
    refine WL.call can65 rfl rfl ((show Calls _ _ _ _ (fun e w' => e = .returned (.bool (decide (mayN r.st))) ∧ St W F _ w') from number_c _ r.st 0 h15)) ?_
    rintro _ w16 ⟨rfl, h16⟩
    refine ⟨_, rfl, ?_⟩
    refine WL.gon rfl rfl rfl ?_
    refine WL.v (Runs.boolT (c := false) (Runs.not rfl) (by rw [decide_eq_true q4]; rfl)) rfl ?_
    refine WL.v (Runs.pick rfl rfl rfl) rfl ?_
    refine WL.v (Runs.move rfl) rfl ?_
    refine WL.gon rfl rfl rfl ?_
    refine WL.v (Runs.fld fld24_4 rfl) rfl ?_
    refine WL.gon rfl rfl rfl ?_
    refine WL.v (Runs.load1 Try.underlying3 rfl rfl (h16.ocell (i := 0) rfl rfl)) rfl ?_
    refine WL.gon rfl rfl rfl ?_
    refine WL.v (Runs.boolT (c := false) (Runs.lss rfl rfl) (by rw [decide_eq_false_iff_not]; omega)) rfl ?_
    refine WL.v (Runs.pick rfl rfl rfl) rfl ?_
    refine WL.v (Runs.move rfl) rfl ?_
    refine WL.gon rfl rfl rfl ?_
    refine WL.v (Runs.fld fld24_4 rfl) rfl ?_
    refine WL.gon rfl rfl rfl ?_
    refine WL.v (Runs.load1 Try.underlying3 rfl rfl (h16.ocell (i := 0) rfl rfl)) rfl ?_
    refine WL.gon rfl rfl rfl ?_
    refine WL.v (Runs.boolT (c := false) (Runs.gtr rfl rfl) (by rw [decide_eq_false_iff_not]; omega)) rfl ?_
    refine WL.v (Runs.pick rfl rfl rfl) rfl ?_
    refine WL.nil (WN.thn ?_)
    refine WC.condF rfl (rfl) ?_
    refine WC.skip (WN.thn (WC.seq (WC.seq (WC.reg ?_))))
    refine WL.v (Runs.fld fld24_0 rfl) rfl ?_
    refine WL.v (Runs.load1 Try.underlying3 rfl rfl (h16.ocell (i := 0) rfl rfl)) rfl ?_
    refine WL.v (Runs.neq rfl rfl) rfl ?_
    refine WL.nil (WN.thn ?_)
    refine WC.cond rfl (fun c17 => ?_) (fun c17 => ?_)
    · try simp only [dt, df, nt, nf, ba, il, ie] at c17
      first
      | (exfalso; omega)
      | skip
        refine WC.seq (WC.reg ?_)
        refine WL.v (Runs.fld fld24_5 rfl) rfl ?_
        refine WL.v (Runs.load1 Try.underlying22 rfl rfl (h16.ocell (i := 0) rfl rfl)) rfl ?_
        refine WL.v (Runs.intT (n := (r.ls.length : Int)) (Runs.llen Try.underlying22 rfl rfl) rfl) rfl ?_
        refine WL.v (Runs.eql rfl rfl) rfl ?_
        refine WL.v (Runs.assign rfl) rfl ?_
        refine WL.nil (WN.thn (WC.ret ?_))
        refine ret1 rfl rfl ⟨?_, (h16.drop 0)⟩
        rw [show decide (okR r) = decide ((r.ls.length : Int) = 0) from decide_eq_decide.2 ⟨fun hh => by have := (okL_0 (by simpa using c17)).1 hh.2.2.2; omega, fun hh => ⟨⟨q2, q3, q4⟩, ⟨by omega, by omega⟩, ⟨by omega, by omega⟩, (okL_0 (by simpa using c17)).2 (by omega)⟩⟩]
    · try simp only [dt, df, nt, nf, ba, il, ie] at c17
      first
      | (exfalso; omega)
      | skip
        refine WC.skip (WN.thn (WC.seq (WC.seq ?_)))
        have hk1 : r.kd = 1 := by simpa using c17
        refine WC.reg ?_
        refine WL.v (Runs.assign rfl) rfl ?_
        refine WL.nil (WN.thn (WC.block ?_))
        refine WC.loop (σ := Nat) (fun q_ => [(1, .pointer (some ⟨b1, 0, none⟩)), (3, .int .i64 (q_ : Int))]) (fun q_ w => q_ ≤ r.ls.length ∧ (∀ j, j < q_ → pdAt r.ls j) ∧ St W F ([(b1, .cells #[Vi r.kd, Vi r.jb, Vi r.ep, Vi r.st, Vi r.ar, .slice A r.ls.length cap] 24 (0, 0))] :: cs) w) (fun q_ => r.ls.length - q_) (0) (by repeat (first | exact trivial | refine ⟨rfl, ?_⟩)) (⟨Nat.zero_le _, fun j hj => absurd hj (Nat.not_lt_zero _), h16⟩) ?_
        rintro i w18 ⟨hi, hall, hL⟩
        try dsimp only at hi hall hL
        refine WC.sub (s := [(1, .pointer (some ⟨b1, 0, none⟩)), (3, .int .i64 (i : Int))]) (by repeat (first | exact trivial | refine ⟨rfl, ?_⟩)) ?_
        refine WC.seq (WC.seq (WC.reg ?_))
        refine WL.v (Runs.move rfl) rfl ?_
        refine WL.v (Runs.fld fld24_5 rfl) rfl ?_
        refine WL.v (Runs.load1 Try.underlying22 rfl rfl (hL.ocell (i := 0) rfl rfl)) rfl ?_
        refine WL.v (Runs.intT (n := (r.ls.length : Int)) (Runs.llen Try.underlying22 rfl rfl) rfl) rfl ?_
        refine WL.v (Runs.lss rfl rfl) rfl ?_
        refine WL.nil (WN.thn ?_)
        refine WC.cond rfl (fun c19 => ?_) (fun c19 => ?_)
        · try simp only [dt, df, nt, nf, ba, il, ie] at c19
          first
          | (exfalso; omega)
          | skip
            refine WC.skip (WN.thn (WC.seq (WC.block (WC.seq ?_))))
            obtain ⟨ad, rfl, hrd⟩ := rd1 hR (by omega)
            have hi2 : i < r.ls.length := by omega
            have hp0 := pd_ge hall
            rcases p8Case (r.ls.getD i 0) (lastP r.ls i) i hp0 (fun e => by subst e; rfl) with hx | ⟨hx, h0, hlt⟩ | ⟨hx, h0, hle⟩ | ⟨hx, h0, hlt⟩
            · skip
              refine WC.qreg (C := fun w_ => St W _ _ w_) mixed (by kernel_rfl) (hL.drew) ?_
              refine WQ.val (fun w_ hC_ => Runs.fld fld24_5 rfl) rfl ?_
              refine WQ.val (fun w_ hC_ => Runs.load1 Try.underlying22 rfl rfl (hC_.ocell (i := 0) rfl rfl)) rfl ?_
              refine WQ.val (fun w_ hC_ => Runs.move rfl) rfl ?_
              refine WQ.val (fun w_ hC_ => Runs.lidxN Try.underlying22 inf3 rfl rfl (n := i) rfl (by omega)) rfl ?_
              refine WQ.val (fun w_ hC_ => Runs.loadR (f := Vi) (0 : Int) hC_ hrd (n := i) (by omega) Try.underlying3 rfl rfl) rfl ?_
              refine WQ.call can65 rfl rfl (fun w_ hC_ => number_c _ (r.ls.getD i 0) 1 hC_) ?_
              refine WQ.val (fun w_ hC_ => Runs.boolT (c := true) (Runs.not rfl) (by unfold inB; rw [decide_eq_false hx]; rfl)) rfl ?_
              refine WQ.val (fun w_ hC_ => Runs.move rfl) rfl ?_
              refine WQ.goff rfl rfl rfl rfl ?_
              refine WQ.goff rfl rfl rfl rfl ?_
              refine WQ.goff rfl rfl rfl rfl ?_
              refine WQ.goffU rfl rfl rfl ?_
              refine WQ.goffU rfl rfl rfl ?_
              refine WQ.goffU rfl rfl rfl ?_
              refine WQ.goffU rfl rfl rfl ?_
              refine WQ.goffU rfl rfl rfl ?_
              refine WQ.goffU rfl rfl rfl ?_
              refine WQ.goffU rfl rfl rfl ?_
              refine WQ.goffU rfl rfl rfl ?_
              refine WQ.goffU rfl rfl rfl ?_
              refine WQ.goffU rfl rfl rfl ?_
              refine WQ.goffU rfl rfl rfl ?_
              refine WQ.goffU rfl rfl rfl ?_
              refine WQ.goff rfl rfl rfl rfl ?_
              refine WQ.val (fun w_ hC_ => Runs.pick rfl rfl rfl) rfl ?_
              refine WQ.fin ?_
              intro w20 h20
              refine WN.thn ?_
              refine WC.condT rfl (rfl) ?_
              refine WC.seq (WC.reg ?_)
              refine WL.v (Runs.assign rfl) rfl ?_
              refine WL.nil (WN.thn (WC.ret ?_))
              refine ret1 rfl rfl ⟨?_, (h20.drop 0)⟩
              rw [decide_eq_false (fun hh : okR r => by have h9 := ((okL_1 hk1).1 hh.2.2.2).1 i hi2; unfold pdAt at h9; omega)]
            · skip
              refine WC.qreg (C := fun w_ => St W _ _ w_) mixed (by kernel_rfl) (hL.drew) ?_
              refine WQ.val (fun w_ hC_ => Runs.fld fld24_5 rfl) rfl ?_
              refine WQ.val (fun w_ hC_ => Runs.load1 Try.underlying22 rfl rfl (hC_.ocell (i := 0) rfl rfl)) rfl ?_
              refine WQ.val (fun w_ hC_ => Runs.move rfl) rfl ?_
              refine WQ.val (fun w_ hC_ => Runs.lidxN Try.underlying22 inf3 rfl rfl (n := i) rfl (by omega)) rfl ?_
              refine WQ.val (fun w_ hC_ => Runs.loadR (f := Vi) (0 : Int) hC_ hrd (n := i) (by omega) Try.underlying3 rfl rfl) rfl ?_
              refine WQ.call can65 rfl rfl (fun w_ hC_ => number_c _ (r.ls.getD i 0) 1 hC_) ?_
              refine WQ.val (fun w_ hC_ => Runs.boolT (c := false) (Runs.not rfl) (by unfold inB; rw [decide_eq_true hx]; rfl)) rfl ?_
              refine WQ.val (fun w_ hC_ => Runs.move rfl) rfl ?_
              refine WQ.gon rfl rfl rfl ?_
              refine WQ.val (fun w_ hC_ => Runs.move rfl) rfl ?_
              refine WQ.gon rfl rfl rfl ?_
              refine WQ.val (fun w_ hC_ => Runs.boolT (c := false) (Runs.gtr rfl rfl) (by rw [decide_eq_false_iff_not]; omega)) rfl ?_
              refine WQ.gon rfl rfl rfl ?_
              refine WQ.val (fun w_ hC_ => Runs.move rfl) rfl ?_
              refine WQ.goff rfl rfl rfl rfl ?_
              refine WQ.goff rfl rfl rfl rfl ?_
              refine WQ.goff rfl rfl rfl rfl ?_
              refine WQ.goff rfl rfl rfl rfl ?_
              refine WQ.goff rfl rfl rfl rfl ?_
              refine WQ.goff rfl rfl rfl rfl ?_
              refine WQ.goff rfl rfl rfl rfl ?_
              refine WQ.goff rfl rfl rfl rfl ?_
              refine WQ.goff rfl rfl rfl rfl ?_
              refine WQ.goff rfl rfl rfl rfl ?_
              refine WQ.goff rfl rfl rfl rfl ?_
              refine WQ.goff rfl rfl rfl rfl ?_
              refine WQ.gon rfl rfl rfl ?_
              refine WQ.val (fun w_ hC_ => Runs.pick rfl rfl rfl) rfl ?_
              refine WQ.val (fun w_ hC_ => Runs.pick rfl rfl rfl) rfl ?_
              refine WQ.fin ?_
              intro w21 h21
              refine WN.thn ?_
              refine WC.condF rfl (rfl) ?_
              refine WC.skip (WN.blk (WN.thn (WC.reg ?_)))
              refine WL.v (Runs.move rfl) rfl ?_
              refine WL.v (Runs.addn rfl rfl (by omega)) rfl ?_
              refine WL.v (Runs.assign rfl) rfl ?_
              refine WL.nil ?_
              exact WN.again (i + 1) (by omega) ⟨rfl, rfl, trivial⟩ ⟨by omega, fun j hj => (by
                by_cases e : j = i
                · subst e; exact ⟨hlt, by omega⟩
                · exact hall j (by omega)), h21⟩
            · have e1 := last_s (xs := r.ls) h0
              refine WC.qreg (C := fun w_ => St W _ _ w_) mixed (by kernel_rfl) (hL.drew) ?_
              refine WQ.val (fun w_ hC_ => Runs.fld fld24_5 rfl) rfl ?_
              refine WQ.val (fun w_ hC_ => Runs.load1 Try.underlying22 rfl rfl (hC_.ocell (i := 0) rfl rfl)) rfl ?_
              refine WQ.val (fun w_ hC_ => Runs.move rfl) rfl ?_
              refine WQ.val (fun w_ hC_ => Runs.lidxN Try.underlying22 inf3 rfl rfl (n := i) rfl (by omega)) rfl ?_
              refine WQ.val (fun w_ hC_ => Runs.loadR (f := Vi) (0 : Int) hC_ hrd (n := i) (by omega) Try.underlying3 rfl rfl) rfl ?_
              refine WQ.call can65 rfl rfl (fun w_ hC_ => number_c _ (r.ls.getD i 0) 1 hC_) ?_
              refine WQ.val (fun w_ hC_ => Runs.boolT (c := false) (Runs.not rfl) (by unfold inB; rw [decide_eq_true hx]; rfl)) rfl ?_
              refine WQ.val (fun w_ hC_ => Runs.move rfl) rfl ?_
              refine WQ.gon rfl rfl rfl ?_
              refine WQ.val (fun w_ hC_ => Runs.move rfl) rfl ?_
              refine WQ.gon rfl rfl rfl ?_
              refine WQ.val (fun w_ hC_ => Runs.boolT (c := true) (Runs.gtr rfl rfl) (by rw [decide_eq_true_eq]; omega)) rfl ?_
              refine WQ.gon rfl rfl rfl ?_
              refine WQ.val (fun w_ hC_ => Runs.move rfl) rfl ?_
              refine WQ.gon rfl rfl rfl ?_
              refine WQ.val (fun w_ hC_ => Runs.fld fld24_5 rfl) rfl ?_
              refine WQ.gon rfl rfl rfl ?_
              refine WQ.val (fun w_ hC_ => Runs.load1 Try.underlying22 rfl rfl (hC_.ocell (i := 0) rfl rfl)) rfl ?_
              refine WQ.gon rfl rfl rfl ?_
              refine WQ.val (fun w_ hC_ => Runs.move rfl) rfl ?_
              refine WQ.gon rfl rfl rfl ?_
              refine WQ.val (fun w_ hC_ => Runs.lidxN Try.underlying22 inf3 rfl rfl (n := i) rfl (by omega)) rfl ?_
              refine WQ.gon rfl rfl rfl ?_
              refine WQ.val (fun w_ hC_ => Runs.loadR (f := Vi) (0 : Int) hC_ hrd (n := i) (by omega) Try.underlying3 rfl rfl) rfl ?_
              refine WQ.gon rfl rfl rfl ?_
              refine WQ.val (fun w_ hC_ => Runs.fld fld24_5 rfl) rfl ?_
              refine WQ.gon rfl rfl rfl ?_
              refine WQ.val (fun w_ hC_ => Runs.load1 Try.underlying22 rfl rfl (hC_.ocell (i := 0) rfl rfl)) rfl ?_
              refine WQ.gon rfl rfl rfl ?_
              refine WQ.val (fun w_ hC_ => Runs.move rfl) rfl ?_
              refine WQ.gon rfl rfl rfl ?_
              refine WQ.val (fun w_ hC_ => Runs.subn rfl rfl (by omega)) rfl ?_
              refine WQ.gon rfl rfl rfl ?_
              refine WQ.val (fun w_ hC_ => Runs.lidxN Try.underlying22 inf3 rfl rfl (n := i - 1) (by omega) (by omega)) rfl ?_
              refine WQ.gon rfl rfl rfl ?_
              refine WQ.val (fun w_ hC_ => Runs.loadR (f := Vi) (0 : Int) hC_ hrd (n := i - 1) (by omega) Try.underlying3 rfl rfl) rfl ?_
              refine WQ.gon rfl rfl rfl ?_
              refine WQ.val (fun w_ hC_ => Runs.boolT (c := true) (Runs.leq rfl rfl) (by rw [decide_eq_true_eq]; omega)) rfl ?_
              refine WQ.gon rfl rfl rfl ?_
              refine WQ.val (fun w_ hC_ => Runs.pick rfl rfl rfl) rfl ?_
              refine WQ.val (fun w_ hC_ => Runs.pick rfl rfl rfl) rfl ?_
              refine WQ.fin ?_
              intro w22 h22
              refine WN.thn ?_
              refine WC.condT rfl (rfl) ?_
              refine WC.seq (WC.reg ?_)
              refine WL.v (Runs.assign rfl) rfl ?_
              refine WL.nil (WN.thn (WC.ret ?_))
              refine ret1 rfl rfl ⟨?_, (h22.drop 0)⟩
              rw [decide_eq_false (fun hh : okR r => by have h9 := ((okL_1 hk1).1 hh.2.2.2).1 i hi2; unfold pdAt at h9; omega)]
            · have e1 := last_s (xs := r.ls) h0
              refine WC.qreg (C := fun w_ => St W _ _ w_) mixed (by kernel_rfl) (hL.drew) ?_
              refine WQ.val (fun w_ hC_ => Runs.fld fld24_5 rfl) rfl ?_
              refine WQ.val (fun w_ hC_ => Runs.load1 Try.underlying22 rfl rfl (hC_.ocell (i := 0) rfl rfl)) rfl ?_
              refine WQ.val (fun w_ hC_ => Runs.move rfl) rfl ?_
              refine WQ.val (fun w_ hC_ => Runs.lidxN Try.underlying22 inf3 rfl rfl (n := i) rfl (by omega)) rfl ?_
              refine WQ.val (fun w_ hC_ => Runs.loadR (f := Vi) (0 : Int) hC_ hrd (n := i) (by omega) Try.underlying3 rfl rfl) rfl ?_
              refine WQ.call can65 rfl rfl (fun w_ hC_ => number_c _ (r.ls.getD i 0) 1 hC_) ?_
              refine WQ.val (fun w_ hC_ => Runs.boolT (c := false) (Runs.not rfl) (by unfold inB; rw [decide_eq_true hx]; rfl)) rfl ?_
              refine WQ.val (fun w_ hC_ => Runs.move rfl) rfl ?_
              refine WQ.gon rfl rfl rfl ?_
              refine WQ.val (fun w_ hC_ => Runs.move rfl) rfl ?_
              refine WQ.gon rfl rfl rfl ?_
              refine WQ.val (fun w_ hC_ => Runs.boolT (c := true) (Runs.gtr rfl rfl) (by rw [decide_eq_true_eq]; omega)) rfl ?_
              refine WQ.gon rfl rfl rfl ?_
              refine WQ.val (fun w_ hC_ => Runs.move rfl) rfl ?_
              refine WQ.gon rfl rfl rfl ?_
              refine WQ.val (fun w_ hC_ => Runs.fld fld24_5 rfl) rfl ?_
              refine WQ.gon rfl rfl rfl ?_
              refine WQ.val (fun w_ hC_ => Runs.load1 Try.underlying22 rfl rfl (hC_.ocell (i := 0) rfl rfl)) rfl ?_
              refine WQ.gon rfl rfl rfl ?_
              refine WQ.val (fun w_ hC_ => Runs.move rfl) rfl ?_
              refine WQ.gon rfl rfl rfl ?_
              refine WQ.val (fun w_ hC_ => Runs.lidxN Try.underlying22 inf3 rfl rfl (n := i) rfl (by omega)) rfl ?_
              refine WQ.gon rfl rfl rfl ?_
              refine WQ.val (fun w_ hC_ => Runs.loadR (f := Vi) (0 : Int) hC_ hrd (n := i) (by omega) Try.underlying3 rfl rfl) rfl ?_
              refine WQ.gon rfl rfl rfl ?_
              refine WQ.val (fun w_ hC_ => Runs.fld fld24_5 rfl) rfl ?_
              refine WQ.gon rfl rfl rfl ?_
              refine WQ.val (fun w_ hC_ => Runs.load1 Try.underlying22 rfl rfl (hC_.ocell (i := 0) rfl rfl)) rfl ?_
              refine WQ.gon rfl rfl rfl ?_
              refine WQ.val (fun w_ hC_ => Runs.move rfl) rfl ?_
              refine WQ.gon rfl rfl rfl ?_
              refine WQ.val (fun w_ hC_ => Runs.subn rfl rfl (by omega)) rfl ?_
              refine WQ.gon rfl rfl rfl ?_
              refine WQ.val (fun w_ hC_ => Runs.lidxN Try.underlying22 inf3 rfl rfl (n := i - 1) (by omega) (by omega)) rfl ?_
              refine WQ.gon rfl rfl rfl ?_
              refine WQ.val (fun w_ hC_ => Runs.loadR (f := Vi) (0 : Int) hC_ hrd (n := i - 1) (by omega) Try.underlying3 rfl rfl) rfl ?_
              refine WQ.gon rfl rfl rfl ?_
              refine WQ.val (fun w_ hC_ => Runs.boolT (c := false) (Runs.leq rfl rfl) (by rw [decide_eq_false_iff_not]; omega)) rfl ?_
              refine WQ.gon rfl rfl rfl ?_
              refine WQ.val (fun w_ hC_ => Runs.pick rfl rfl rfl) rfl ?_
              refine WQ.val (fun w_ hC_ => Runs.pick rfl rfl rfl) rfl ?_
              refine WQ.fin ?_
              intro w23 h23
              refine WN.thn ?_
              refine WC.condF rfl (rfl) ?_
              refine WC.skip (WN.blk (WN.thn (WC.reg ?_)))
              refine WL.v (Runs.move rfl) rfl ?_
              refine WL.v (Runs.addn rfl rfl (by omega)) rfl ?_
              refine WL.v (Runs.assign rfl) rfl ?_
              refine WL.nil ?_
              exact WN.again (i + 1) (by omega) ⟨rfl, rfl, trivial⟩ ⟨by omega, fun j hj => (by
                by_cases e : j = i
                · subst e; exact ⟨hlt, by omega⟩
                · exact hall j (by omega)), h23⟩
        · try simp only [dt, df, nt, nf, ba, il, ie] at c19
          first
          | (exfalso; omega)
          | skip
            refine WC.exit (WX.thn (WX.cut (WX.hit (WN.thn (WC.seq ?_)))))
            rcases two (1 ≤ r.ls.length) (r.ls.length ≤ 256) with g0 | ⟨g0, g1⟩ | ⟨g0, g1⟩
            · skip
              refine WC.reg ?_
              refine WL.v (Runs.fld fld24_5 rfl) rfl ?_
              refine WL.v (Runs.load1 Try.underlying22 rfl rfl (hL.ocell (i := 0) rfl rfl)) rfl ?_
              refine WL.v (Runs.intT (n := (r.ls.length : Int)) (Runs.llen Try.underlying22 rfl rfl) rfl) rfl ?_
              refine WL.v (Runs.boolT (c := false) (Runs.geq rfl rfl) (by rw [decide_eq_false_iff_not]; omega)) rfl ?_
              refine WL.v (Runs.move rfl) rfl ?_
              refine WL.goff rfl rfl rfl rfl ?_
              refine WL.goff rfl rfl rfl rfl ?_
              refine WL.goff rfl rfl rfl rfl ?_
              refine WL.goff rfl rfl rfl rfl ?_
              refine WL.v (Runs.pick rfl rfl rfl) rfl ?_
              refine WL.v (Runs.assign rfl) rfl ?_
              refine WL.nil (WN.thn (WC.ret ?_))
              refine ret1 rfl rfl ⟨?_, (hL.drop 0)⟩
              rw [decide_eq_false (fun hh : okR r => by have h9 := ((okL_1 hk1).1 hh.2.2.2).2; omega)] <;> rfl
            · skip
              refine WC.reg ?_
              refine WL.v (Runs.fld fld24_5 rfl) rfl ?_
              refine WL.v (Runs.load1 Try.underlying22 rfl rfl (hL.ocell (i := 0) rfl rfl)) rfl ?_
              refine WL.v (Runs.intT (n := (r.ls.length : Int)) (Runs.llen Try.underlying22 rfl rfl) rfl) rfl ?_
              refine WL.v (Runs.boolT (c := true) (Runs.geq rfl rfl) (by rw [decide_eq_true_eq]; omega)) rfl ?_
              refine WL.v (Runs.move rfl) rfl ?_
              refine WL.gon rfl rfl rfl ?_
              refine WL.v (Runs.fld fld24_5 rfl) rfl ?_
              refine WL.gon rfl rfl rfl ?_
              refine WL.v (Runs.load1 Try.underlying22 rfl rfl (hL.ocell (i := 0) rfl rfl)) rfl ?_
              refine WL.gon rfl rfl rfl ?_
              refine WL.v (Runs.intT (n := (r.ls.length : Int)) (Runs.llen Try.underlying22 rfl rfl) rfl) rfl ?_
              refine WL.gon rfl rfl rfl ?_
              refine WL.v (Runs.boolT (c := false) (Runs.leq rfl rfl) (by rw [decide_eq_false_iff_not]; omega)) rfl ?_
              refine WL.v (Runs.pick rfl rfl rfl) rfl ?_
              refine WL.v (Runs.assign rfl) rfl ?_
              refine WL.nil (WN.thn (WC.ret ?_))
              refine ret1 rfl rfl ⟨?_, (hL.drop 0)⟩
              rw [decide_eq_false (fun hh : okR r => by have h9 := ((okL_1 hk1).1 hh.2.2.2).2; omega)] <;> rfl
            · skip
              refine WC.reg ?_
              refine WL.v (Runs.fld fld24_5 rfl) rfl ?_
              refine WL.v (Runs.load1 Try.underlying22 rfl rfl (hL.ocell (i := 0) rfl rfl)) rfl ?_
              refine WL.v (Runs.intT (n := (r.ls.length : Int)) (Runs.llen Try.underlying22 rfl rfl) rfl) rfl ?_
              refine WL.v (Runs.boolT (c := true) (Runs.geq rfl rfl) (by rw [decide_eq_true_eq]; omega)) rfl ?_
              refine WL.v (Runs.move rfl) rfl ?_
              refine WL.gon rfl rfl rfl ?_
              refine WL.v (Runs.fld fld24_5 rfl) rfl ?_
              refine WL.gon rfl rfl rfl ?_
              refine WL.v (Runs.load1 Try.underlying22 rfl rfl (hL.ocell (i := 0) rfl rfl)) rfl ?_
              refine WL.gon rfl rfl rfl ?_
              refine WL.v (Runs.intT (n := (r.ls.length : Int)) (Runs.llen Try.underlying22 rfl rfl) rfl) rfl ?_
              refine WL.gon rfl rfl rfl ?_
              refine WL.v (Runs.boolT (c := true) (Runs.leq rfl rfl) (by rw [decide_eq_true_eq]; omega)) rfl ?_
              refine WL.v (Runs.pick rfl rfl rfl) rfl ?_
              refine WL.v (Runs.assign rfl) rfl ?_
              refine WL.nil (WN.thn (WC.ret ?_))
              refine ret1 rfl rfl ⟨?_, (hL.drop 0)⟩
              rw [decide_eq_true (show okR r from ⟨⟨q2, q3, q4⟩, ⟨by omega, by omega⟩, ⟨by omega, by omega⟩, (okL_1 hk1).2 ⟨fun j hj => hall j (by omega), g0, g1⟩⟩)] <;> rfl
end Rc
end Go.Proofs.Ythejglgnoingfaa
