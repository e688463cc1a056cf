/- Walks of package dag: numbers in a row; whether a number is within bounds. -/
import Derived.Test.YtkfkdenikkadhaaProg
import Derived.KernelRfl
import Derived.Test.YtkfkdenikkadhaaBaseZ
namespace Go.Proofs.Ytkfkdenikkadhaa
open Go Go.RowKit B
set_option linter.unusedVariables false
set_option linter.unusedSimpArgs false
namespace Dg

theorem mixed : Try.prog.follows .mixedOrders = true := by kernel_rfl
theorem inf3 : Inf Try.prog 3 (.int .i64 0) 1 8 := by unfold Inf; kernel_rfl
theorem can40 : B.Can Try.prog 40 := ⟨_, Try.func40, by kernel_rfl, rfl⟩   -- slices.Index[[]int,int]
abbrev Vi (n : Int) : Value := .int .i64 n
/-- an edge, and a step -/
structure E where
  st : Int
  kd : Int
deriving DecidableEq
structure S where
  rk : Int
  per : Int
  ds : Int
  lim : Int
  af : List E
deriving DecidableEq
def E0 : E := ⟨0, 0⟩
def S0 : S := ⟨0, 0, 0, 0, []⟩
def E.cs (e : E) : List Value := [Vi e.st, Vi e.kd]
def KE : Kd E := Kd.rows 2 E.cs (fun _ => rfl)
def S.cs (s : S) (A : Option Addr) (cap : Nat) : List Value := [Vi s.rk, Vi s.per, Vi s.ds, Vi s.lim, .slice A s.af.length cap]
def KS : Kd S := ⟨5, fun F s c => ∃ A cap, c = s.cs A cap ∧ RdS KE F A s.af, fun ⟨_, _, h, _⟩ => by rw [h]; rfl, fun hle ⟨A, cap, h, h2⟩ => ⟨A, cap, h, h2.mono hle⟩⟩
def inB (n a b : Int) : Bool := decide (a ≤ n ∧ n ≤ b)
theorem in_dec (n a b : Int) : inB n a b = (decide (n ≥ a) && decide (n ≤ b)) := by
  unfold inB
  by_cases h1 : a ≤ n <;> by_cases h2 : n ≤ b <;> simp [h1, h2]
/-- a step's cells, where the row stands -/
theorem step_at {W : World} {F : Snap} {cs : List Res} {P : Program} {sl : Sl} {w : World} {t T : TypeId} {x : Operand} {zv : Value} {bytes n : Nat} {d : TypeDesc} {A : Option Addr} {xs : List S} (hR : RdS KS F A xs) (hn : n < xs.length) : ∃ ad A' cap', A = some ad ∧ RdS KE F A' (xs.getD n S0).af ∧ ∀ j v, ((xs.getD n S0).cs A' cap')[j]? = some v → cellF F (ad.add (n * 5 + j)) = some v := by
  obtain ⟨ad, c, hA, ⟨A', cap', hc, hE⟩, hr⟩ := hR.at_ (i := n) (x := xs.getD n S0) (by rw [List.getD_eq_getElem?_getD, List.getElem?_eq_getElem hn]; rfl)
  subst hc
  exact ⟨ad, A', cap', hA, hE, hr⟩
theorem Runs.stepA {W : World} {F : Snap} {cs : List Res} {P : Program} {sl : Sl} {w : World} {t T : TypeId} {x : Operand} {zv : Value} {bytes n cap' : Nat} {d : TypeDesc} {ad : Addr} {A' : Option Addr} {s : S} (h : St W F cs w) (hr : ∀ j v, (s.cs A' cap')[j]? = some v → cellF F (ad.add (n * 5 + j)) = some v) (hu : P.underlying T = some d) (hs : scal d = false) (hT : Inf P T zv 5 bytes)
    (hx : evs sl x = some (.pointer (some (ad.add (n * 5))))) : Runs P sl (.load T x) t w (.agg #[Vi s.rk, Vi s.per, Vi s.ds, Vi s.lim, .slice A' s.af.length cap']) := by
  obtain ⟨ti, h1, _, h3, _⟩ := hT.get
  refine Runs.loadA (vs := s.cs A' cap') hu hs h1 (by rw [h3]; rfl) hx (fun j v hj => ?_)
  rw [add_add]
  exact h.cell (hr j v hj)
theorem Runs.edgeA {W : World} {F : Snap} {cs : List Res} {P : Program} {sl : Sl} {w : World} {t T : TypeId} {x : Operand} {zv : Value} {bytes n : Nat} {d : TypeDesc} {A : Option Addr} {ad : Addr} {es : List E} (h : St W F cs w) (hR : RdS KE F A es) (hA : A = some ad) (hn : n < es.length) (hu : P.underlying T = some d) (hs : scal d = false) (hT : Inf P T zv 2 bytes)
    (hx : evs sl x = some (.pointer (some (ad.add (n * 2))))) : Runs P sl (.load T x) t w (.agg #[Vi (es.getD n E0).st, Vi (es.getD n E0).kd]) := Runs.loadRows E0 h hR hA hn hu hs hT hx
theorem mem_getD {xs : List Int} {i : Nat} (h : i < xs.length) : xs.getD i 0 ∈ xs := by
  rw [List.getD_eq_getElem?_getD, List.getElem?_eq_getElem h]; exact List.getElem_mem h
set_option maxRecDepth 100000 in
set_option maxHeartbeats 1000000 in
theorem in_c {W : World} {F : Snap} {cs : List Res} (w : World) (n a b : Int) (h : St W F cs w) : Calls Try.prog 23 #[Vi n, Vi a, Vi b] w fun r w' => r = .returned (.bool (inB n a b)) ∧ St W F cs w'  := by
  refine enter (P := Try.prog) (args := [Vi n, Vi a, Vi b]) Try.func23 rfl rfl rfl ?_
  refine WC.seq ?_
  refine WC.reg ?_
  refine WL.v (Runs.assign rfl) rfl ?_
  refine WL.nil ?_
  refine WN.thn ?_
  refine WC.seq ?_
  by_cases h0 : n ≥ a
  · skip
    refine WC.reg ?_
    refine WL.v (Runs.move rfl) rfl ?_
    refine WL.v (Runs.move rfl) rfl ?_
    refine WL.v (Runs.boolT (c := true) (Runs.geq rfl rfl) (decide_eq_true h0)) rfl ?_
    refine WL.v (Runs.move rfl) rfl ?_
    refine WL.gon rfl rfl rfl ?_
    refine WL.v (Runs.move rfl) rfl ?_
    refine WL.gon rfl rfl rfl ?_
    refine WL.v (Runs.move rfl) rfl ?_
    refine WL.gon rfl rfl rfl ?_
    refine WL.v (Runs.leq rfl rfl) rfl ?_
    refine WL.v (Runs.pick rfl rfl rfl) rfl ?_
    refine WL.v (Runs.assign rfl) rfl ?_
    refine WL.nil ?_
    refine WN.thn ?_
    refine WC.ret ?_
    refine ret1 rfl rfl ⟨?_, h⟩
    rw [in_dec, decide_eq_true h0]; rfl
  · skip
    refine WC.reg ?_
    refine WL.v (Runs.move rfl) rfl ?_
    refine WL.v (Runs.move rfl) rfl ?_
    refine WL.v (Runs.boolT (c := false) (Runs.geq rfl rfl) (decide_eq_false h0)) rfl ?_
    refine WL.v (Runs.move rfl) rfl ?_
    refine WL.goff rfl rfl rfl rfl ?_
    refine WL.goff rfl rfl rfl rfl ?_
    refine WL.goff rfl rfl rfl rfl ?_
    refine WL.v (Runs.pick rfl rfl rfl) rfl ?_
    refine WL.v (Runs.assign rfl) rfl ?_
    refine WL.nil ?_
    refine WN.thn ?_
    refine WC.ret ?_
    refine ret1 rfl rfl ⟨?_, h⟩
    rw [in_dec, decide_eq_false h0]; rfl
set_option maxRecDepth 100000 in
set_option maxHeartbeats 1000000 in
theorem index_c {W : World} {F : Snap} {cs : List Res} (w : World) {A : Option Addr} {cap : Nat} {xs : List Int} (x : Int) (h : St W F cs w) (hR : RdW W F cs Vi A xs) (hn : xs.length ≤ 100000) : Calls Try.prog 40 #[.slice A xs.length cap, Vi x] w fun r w' => (∃ k : Int, r = .returned (Vi k) ∧ (decide (0 ≤ k) = decide (x ∈ xs))) ∧ St W F cs w'  := by
  refine enter (P := Try.prog) (args := [.slice A xs.length cap, Vi x]) Try.func40 rfl rfl rfl ?_
  refine WC.seq ?_
  refine WC.reg ?_
  refine WL.v (Runs.assign rfl) rfl ?_
  refine WL.nil ?_
  refine WN.thn ?_
  refine WC.seq ?_
  refine WC.seq ?_
  refine WC.reg ?_
  refine WL.v (Runs.move rfl) rfl ?_
  refine WL.v (Runs.llen Try.underlying28 rfl rfl) rfl ?_
  refine WL.v (Runs.move rfl) rfl ?_
  refine WL.nil ?_
  refine WN.thn ?_
  refine WC.block ?_
  refine WC.loop (σ := Nat) (fun q_ => [(0, .slice A xs.length cap), (1, Vi x), (7, .int .i64 (xs.length : Int)), (8, .int .i64 (q_ : Int))]) (fun q_ w => q_ ≤ xs.length ∧ (∀ j, j < q_ → xs.getD j 0 ≠ x) ∧ St W F cs w) (fun q_ => xs.length - q_) (0) (by repeat (first | exact trivial | refine ⟨rfl, ?_⟩)) (⟨Nat.zero_le _, fun j hj => absurd hj (Nat.not_lt_zero _), h⟩) ?_
  rintro i w1 ⟨hi, hno, hL⟩
  try dsimp only at hi hno hL
  refine WC.sub (s := [(0, .slice A xs.length cap), (1, Vi x), (7, .int .i64 (xs.length : Int)), (8, .int .i64 (i : Int))]) (by repeat (first | exact trivial | refine ⟨rfl, ?_⟩)) ?_
  refine WC.seq ?_
  refine WC.reg ?_
  refine WL.v (Runs.lss rfl rfl) rfl ?_
  refine WL.nil ?_
  refine WN.thn ?_
  refine WC.seq ?_
  refine WC.cond rfl (fun c2 => ?_) (fun c2 => ?_)
  · try simp only [decide_eq_true_eq, decide_eq_false_iff_not, Bool.not_eq_true', Bool.not_eq_false', Bool.and_eq_true, Int.not_lt, Int.not_le] at c2
    first
    | (exfalso; omega)
    | skip
      refine WC.skip ?_
      refine WN.thn ?_
      refine WC.seq ?_
      refine WC.block ?_
      refine WC.seq ?_
      refine WC.reg ?_
      refine WL.v (Runs.move rfl) rfl ?_
      refine WL.v (Runs.assign rfl) rfl ?_
      refine WL.nil ?_
      refine WN.thn ?_
      refine WC.seq ?_
      obtain ⟨ad, rfl, hrd⟩ := hR.at1 (by omega)
      refine WC.reg ?_
      refine WL.v (Runs.move rfl) rfl ?_
      refine WL.v (Runs.move rfl) rfl ?_
      refine WL.v (Runs.move rfl) rfl ?_
      refine WL.v (Runs.lidxN Try.underlying28 inf3 rfl rfl (n := i) rfl (by omega)) rfl ?_
      refine WL.v (Runs.load1 Try.underlying3 rfl rfl (hrd _ hL i 0 (by omega))) rfl ?_
      refine WL.v (Runs.eql rfl rfl) rfl ?_
      refine WL.nil ?_
      refine WN.thn ?_
      refine WC.cond rfl (fun c3 => ?_) (fun c3 => ?_)
      · try simp only [decide_eq_true_eq, decide_eq_false_iff_not, Bool.not_eq_true', Bool.not_eq_false', Bool.and_eq_true, Int.not_lt, Int.not_le] at c3
        first
        | (exfalso; omega)
        | skip
          refine WC.seq ?_
          refine WC.reg ?_
          refine WL.v (Runs.move rfl) rfl ?_
          refine WL.v (Runs.assign rfl) rfl ?_
          refine WL.nil ?_
          refine WN.thn ?_
          refine WC.ret ?_
          refine ret1 rfl rfl ⟨⟨_, rfl, ?_⟩, hL⟩
          rw [decide_eq_true (Int.natCast_nonneg i), eq_comm, decide_eq_true_eq, c3]
          exact mem_getD (by omega)
      · try simp only [decide_eq_true_eq, decide_eq_false_iff_not, Bool.not_eq_true', Bool.not_eq_false', Bool.and_eq_true, Int.not_lt, Int.not_le] at c3
        first
        | (exfalso; omega)
        | skip
          refine WC.skip ?_
          refine WN.blk ?_
          refine WN.thn ?_
          refine WC.reg ?_
          refine WL.v (Runs.addn rfl rfl (by omega)) rfl ?_
          refine WL.v (Runs.move rfl) rfl ?_
          refine WL.nil ?_
          exact WN.again (i + 1) (by omega) ⟨rfl, rfl, rfl, rfl, trivial⟩ ⟨by omega, fun j hj => (by
            by_cases e : j = i
            · subst e; exact fun e2 => c3 e2.symm
            · exact hno j (by omega)), hL⟩
  · try simp only [decide_eq_true_eq, decide_eq_false_iff_not, Bool.not_eq_true', Bool.not_eq_false', Bool.and_eq_true, Int.not_lt, Int.not_le] at c2
    first
    | (exfalso; omega)
    | skip
      refine WC.exit ?_
      refine WX.thn ?_
      refine WX.cut ?_
      refine WX.hit ?_
      refine WN.thn ?_
      refine WC.seq ?_
      refine WC.reg ?_
      refine WL.v (Runs.assign rfl) rfl ?_
      refine WL.nil ?_
      refine WN.thn ?_
      refine WC.ret ?_
      refine ret1 rfl rfl ⟨⟨_, rfl, ?_⟩, hL⟩
      rw [decide_eq_false (by decide), eq_comm, decide_eq_false_iff_not]
      intro hm
      obtain ⟨j, hj, rfl⟩ := List.getElem_of_mem hm
      refine hno j (by omega) ?_
      rw [List.getD_eq_getElem?_getD, List.getElem?_eq_getElem hj]; rfl
set_option maxRecDepth 100000 in
set_option maxHeartbeats 1000000 in
theorem contains_c {W : World} {F : Snap} {cs : List Res} (w : World) {A : Option Addr} {cap : Nat} {xs : List Int} (x : Int) (h : St W F cs w) (hR : RdW W F cs Vi A xs) (hn : xs.length ≤ 100000) : Calls Try.prog 36 #[.slice A xs.length cap, Vi x] w fun r w' => r = .returned (.bool (decide (x ∈ xs))) ∧ St W F cs w'  := by
  refine enter (P := Try.prog) (args := [.slice A xs.length cap, Vi x]) Try.func36 rfl rfl rfl ?_
  refine WC.seq ?_
  refine WC.reg ?_
  refine WL.v (Runs.assign rfl) rfl ?_
  refine WL.nil ?_
  refine WN.thn ?_
  refine WC.seq ?_
  refine WC.reg ?_
  refine WL.v (Runs.move rfl) rfl ?_
  refine WL.v (Runs.move rfl) rfl ?_
  refine WL.call can40 rfl rfl (index_c _ x h hR hn) ?_
  rintro _ w1 ⟨⟨k, rfl, hk⟩, h1⟩
  refine ⟨_, rfl, ?_⟩
  refine WL.v (Runs.geq rfl rfl) rfl ?_
  refine WL.v (Runs.assign rfl) rfl ?_
  refine WL.nil ?_
  refine WN.thn ?_
  refine WC.ret ?_
  exact ret1 rfl rfl ⟨by rw [← hk], h1⟩
end Dg
end Go.Proofs.Ytkfkdenikkadhaa
