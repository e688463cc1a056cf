/- Walks of package node: Decide, Exit, Asks; the worst code. -/
import Derived.Test.YtanlminnobonnaaProg
import Derived.KernelRfl
import Derived.Test.YtanlminnobonnaaMBaseAH
import Derived.Test.YtanlminnobonnaaMN3
namespace Go.Proofs.Ytanlminnobonnaa
open Go Go.RowKit B
set_option linter.unusedVariables false
set_option linter.unusedSimpArgs false
namespace Rc

theorem inf47 : Inf Try.prog 47 (.agg #[.int .i64 0, .slice none 0 0, .int .i64 0, .bool false]) 4 48 := by unfold Inf; kernel_rfl
theorem fld27_0 : fldB Try.prog 27 0 0 = true := by kernel_rfl
theorem fld27_1 : fldB Try.prog 27 1 1 = true := by kernel_rfl
theorem fld27_2 : fldB Try.prog 27 2 2 = true := by kernel_rfl
theorem can26 : B.Can Try.prog 26 := ⟨_, Try.func26, by kernel_rfl, rfl⟩   -- roundhouse/node.in
theorem can27 : B.Can Try.prog 27 := ⟨_, Try.func27, by kernel_rfl, rfl⟩   -- roundhouse/node.of
theorem can28 : B.Can Try.prog 28 := ⟨_, Try.func28, by kernel_rfl, rfl⟩   -- (*roundhouse/node.asked).prolog
theorem can29 : B.Can Try.prog 29 := ⟨_, Try.func29, by kernel_rfl, rfl⟩   -- (*roundhouse/node.asked).launch
theorem can30 : B.Can Try.prog 30 := ⟨_, Try.func30, by kernel_rfl, rfl⟩   -- (*roundhouse/node.asked).release
theorem can31 : B.Can Try.prog 31 := ⟨_, Try.func31, by kernel_rfl, rfl⟩   -- (*roundhouse/node.asked).abort
theorem can33 : B.Can Try.prog 33 := ⟨_, Try.func33, by kernel_rfl, rfl⟩   -- (*roundhouse/node.asked).finish
theorem can42 : B.Can Try.prog 42 := ⟨_, Try.func42, by kernel_rfl, rfl⟩   -- roundhouse/node.Exit$1
theorem can44 : B.Can Try.prog 44 := ⟨_, Try.func44, by kernel_rfl, rfl⟩   -- roundhouse/tally.Worst
theorem can65 : B.Can Try.prog 65 := ⟨_, Try.func65, by kernel_rfl, rfl⟩   -- slices.Max[[]int,int]
def worst : List Int → Int
  | [] => 0
  | a :: l => l.foldl max a
def mA (r : R) : M := { M0 with jb := r.jb, ep := r.ep, st := r.st }
def exitM (id : Int) (z : Z) (r : R) (cs : List Int) : Ac × Int :=
  if ¬ (0 ≤ id ∧ id ≤ 15) ∨ cs.length = 0 ∨ (cs.any fun c => !inB c 0 255) = true then (A0, 1) else if phB z (mA r) 1 = false then (A0, 14)
  else (anM id (mA r) (wrM (mA r) 5 (worst cs)) 6 (worst cs), 0)
def asksM (z : Z) (m : M) : Bool := decide (m.kd = 2) && decide (m.fr = -1) && decide (0 ≤ m.to ∧ m.to ≤ 15) && !hasS z m && upB z m
theorem take_nx {xs : List Int} {i : Nat} (hi : i < xs.length) : xs.take (i + 1) = xs.take i ++ [xs.getD i 0] := by
  rw [List.take_add_one, List.getD_eq_getElem?_getD, List.getElem?_eq_getElem hi]; rfl
theorem Rd1 {W : World} {F : Snap} {cs : List Res} {w : World} {g : FuncId} {as_ : Array Value} {b c : Bool} (h : Calls Try.prog g as_ w fun e w' => e = .returned (.bool b) ∧ St W F cs w') (e : b = c) : Calls Try.prog g as_ w fun e w' => e = .returned (.bool c) ∧ St W F cs w' := e ▸ h
theorem max_step (l : List Int) (i : Nat) (a : Int) (hi : i < l.length) : (l.take (i + 1)).foldl max a = (if (l.take i).foldl max a < l.getD i 0 then l.getD i 0 else (l.take i).foldl max a) := by
  rw [take_nx hi, List.foldl_append]
  show max _ _ = _
  rw [Int.max_def]
  split <;> split <;> omega
set_option maxRecDepth 100000 in
set_option maxHeartbeats 1000000 in
theorem max_c {W : World} {F : Snap} {cs : List Res} (w : World) {ad : Addr} {cap : Nat} (a : Int) (l : List Int) (h : St W F cs w) (hrd : ∀ i x, (a :: l)[i]? = some x → cellF F (ad.add i) = some (Vi x)) (hn : (a :: l).length ≤ 100000) : Calls Try.prog 65 #[.slice (some ad) (a :: l).length cap] w fun e w' => e = .returned (Vi (l.foldl max a)) ∧ St W F cs w'  := by
  refine enter (P := Try.prog) (args := [.slice (some ad) (a :: l).length cap]) Try.func65 rfl rfl rfl ?_
  refine WC.seq (WC.reg ?_)
  refine WL.v (Runs.assign rfl) rfl ?_
  refine WL.nil (WN.thn (WC.seq (WC.seq (WC.reg ?_))))
  refine WL.v (Runs.move rfl) rfl ?_
  refine WL.v (Runs.llen Try.underlying29 rfl rfl) rfl ?_
  refine WL.v (Runs.boolT (c := false) (Runs.lss rfl rfl) (by rw [decide_eq_false_iff_not, List.length_cons]; omega)) rfl ?_
  refine WL.nil (WN.thn ?_)
  refine WC.condF rfl (rfl) ?_
  refine WC.skip (WN.thn (WC.seq (WC.reg ?_)))
  refine WL.v (Runs.move rfl) rfl ?_
  refine WL.v (Runs.lidxN Try.underlying29 inf3 rfl rfl (n := 0) rfl (by rw [List.length_cons]; omega)) rfl ?_
  refine WL.v (Runs.intT (n := a) (Runs.loadR (f := Vi) (0 : Int) h hrd (n := 0) (by rw [List.length_cons]; omega) Try.underlying3 rfl rfl) rfl) rfl ?_
  refine WL.v (Runs.assign rfl) rfl ?_
  refine WL.nil (WN.thn (WC.seq (WC.seq (WC.reg ?_))))
  refine WL.v (Runs.assign rfl) rfl ?_
  refine WL.nil (WN.thn (WC.block ?_))
  refine WC.loop (σ := Nat) (fun q_ => [(0, .slice (some ad) (a :: l).length cap), (3, Vi ((l.take q_).foldl max a)), (4, .int .i64 ((q_ + 1 : Nat) : Int))]) (fun q_ w => q_ ≤ l.length ∧ St W F cs w) (fun q_ => l.length - q_) (0) (by repeat (first | exact trivial | refine ⟨rfl, ?_⟩)) (⟨by omega, h⟩) ?_
  rintro i w1 ⟨hi, hL⟩
  try dsimp only at hi hL
  refine WC.sub (s := [(0, .slice (some ad) (a :: l).length cap), (3, Vi ((l.take i).foldl max a)), (4, .int .i64 ((i + 1 : Nat) : Int))]) (by repeat (first | exact trivial | refine ⟨rfl, ?_⟩)) ?_
  have hll : (a :: l).length = l.length + 1 := rfl
  refine WC.seq (WC.seq (WC.reg ?_))
  refine WL.v (Runs.move rfl) rfl ?_
  refine WL.v (Runs.move rfl) rfl ?_
  refine WL.v (Runs.llen Try.underlying29 rfl rfl) rfl ?_
  refine WL.v (Runs.lss rfl rfl) rfl ?_
  refine WL.nil (WN.thn ?_)
  refine WC.cond rfl (fun c2 => ?_) (fun c2 => ?_)
  · try simp only [dt, df, nt, nf, ba, il, ie] at c2
    first
    | (exfalso; omega)
    | skip
      refine WC.skip (WN.thn (WC.seq (WC.block (WC.reg ?_))))
      refine WL.v (Runs.move rfl) rfl ?_
      refine WL.v (Runs.move rfl) rfl ?_
      refine WL.v (Runs.move rfl) rfl ?_
      refine WL.v (Runs.lidxN Try.underlying29 inf3 rfl rfl (n := i + 1) rfl (by omega)) rfl ?_
      refine WL.v (Runs.intT (n := l.getD i 0) (Runs.loadR (f := Vi) (0 : Int) hL hrd (n := i + 1) (by omega) Try.underlying3 rfl rfl) (by simp)) rfl ?_
      refine WL.v (Runs.max rfl rfl) rfl ?_
      refine WL.v (Runs.assign rfl) rfl ?_
      refine WL.nil (WN.blk (WN.thn (WC.reg ?_)))
      refine WL.v (Runs.move rfl) rfl ?_
      refine WL.v (Runs.addn rfl rfl (by omega)) rfl ?_
      refine WL.v (Runs.assign rfl) rfl ?_
      refine WL.nil ?_
      refine WN.again (i + 1) (by omega) ⟨rfl, ?_, rfl, trivial⟩ ⟨by omega, hL⟩
      show _ = some (Vi ((l.take (i + 1)).foldl max a))
      rw [max_step _ _ _ (by omega)]
      rfl
  · try simp only [dt, df, nt, nf, ba, il, ie] at c2
    first
    | (exfalso; omega)
    | skip
      refine WC.exit (WX.thn (WX.cut (WX.hit (WN.thn (WC.seq ?_)))))
      refine WC.reg ?_
      refine WL.v (Runs.move rfl) rfl ?_
      refine WL.v (Runs.assign rfl) rfl ?_
      refine WL.nil (WN.thn (WC.ret ?_))
      obtain rfl : i = l.length := by omega
      refine ret1 rfl rfl ⟨?_, hL⟩
      rw [List.take_of_length_le (Nat.le_refl _)]
set_option maxRecDepth 100000 in
set_option maxHeartbeats 1000000 in
theorem worst_1 {W : World} {F : Snap} {cs : List Res} (w : World) {A : Option Addr} {cap : Nat} (a : Int) (l : List Int) (h : St W F cs w) (hR : RdS (Kd.one Vi) F A (a :: l)) (hn : (a :: l).length ≤ 100000) : Calls Try.prog 44 #[.slice A (a :: l).length cap] w fun e w' => e = .returned (Vi (worst (a :: l))) ∧ St W F cs w'  := by
  refine enter (P := Try.prog) (args := [.slice A (a :: l).length cap]) Try.func44 rfl rfl rfl ?_
  obtain ⟨ad, rfl, hrd⟩ := rd1 hR (by rw [List.length_cons]; omega)
  refine WC.seq (WC.reg ?_)
  refine WL.v (Runs.assign rfl) rfl ?_
  refine WL.nil (WN.thn (WC.seq (WC.seq (WC.reg ?_))))
  refine WL.v (Runs.move rfl) rfl ?_
  refine WL.v (Runs.llen Try.underlying29 rfl rfl) rfl ?_
  refine WL.v (Runs.boolT (c := false) (Runs.eql rfl rfl) (by rw [decide_eq_false_iff_not, List.length_cons]; omega)) rfl ?_
  refine WL.nil (WN.thn ?_)
  refine WC.condF rfl (rfl) ?_
  refine WC.skip (WN.thn (WC.seq (WC.reg ?_)))
  refine WL.v (Runs.move rfl) rfl ?_
  refine WL.call can65 rfl rfl (max_c _ a l h hrd hn) ?_
  rintro _ w1 ⟨rfl, h1⟩
  refine ⟨_, rfl, ?_⟩
  refine WL.v (Runs.assign rfl) rfl ?_
  refine WL.nil (WN.thn (WC.ret ?_))
  exact ret1 rfl rfl ⟨rfl, h1⟩
set_option maxRecDepth 100000 in
set_option maxHeartbeats 1000000 in
theorem worst_0 {W : World} {F : Snap} {cs : List Res} (w : World) {A : Option Addr} {cap : Nat} (h : St W F cs w) : Calls Try.prog 44 #[.slice A 0 cap] w fun e w' => e = .returned (Vi (worst [])) ∧ St W F cs w'  := by
  refine enter (P := Try.prog) (args := [.slice A 0 cap]) Try.func44 rfl rfl rfl ?_
  refine WC.seq (WC.reg ?_)
  refine WL.v (Runs.assign rfl) rfl ?_
  refine WL.nil (WN.thn (WC.seq (WC.seq (WC.reg ?_))))
  refine WL.v (Runs.move rfl) rfl ?_
  refine WL.v (Runs.llen Try.underlying29 rfl rfl) rfl ?_
  refine WL.v (Runs.eql rfl rfl) rfl ?_
  refine WL.nil (WN.thn ?_)
  refine WC.condT rfl (rfl) ?_
  refine WC.seq (WC.reg ?_)
  refine WL.v (Runs.assign rfl) rfl ?_
  refine WL.nil (WN.thn (WC.ret ?_))
  exact ret1 rfl rfl ⟨rfl, h⟩
theorem worst_c {W : World} {F : Snap} {cs : List Res} (w : World) {A : Option Addr} {cap : Nat} (xs : List Int) (h : St W F cs w) (hR : RdS (Kd.one Vi) F A xs) (hn : xs.length ≤ 100000) : Calls Try.prog 44 #[.slice A xs.length cap] w fun e w' => e = .returned (Vi (worst xs)) ∧ St W F cs w' := by
  cases xs with
  | nil => exact worst_0 w h
  | cons a l => exact worst_1 w a l h hR hn
theorem worst_step (xs : List Int) (i : Nat) (hi : i < xs.length) : worst (xs.take (i + 1)) = if i = 0 ∨ worst (xs.take i) < xs.getD i 0 then xs.getD i 0 else worst (xs.take i) := by
  cases xs with
  | nil => simp at hi
  | cons a l =>
    cases i with
    | zero => simp [worst]
    | succ i =>
      show (l.take (i + 1)).foldl max a = _
      rw [max_step l i a (by simpa using hi)]
      simp [worst]
set_option maxRecDepth 100000 in
set_option maxHeartbeats 1000000 in
theorem rworst_c {W : World} {F : Snap} {cs : List Res} (w : World) {A : Option Addr} {cap : Nat} {xs : List Int} (h : St W F cs w) (hR : RdS (Kd.one Vi) F A xs) (hn : xs.length ≤ 100000) : Calls Try.prog 47 #[.slice A xs.length cap] w fun e w' => e = .returned (Vi (worst xs)) ∧ St W F cs w'  := by
  refine enter (P := Try.prog) (args := [.slice A xs.length cap]) Try.func47 rfl rfl rfl ?_
  refine WC.seq (WC.reg ?_)
  refine WL.v (Runs.assign rfl) rfl ?_
  refine WL.nil (WN.thn (WC.seq (WC.reg ?_)))
  refine WL.v (Runs.assign rfl) rfl ?_
  refine WL.nil (WN.thn (WC.seq (WC.seq (WC.reg ?_))))
  refine WL.v (Runs.assign rfl) rfl ?_
  refine WL.nil (WN.thn (WC.block ?_))
  refine WC.loop (σ := Nat) (fun q_ => [(0, .slice A xs.length cap), (3, Vi (worst (xs.take q_))), (4, .int .i64 (q_ : Int))]) (fun q_ w => q_ ≤ xs.length ∧ St W F cs w) (fun q_ => xs.length - q_) (0) (by repeat (first | exact trivial | refine ⟨rfl, ?_⟩)) (⟨by omega, h⟩) ?_
  rintro k w1 ⟨hk, hL⟩
  try dsimp only at hk hL
  refine WC.sub (s := [(0, .slice A xs.length cap), (3, Vi (worst (xs.take k))), (4, .int .i64 (k : Int))]) (by repeat (first | exact trivial | refine ⟨rfl, ?_⟩)) ?_
  refine WC.seq (WC.seq (WC.reg ?_))
  refine WL.v (Runs.move rfl) rfl ?_
  refine WL.v (Runs.move rfl) rfl ?_
  refine WL.v (Runs.llen Try.underlying29 rfl rfl) rfl ?_
  refine WL.v (Runs.lss rfl rfl) rfl ?_
  refine WL.nil (WN.thn ?_)
  refine WC.cond rfl (fun c2 => ?_) (fun c2 => ?_)
  · try simp only [dt, df, nt, nf, ba, il, ie] at c2
    first
    | (exfalso; omega)
    | skip
      refine WC.skip (WN.thn (WC.seq (WC.block (WC.seq ?_))))
      obtain ⟨ad, rfl, hrd⟩ := rd1 hR (by omega)
      have hcase : k = 0 ∨ 0 < k := by omega
      rcases hcase with hz0 | hz1
      · skip
        refine WC.reg ?_
        refine WL.v (Runs.move rfl) rfl ?_
        refine WL.v (Runs.boolT (c := true) (Runs.eql rfl rfl) (by rw [decide_eq_true_eq]; omega)) rfl ?_
        refine WL.v (Runs.move rfl) rfl ?_
        refine WL.goff rfl rfl rfl rfl ?_
        refine WL.goff rfl rfl rfl rfl ?_
        refine WL.goff rfl rfl rfl rfl ?_
        refine WL.goff rfl rfl rfl rfl ?_
        refine WL.goff rfl rfl rfl rfl ?_
        refine WL.goff rfl rfl rfl rfl ?_
        refine WL.v (Runs.pick rfl rfl rfl) rfl ?_
        refine WL.nil (WN.thn ?_)
        refine WC.condT rfl (rfl) ?_
        refine WC.reg ?_
        refine WL.v (Runs.move rfl) rfl ?_
        refine WL.v (Runs.move rfl) rfl ?_
        refine WL.v (Runs.lidxN Try.underlying29 inf3 rfl rfl (n := k) rfl (by omega)) rfl ?_
        refine WL.v (Runs.loadR (f := Vi) (0 : Int) hL hrd (n := k) (by omega) Try.underlying3 rfl rfl) rfl ?_
        refine WL.v (Runs.assign rfl) rfl ?_
        refine WL.nil (WN.blk (WN.thn (WC.reg ?_)))
        refine WL.v (Runs.move rfl) rfl ?_
        refine WL.v (Runs.addn rfl rfl (by omega)) rfl ?_
        refine WL.v (Runs.assign rfl) rfl ?_
        refine WL.nil ?_
        refine WN.again (k + 1) (by omega) ⟨rfl, ?_, rfl, trivial⟩ ⟨by omega, hL⟩
        show _ = some (Vi (worst (xs.take (k + 1))))
        rw [worst_step xs k (by omega), if_pos (show k = 0 ∨ worst (xs.take k) < xs.getD k 0 by omega)]
        rfl
      · skip
        refine WC.reg ?_
        refine WL.v (Runs.move rfl) rfl ?_
        refine WL.v (Runs.boolT (c := false) (Runs.eql rfl rfl) (by rw [decide_eq_false_iff_not]; omega)) rfl ?_
        refine WL.v (Runs.move rfl) rfl ?_
        refine WL.gon rfl rfl rfl ?_
        refine WL.v (Runs.move rfl) rfl ?_
        refine WL.gon rfl rfl rfl ?_
        refine WL.v (Runs.move rfl) rfl ?_
        refine WL.gon rfl rfl rfl ?_
        refine WL.v (Runs.lidxN Try.underlying29 inf3 rfl rfl (n := k) rfl (by omega)) rfl ?_
        refine WL.gon rfl rfl rfl ?_
        refine WL.v (Runs.loadR (f := Vi) (0 : Int) hL hrd (n := k) (by omega) Try.underlying3 rfl rfl) rfl ?_
        refine WL.gon rfl rfl rfl ?_
        refine WL.v (Runs.move rfl) rfl ?_
        refine WL.gon rfl rfl rfl ?_
        refine WL.v (Runs.gtr rfl rfl) rfl ?_
        refine WL.v (Runs.pick rfl rfl rfl) rfl ?_
        refine WL.nil (WN.thn ?_)
        refine WC.cond rfl (fun c3 => ?_) (fun c3 => ?_)
        · try simp only [dt, df, nt, nf, ba, il, ie] at c3
          first
          | (exfalso; omega)
          | skip
            refine WC.reg ?_
            refine WL.v (Runs.move rfl) rfl ?_
            refine WL.v (Runs.move rfl) rfl ?_
            refine WL.v (Runs.lidxN Try.underlying29 inf3 rfl rfl (n := k) rfl (by omega)) rfl ?_
            refine WL.v (Runs.loadR (f := Vi) (0 : Int) hL hrd (n := k) (by omega) Try.underlying3 rfl rfl) rfl ?_
            refine WL.v (Runs.assign rfl) rfl ?_
            refine WL.nil (WN.blk (WN.thn (WC.reg ?_)))
            refine WL.v (Runs.move rfl) rfl ?_
            refine WL.v (Runs.addn rfl rfl (by omega)) rfl ?_
            refine WL.v (Runs.assign rfl) rfl ?_
            refine WL.nil ?_
            refine WN.again (k + 1) (by omega) ⟨rfl, ?_, rfl, trivial⟩ ⟨by omega, hL⟩
            show _ = some (Vi (worst (xs.take (k + 1))))
            rw [worst_step xs k (by omega), if_pos (show k = 0 ∨ worst (xs.take k) < xs.getD k 0 by omega)]
            rfl
        · try simp only [dt, df, nt, nf, ba, il, ie] at c3
          first
          | (exfalso; omega)
          | skip
            refine WC.skip (WN.blk (WN.thn (WC.reg ?_)))
            refine WL.v (Runs.move rfl) rfl ?_
            refine WL.v (Runs.addn rfl rfl (by omega)) rfl ?_
            refine WL.v (Runs.assign rfl) rfl ?_
            refine WL.nil ?_
            refine WN.again (k + 1) (by omega) ⟨rfl, ?_, rfl, trivial⟩ ⟨by omega, hL⟩
            show _ = some (Vi (worst (xs.take (k + 1))))
            rw [worst_step xs k (by omega), if_neg (show ¬ (k = 0 ∨ worst (xs.take k) < xs.getD k 0) by omega)]
            rfl
  · try simp only [dt, df, nt, nf, ba, il, ie] at c2
    first
    | (exfalso; omega)
    | skip
      refine WC.exit (WX.thn (WX.cut (WX.hit (WN.thn (WC.seq ?_)))))
      refine WC.reg ?_
      refine WL.v (Runs.move rfl) rfl ?_
      refine WL.v (Runs.assign rfl) rfl ?_
      refine WL.nil (WN.thn (WC.ret ?_))
      obtain rfl : k = xs.length := by omega
      refine ret1 rfl rfl ⟨?_, hL⟩
      rw [List.take_of_length_le (Nat.le_refl _)]
set_option maxRecDepth 100000 in
set_option maxHeartbeats 1000000 in
theorem exit1_c {W : World} {F : Snap} {cs : List Res} (w : World) (n : Int) (h : St W F cs w) : Calls Try.prog 42 #[Vi n] w fun r w' => r = .returned (.bool (!inB n 0 255)) ∧ St W F cs w'  := by
  refine enter (P := Try.prog) (args := [Vi n]) Try.func42 rfl rfl rfl ?_
  refine WC.seq (WC.reg ?_)
  refine WL.v (Runs.assign rfl) rfl ?_
  refine WL.nil (WN.thn (WC.seq (WC.reg ?_)))
  refine WL.v (Runs.move rfl) rfl ?_
  refine WL.call can26 rfl rfl (nin_c _ n 0 255 h) ?_
  rintro _ w1 ⟨rfl, h1⟩
  refine ⟨_, rfl, ?_⟩
  refine WL.v (Runs.not rfl) rfl ?_
  refine WL.v (Runs.assign rfl) rfl ?_
  refine WL.nil (WN.thn (WC.ret ?_))
  exact ret1 rfl rfl ⟨rfl, h1⟩
set_option maxRecDepth 100000 in
set_option maxHeartbeats 8000000 in
theorem decide_c {W : World} {F : Snap} {cs : List Res} (w : World) {AJ AS : Option Addr} {cj cS : Nat} {z : Z} {Ap : Option Addr} {cp : Nat} {f : Fc} {m : M} (id : Int) (hz : few z) (hR : ZR F AJ AS z) (hf : RdS (Kd.one Vi) F Ap f.ps) (hfn : f.ps.length ≤ 100000) (h : St W F cs w) : Calls Try.prog 11 #[Vi id, .agg #[.slice AJ z.js.length cj, .slice AS z.ss.length cS, .bool z.dr], .agg #[Vi m.kd, Vi m.fr, Vi m.to, Vi m.jb, Vi m.ep, Vi m.st, Vi m.ar, .string m.tx], .agg #[Vi f.cr, .slice Ap f.ps.length cp, Vi f.cd, .bool f.bz]] w fun e w' => ∃ G A cap, Le F G ∧ e = .returned (.tuple #[.agg (acv A cap (decideM id z m f).1), Vi (decideM id z m f).2]) ∧ RdS (Kd.one Vi) G A (decideM id z m f).1.rc.ls ∧ St W G cs w'  := by
  refine enter (P := Try.prog) (args := [Vi id, .agg #[.slice AJ z.js.length cj, .slice AS z.ss.length cS, .bool z.dr], .agg #[Vi m.kd, Vi m.fr, Vi m.to, Vi m.jb, Vi m.ep, Vi m.st, Vi m.ar, .string m.tx], .agg #[Vi f.cr, .slice Ap f.ps.length cp, Vi f.cd, .bool f.bz]]) Try.func11 rfl rfl rfl ?_
  have hleF := Le.refl F
  refine WC.seq (WC.reg ?_)
  refine WL.box rfl h rfl ?_
  intro b5 w1 h1
  refine WL.box rfl h1 rfl ?_
  intro b6 w2 h2
  refine WL.box rfl h2 rfl ?_
  intro b7 w3 h3
  refine WL.alloc' rfl h3 inf39 ?_
  intro b8 w4 h4
  refine WL.v (Runs.assign rfl) rfl ?_
  refine WL.nil (WN.thn (WC.seq (WC.seq ?_)))
  rcases four (0 ≤ id ∧ id ≤ 15) (0 ≤ f.cd ∧ f.cd ≤ 255) (m.fr = -1) (m.to = id) with q0 | ⟨q0, q1⟩ | ⟨q0, q1, q2⟩ | ⟨q0, q1, q2, q3⟩ | ⟨q0, q1, q2, q3⟩
  · skip
    refine WC.reg ?_
    refine WL.v (Runs.move rfl) rfl ?_
    refine WL.call can26 rfl rfl (nin_c _ id 0 15 h4) ?_
    rintro _ w5 ⟨rfl, h5⟩
    refine ⟨_, rfl, ?_⟩
    refine WL.v (Runs.boolT (c := true) (Runs.not rfl) (by unfold inB; rw [decide_eq_false q0]; rfl)) rfl ?_
    refine WL.v (Runs.move rfl) rfl ?_
    refine WL.goff rfl rfl rfl rfl ?_
    refine WL.goff rfl rfl rfl rfl ?_
    refine WL.goff rfl rfl rfl rfl ?_
    refine WL.goff rfl rfl rfl rfl ?_
    refine WL.v (Runs.pick rfl rfl rfl) rfl ?_
    refine WL.v (Runs.move rfl) rfl ?_
    refine WL.goff rfl rfl rfl rfl ?_
    refine WL.goff rfl rfl rfl rfl ?_
    refine WL.goff rfl rfl rfl rfl ?_
    refine WL.v (Runs.pick rfl rfl rfl) rfl ?_
    refine WL.v (Runs.move rfl) rfl ?_
    refine WL.goff rfl rfl rfl rfl ?_
    refine WL.goff rfl rfl rfl rfl ?_
    refine WL.goff rfl rfl rfl rfl ?_
    refine WL.goff rfl rfl rfl rfl ?_
    refine WL.v (Runs.pick rfl rfl rfl) rfl ?_
    refine WL.nil (WN.thn ?_)
    refine WC.condT rfl (rfl) ?_
    refine WC.seq (WC.reg ?_)
    refine WL.v (Runs.build (vs := []) (cells := #[.bool false, Vi 0, Vi 0, Vi 0, Vi 0, Vi 0, .slice none 0 0, .bool false, Vi 0, Vi 0, Vi 0, Vi 0, Vi 0, Vi 0, Vi 0, .string ⟨#[]⟩, .bool false, .bool false, .bool false]) rfl (by kernel_rfl)) rfl ?_
    refine WL.storeAll h5 0 rfl rfl rfl inf39 rfl rfl rfl (Free.zero _) ?_
    intro  w6 h6
    try simp only [lz, ls, ez, es'] at h6
    refine WL.v (Runs.assign rfl) rfl ?_
    refine WL.nil (WN.thn (WC.ret ?_))
    have hv : decideM id z m f = (A0, 1) := by unfold decideM; rw [if_pos (.inl q0)]
    refine retB rfl (ResOk.blk h6 0 rfl Try.underlying39 rfl inf39 rfl rfl) (show lk _ _ = _ from rfl) ⟨_, none, 0, hleF, by rw [hv] <;> rfl, by rw [hv]; exact .inl rfl, ((((h6.drop 0).drop 0).drop 0).drop 0)⟩
  · skip
    refine WC.reg ?_
    refine WL.v (Runs.move rfl) rfl ?_
    refine WL.call can26 rfl rfl (nin_c _ id 0 15 h4) ?_
    rintro _ w7 ⟨rfl, h7⟩
    refine ⟨_, rfl, ?_⟩
    refine WL.v (Runs.boolT (c := false) (Runs.not rfl) (by unfold inB; rw [decide_eq_true q0]; rfl)) rfl ?_
    refine WL.v (Runs.move rfl) rfl ?_
    refine WL.gon rfl rfl rfl ?_
    refine WL.v (Runs.fld fld47_2 rfl) rfl ?_
    refine WL.gon rfl rfl rfl ?_
    refine WL.v (Runs.load1 Try.underlying3 rfl rfl (h7.ocell (i := 1) rfl rfl)) rfl ?_
    refine WL.gon rfl rfl rfl ?_
    refine WL.call can26 rfl rfl (nin_c _ f.cd 0 255 h7) ?_
    rintro _ w8 ⟨rfl, h8⟩
    refine ⟨_, rfl, ?_⟩
    refine WL.gon rfl rfl rfl ?_
    refine WL.v (Runs.boolT (c := true) (Runs.not rfl) (by unfold inB; rw [decide_eq_false q1]; rfl)) rfl ?_
    refine WL.v (Runs.pick rfl rfl rfl) rfl ?_
    refine WL.v (Runs.move rfl) rfl ?_
    refine WL.goff rfl rfl rfl rfl ?_
    refine WL.goff rfl rfl rfl rfl ?_
    refine WL.goff rfl rfl rfl rfl ?_
    refine WL.v (Runs.pick rfl rfl rfl) rfl ?_
    refine WL.v (Runs.move rfl) rfl ?_
    refine WL.goff rfl rfl rfl rfl ?_
    refine WL.goff rfl rfl rfl rfl ?_
    refine WL.goff rfl rfl rfl rfl ?_
    refine WL.goff rfl rfl rfl rfl ?_
    refine WL.v (Runs.pick rfl rfl rfl) rfl ?_
    refine WL.nil (WN.thn ?_)
    refine WC.condT rfl (rfl) ?_
    refine WC.seq (WC.reg ?_)
    refine WL.v (Runs.build (vs := []) (cells := #[.bool false, Vi 0, Vi 0, Vi 0, Vi 0, Vi 0, .slice none 0 0, .bool false, Vi 0, Vi 0, Vi 0, Vi 0, Vi 0, Vi 0, Vi 0, .string ⟨#[]⟩, .bool false, .bool false, .bool false]) rfl (by kernel_rfl)) rfl ?_
    refine WL.storeAll h8 0 rfl rfl rfl inf39 rfl rfl rfl (Free.zero _) ?_
    intro  w9 h9
    try simp only [lz, ls, ez, es'] at h9
    refine WL.v (Runs.assign rfl) rfl ?_
    refine WL.nil (WN.thn (WC.ret ?_))
    have hv : decideM id z m f = (A0, 1) := by unfold decideM; rw [if_pos (.inr (.inl q1))]
    refine retB rfl (ResOk.blk h9 0 rfl Try.underlying39 rfl inf39 rfl rfl) (show lk _ _ = _ from rfl) ⟨_, none, 0, hleF, by rw [hv] <;> rfl, by rw [hv]; exact .inl rfl, ((((h9.drop 0).drop 0).drop 0).drop 0)⟩
  · skip
    refine WC.reg ?_
    refine WL.v (Runs.move rfl) rfl ?_
    refine WL.call can26 rfl rfl (nin_c _ id 0 15 h4) ?_
    rintro _ w10 ⟨rfl, h10⟩
    refine ⟨_, rfl, ?_⟩
    refine WL.v (Runs.boolT (c := false) (Runs.not rfl) (by unfold inB; rw [decide_eq_true q0]; rfl)) rfl ?_
    refine WL.v (Runs.move rfl) rfl ?_
    refine WL.gon rfl rfl rfl ?_
    refine WL.v (Runs.fld fld47_2 rfl) rfl ?_
    refine WL.gon rfl rfl rfl ?_
    refine WL.v (Runs.load1 Try.underlying3 rfl rfl (h10.ocell (i := 1) rfl rfl)) rfl ?_
    refine WL.gon rfl rfl rfl ?_
    refine WL.call can26 rfl rfl (nin_c _ f.cd 0 255 h10) ?_
    rintro _ w11 ⟨rfl, h11⟩
    refine ⟨_, rfl, ?_⟩
    refine WL.gon rfl rfl rfl ?_
    refine WL.v (Runs.boolT (c := false) (Runs.not rfl) (by unfold inB; rw [decide_eq_true q1]; rfl)) rfl ?_
    refine WL.v (Runs.pick rfl rfl rfl) rfl ?_
    refine WL.v (Runs.move rfl) rfl ?_
    refine WL.gon rfl rfl rfl ?_
    refine WL.v (Runs.fld fld27_1 rfl) rfl ?_
    refine WL.gon rfl rfl rfl ?_
    refine WL.v (Runs.load1 Try.underlying3 rfl rfl (h11.ocell (i := 2) rfl rfl)) rfl ?_
    refine WL.gon rfl rfl rfl ?_
    refine WL.v (Runs.boolT (c := true) (Runs.neq rfl rfl) (by rw [decide_eq_false q2]; rfl)) rfl ?_
    refine WL.v (Runs.pick rfl rfl rfl) rfl ?_
    refine WL.v (Runs.move rfl) rfl ?_
    refine WL.goff rfl rfl rfl rfl ?_
    refine WL.goff rfl rfl rfl rfl ?_
    refine WL.goff rfl rfl rfl rfl ?_
    refine WL.goff rfl rfl rfl rfl ?_
    refine WL.v (Runs.pick rfl rfl rfl) rfl ?_
    refine WL.nil (WN.thn ?_)
    refine WC.condT rfl (rfl) ?_
    refine WC.seq (WC.reg ?_)
    refine WL.v (Runs.build (vs := []) (cells := #[.bool false, Vi 0, Vi 0, Vi 0, Vi 0, Vi 0, .slice none 0 0, .bool false, Vi 0, Vi 0, Vi 0, Vi 0, Vi 0, Vi 0, Vi 0, .string ⟨#[]⟩, .bool false, .bool false, .bool false]) rfl (by kernel_rfl)) rfl ?_
    refine WL.storeAll h11 0 rfl rfl rfl inf39 rfl rfl rfl (Free.zero _) ?_
    intro  w12 h12
    try simp only [lz, ls, ez, es'] at h12
    refine WL.v (Runs.assign rfl) rfl ?_
    refine WL.nil (WN.thn (WC.ret ?_))
    have hv : decideM id z m f = (A0, 1) := by unfold decideM; rw [if_pos (.inr (.inr (.inl q2)))]
    refine retB rfl (ResOk.blk h12 0 rfl Try.underlying39 rfl inf39 rfl rfl) (show lk _ _ = _ from rfl) ⟨_, none, 0, hleF, by rw [hv] <;> rfl, by rw [hv]; exact .inl rfl, ((((h12.drop 0).drop 0).drop 0).drop 0)⟩
  · skip
    refine WC.reg ?_
    refine WL.v (Runs.move rfl) rfl ?_
    refine WL.call can26 rfl rfl (nin_c _ id 0 15 h4) ?_
    rintro _ w13 ⟨rfl, h13⟩
    refine ⟨_, rfl, ?_⟩
    refine WL.v (Runs.boolT (c := false) (Runs.not rfl) (by unfold inB; rw [decide_eq_true q0]; rfl)) rfl ?_
    refine WL.v (Runs.move rfl) rfl ?_
    refine WL.gon rfl rfl rfl ?_
    refine WL.v (Runs.fld fld47_2 rfl) rfl ?_
    refine WL.gon rfl rfl rfl ?_
    refine WL.v (Runs.load1 Try.underlying3 rfl rfl (h13.ocell (i := 1) rfl rfl)) rfl ?_
    refine WL.gon rfl rfl rfl ?_
    refine WL.call can26 rfl rfl (nin_c _ f.cd 0 255 h13) ?_
    rintro _ w14 ⟨rfl, h14⟩
    refine ⟨_, rfl, ?_⟩
    refine WL.gon rfl rfl rfl ?_
    refine WL.v (Runs.boolT (c := false) (Runs.not rfl) (by unfold inB; rw [decide_eq_true q1]; rfl)) rfl ?_
    refine WL.v (Runs.pick rfl rfl rfl) rfl ?_
    refine WL.v (Runs.move rfl) rfl ?_
    refine WL.gon rfl rfl rfl ?_
    refine WL.v (Runs.fld fld27_1 rfl) rfl ?_
    refine WL.gon rfl rfl rfl ?_
    refine WL.v (Runs.load1 Try.underlying3 rfl rfl (h14.ocell (i := 2) rfl rfl)) rfl ?_
    refine WL.gon rfl rfl rfl ?_
    refine WL.v (Runs.boolT (c := false) (Runs.neq rfl rfl) (by rw [decide_eq_true q2]; rfl)) rfl ?_
    refine WL.v (Runs.pick rfl rfl rfl) rfl ?_
    refine WL.v (Runs.move rfl) rfl ?_
    refine WL.gon rfl rfl rfl ?_
    refine WL.v (Runs.fld fld27_2 rfl) rfl ?_
    refine WL.gon rfl rfl rfl ?_
    refine WL.v (Runs.load1 Try.underlying3 rfl rfl (h14.ocell (i := 2) rfl rfl)) rfl ?_
    refine WL.gon rfl rfl rfl ?_
    refine WL.v (Runs.move rfl) rfl ?_
    refine WL.gon rfl rfl rfl ?_
    refine WL.v (Runs.boolT (c := true) (Runs.neq rfl rfl) (by rw [decide_eq_false q3]; rfl)) rfl ?_
    refine WL.v (Runs.pick rfl rfl rfl) rfl ?_
    refine WL.nil (WN.thn ?_)
    refine WC.condT rfl (rfl) ?_
    refine WC.seq (WC.reg ?_)
    refine WL.v (Runs.build (vs := []) (cells := #[.bool false, Vi 0, Vi 0, Vi 0, Vi 0, Vi 0, .slice none 0 0, .bool false, Vi 0, Vi 0, Vi 0, Vi 0, Vi 0, Vi 0, Vi 0, .string ⟨#[]⟩, .bool false, .bool false, .bool false]) rfl (by kernel_rfl)) rfl ?_
    refine WL.storeAll h14 0 rfl rfl rfl inf39 rfl rfl rfl (Free.zero _) ?_
    intro  w15 h15
    try simp only [lz, ls, ez, es'] at h15
    refine WL.v (Runs.assign rfl) rfl ?_
    refine WL.nil (WN.thn (WC.ret ?_))
    have hv : decideM id z m f = (A0, 1) := by unfold decideM; rw [if_pos (.inr (.inr (.inr (q3))))]
    refine retB rfl (ResOk.blk h15 0 rfl Try.underlying39 rfl inf39 rfl rfl) (show lk _ _ = _ from rfl) ⟨_, none, 0, hleF, by rw [hv] <;> rfl, by rw [hv]; exact .inl rfl, ((((h15.drop 0).drop 0).drop 0).drop 0)⟩
  · skip
    refine WC.reg ?_
    refine WL.v (Runs.move rfl) rfl ?_
    refine WL.call can26 rfl rfl (nin_c _ id 0 15 h4) ?_
    rintro _ w16 ⟨rfl, h16⟩
    refine ⟨_, rfl, ?_⟩
    refine WL.v (Runs.boolT (c := false) (Runs.not rfl) (by unfold inB; rw [decide_eq_true q0]; rfl)) rfl ?_
    refine WL.v (Runs.move rfl) rfl ?_
    refine WL.gon rfl rfl rfl ?_
    refine WL.v (Runs.fld fld47_2 rfl) rfl ?_
    refine WL.gon rfl rfl rfl ?_
    refine WL.v (Runs.load1 Try.underlying3 rfl rfl (h16.ocell (i := 1) rfl rfl)) rfl ?_
    refine WL.gon rfl rfl rfl ?_
    refine WL.call can26 rfl rfl (nin_c _ f.cd 0 255 h16) ?_
    rintro _ w17 ⟨rfl, h17⟩
    refine ⟨_, rfl, ?_⟩
    refine WL.gon rfl rfl rfl ?_
    refine WL.v (Runs.boolT (c := false) (Runs.not rfl) (by unfold inB; rw [decide_eq_true q1]; rfl)) rfl ?_
    refine WL.v (Runs.pick rfl rfl rfl) rfl ?_
    refine WL.v (Runs.move rfl) rfl ?_
    refine WL.gon rfl rfl rfl ?_
    refine WL.v (Runs.fld fld27_1 rfl) rfl ?_
    refine WL.gon rfl rfl rfl ?_
    refine WL.v (Runs.load1 Try.underlying3 rfl rfl (h17.ocell (i := 2) rfl rfl)) rfl ?_
    refine WL.gon rfl rfl rfl ?_
    refine WL.v (Runs.boolT (c := false) (Runs.neq rfl rfl) (by rw [decide_eq_true q2]; rfl)) rfl ?_
    refine WL.v (Runs.pick rfl rfl rfl) rfl ?_
    refine WL.v (Runs.move rfl) rfl ?_
    refine WL.gon rfl rfl rfl ?_
    refine WL.v (Runs.fld fld27_2 rfl) rfl ?_
    refine WL.gon rfl rfl rfl ?_
    refine WL.v (Runs.load1 Try.underlying3 rfl rfl (h17.ocell (i := 2) rfl rfl)) rfl ?_
    refine WL.gon rfl rfl rfl ?_
    refine WL.v (Runs.move rfl) rfl ?_
    refine WL.gon rfl rfl rfl ?_
    refine WL.v (Runs.boolT (c := false) (Runs.neq rfl rfl) (by rw [decide_eq_true q3]; rfl)) rfl ?_
    refine WL.v (Runs.pick rfl rfl rfl) rfl ?_
    refine WL.nil (WN.thn ?_)
    refine WC.condF rfl (rfl) ?_
    refine WC.skip (WN.thn (WC.seq (WC.reg ?_)))
    refine WL.v (Runs.move rfl) rfl ?_
    refine WL.v (Runs.loadAll h17 3 rfl Try.underlying45 rfl inf45 rfl rfl) rfl ?_
    refine WL.v (Runs.loadAll h17 2 rfl Try.underlying27 rfl inf27 rfl rfl) rfl ?_
    refine WL.call can27 rfl rfl (of_c _ id hz hR h17) ?_
    rintro _ w18 ⟨G35, bx, hG35, rfl, hX, h18⟩
    refine ⟨_, rfl, ?_⟩
    replace hleF := Le.trans hleF hG35
    replace hR := hR.mono hG35
    replace hf := hf.mono hG35
    refine WL.v (Runs.assign rfl) rfl ?_
    refine WL.nil (WN.thn (WC.seq (WC.seq (WC.reg ?_))))
    refine WL.v (Runs.fld fld27_0 rfl) rfl ?_
    refine WL.v (Runs.load1 Try.underlying3 rfl rfl (h18.ocell (i := 2) rfl rfl)) rfl ?_
    refine WL.nil (WN.thn (WC.block (WC.seq (WC.reg ?_))))
    refine WL.v (Runs.eql rfl rfl) rfl ?_
    refine WL.v (Runs.assign rfl) rfl ?_
    refine WL.nil (WN.thn ?_)
    refine WC.cond rfl (fun c19 => ?_) (fun c19 => ?_)
    · try simp only [dt, df, nt, nf, ba, il, ie] at c19
      first
      | (exfalso; omega)
      | skip
        refine WC.seq (WC.reg ?_)
        refine WL.v (Runs.move rfl) rfl ?_
        refine WL.v (Runs.loadAll h18 1 rfl Try.underlying47 rfl inf47 rfl rfl) rfl ?_
        refine WL.call can28 rfl rfl (prologA_c _ hX hz h18) ?_
        rintro _ w20 ⟨G42, A42, c42, hG42, rfl, hrd42, h20⟩
        refine ⟨_, rfl, ?_⟩
        replace hleF := Le.trans hleF hG42
        replace hR := hR.mono hG42
        replace hf := hf.mono hG42
        replace hX := hX.mono hG42
        refine WL.storeAll h20 0 rfl rfl rfl inf39 rfl rfl rfl (Free.zero _) ?_
        intro  w21 h21
        try simp only [lz, ls, ez, es'] at h21
        refine WL.v (Runs.assign rfl) rfl ?_
        refine WL.nil (WN.thn (WC.ret ?_))
        have hv : decideM id z m f = (prologA id z m f.cd, 0) := by unfold decideM; rw [if_neg (by rintro (hh | hh | hh | hh); exact hh q0; exact hh q1; exact hh q2; exact hh q3), if_pos c19]
        refine retB rfl (ResOk.blk h21 0 rfl Try.underlying39 rfl inf39 rfl rfl) (show lk _ _ = _ from rfl) ⟨_, A42, c42, hleF, by rw [hv] <;> rfl, by rw [hv]; exact hrd42, ((((h21.drop 0).drop 0).drop 0).drop 0)⟩
    · try simp only [dt, df, nt, nf, ba, il, ie] at c19
      first
      | (exfalso; omega)
      | skip
        refine WC.seq (WC.reg ?_)
        refine WL.v (Runs.eql rfl rfl) rfl ?_
        refine WL.v (Runs.assign rfl) rfl ?_
        refine WL.nil (WN.thn ?_)
        refine WC.cond rfl (fun c22 => ?_) (fun c22 => ?_)
        · try simp only [dt, df, nt, nf, ba, il, ie] at c22
          first
          | (exfalso; omega)
          | skip
            refine WC.seq (WC.reg ?_)
            refine WL.v (Runs.move rfl) rfl ?_
            refine WL.v (Runs.loadAll h18 1 rfl Try.underlying47 rfl inf47 rfl rfl) rfl ?_
            refine WL.call can29 rfl rfl (launchA_c _ hX hf hfn h18) ?_
            rintro _ w23 ⟨G47, A47, c47, hG47, rfl, hrd47, h23⟩
            refine ⟨_, rfl, ?_⟩
            replace hleF := Le.trans hleF hG47
            replace hR := hR.mono hG47
            replace hf := hf.mono hG47
            replace hX := hX.mono hG47
            refine WL.storeAll h23 0 rfl rfl rfl inf39 rfl rfl rfl (Free.zero _) ?_
            intro  w24 h24
            try simp only [lz, ls, ez, es'] at h24
            refine WL.v (Runs.assign rfl) rfl ?_
            refine WL.nil (WN.thn (WC.ret ?_))
            have hv : decideM id z m f = (launchA id z m f, 0) := by unfold decideM; rw [if_neg (by rintro (hh | hh | hh | hh); exact hh q0; exact hh q1; exact hh q2; exact hh q3), if_neg c19, if_pos c22]
            refine retB rfl (ResOk.blk h24 0 rfl Try.underlying39 rfl inf39 rfl rfl) (show lk _ _ = _ from rfl) ⟨_, A47, c47, hleF, by rw [hv] <;> rfl, by rw [hv]; exact hrd47, ((((h24.drop 0).drop 0).drop 0).drop 0)⟩
        · try simp only [dt, df, nt, nf, ba, il, ie] at c22
          first
          | (exfalso; omega)
          | skip
            refine WC.seq (WC.reg ?_)
            refine WL.v (Runs.eql rfl rfl) rfl ?_
            refine WL.v (Runs.assign rfl) rfl ?_
            refine WL.nil (WN.thn ?_)
            refine WC.cond rfl (fun c25 => ?_) (fun c25 => ?_)
            · try simp only [dt, df, nt, nf, ba, il, ie] at c25
              first
              | (exfalso; omega)
              | skip
                refine WC.seq (WC.reg ?_)
                refine WL.v (Runs.move rfl) rfl ?_
                refine WL.call can30 rfl rfl (releaseA_c _ hX h18) ?_
                rintro _ w26 ⟨G51, A51, c51, hG51, rfl, hrd51, h26⟩
                refine ⟨_, rfl, ?_⟩
                replace hleF := Le.trans hleF hG51
                replace hR := hR.mono hG51
                replace hf := hf.mono hG51
                replace hX := hX.mono hG51
                refine WL.storeAll h26 0 rfl rfl rfl inf39 rfl rfl rfl (Free.zero _) ?_
                intro  w27 h27
                try simp only [lz, ls, ez, es'] at h27
                refine WL.v (Runs.assign rfl) rfl ?_
                refine WL.nil (WN.thn (WC.ret ?_))
                have hv : decideM id z m f = (releaseA id z m, 0) := by unfold decideM; rw [if_neg (by rintro (hh | hh | hh | hh); exact hh q0; exact hh q1; exact hh q2; exact hh q3), if_neg c19, if_neg c22, if_pos c25]
                refine retB rfl (ResOk.blk h27 0 rfl Try.underlying39 rfl inf39 rfl rfl) (show lk _ _ = _ from rfl) ⟨_, A51, c51, hleF, by rw [hv] <;> rfl, by rw [hv]; exact hrd51, ((((h27.drop 0).drop 0).drop 0).drop 0)⟩
            · try simp only [dt, df, nt, nf, ba, il, ie] at c25
              first
              | (exfalso; omega)
              | skip
                refine WC.seq (WC.reg ?_)
                refine WL.v (Runs.eql rfl rfl) rfl ?_
                refine WL.v (Runs.assign rfl) rfl ?_
                refine WL.nil (WN.thn ?_)
                refine WC.cond rfl (fun c28 => ?_) (fun c28 => ?_)
                · try simp only [dt, df, nt, nf, ba, il, ie] at c28
                  first
                  | (exfalso; omega)
                  | skip
                    refine WC.seq (WC.reg ?_)
                    refine WL.v (Runs.move rfl) rfl ?_
                    refine WL.call can31 rfl rfl (abortA_c _ hX h18) ?_
                    rintro _ w29 ⟨G55, A55, c55, hG55, rfl, hrd55, h29⟩
                    refine ⟨_, rfl, ?_⟩
                    replace hleF := Le.trans hleF hG55
                    replace hR := hR.mono hG55
                    replace hf := hf.mono hG55
                    replace hX := hX.mono hG55
                    refine WL.storeAll h29 0 rfl rfl rfl inf39 rfl rfl rfl (Free.zero _) ?_
                    intro  w30 h30
                    try simp only [lz, ls, ez, es'] at h30
                    refine WL.v (Runs.assign rfl) rfl ?_
                    refine WL.nil (WN.thn (WC.ret ?_))
                    have hv : decideM id z m f = (abortA z m, 0) := by unfold decideM; rw [if_neg (by rintro (hh | hh | hh | hh); exact hh q0; exact hh q1; exact hh q2; exact hh q3), if_neg c19, if_neg c22, if_neg c25, if_pos c28]
                    refine retB rfl (ResOk.blk h30 0 rfl Try.underlying39 rfl inf39 rfl rfl) (show lk _ _ = _ from rfl) ⟨_, A55, c55, hleF, by rw [hv] <;> rfl, by rw [hv]; exact hrd55, ((((h30.drop 0).drop 0).drop 0).drop 0)⟩
                · try simp only [dt, df, nt, nf, ba, il, ie] at c28
                  first
                  | (exfalso; omega)
                  | skip
                    refine WC.seq (WC.reg ?_)
                    refine WL.v (Runs.eql rfl rfl) rfl ?_
                    refine WL.v (Runs.assign rfl) rfl ?_
                    refine WL.nil (WN.thn ?_)
                    refine WC.cond rfl (fun c31 => ?_) (fun c31 => ?_)
                    · try simp only [dt, df, nt, nf, ba, il, ie] at c31
                      first
                      | (exfalso; omega)
                      | skip
                        refine WC.seq (WC.reg ?_)
                        refine WL.v (Runs.move rfl) rfl ?_
                        refine WL.call can32 rfl rfl (phase_c _ hX 1 h18) ?_
                        rintro _ w32 ⟨rfl, h32⟩
                        refine ⟨_, rfl, ?_⟩
                        refine WL.v (Runs.build (vs := [(6, .bool (phB z m 1))]) (cells := #[.bool false, Vi 0, Vi 0, Vi 0, Vi 0, Vi 0, .slice none 0 0, .bool false, Vi 0, Vi 0, Vi 0, Vi 0, Vi 0, Vi 0, Vi 0, .string ⟨#[]⟩, .bool false, .bool false, .bool (phB z m 1)]) rfl (by kernel_rfl)) rfl ?_
                        refine WL.storeAll h32 0 rfl rfl rfl inf39 rfl rfl rfl (Free.zero _) ?_
                        intro  w33 h33
                        try simp only [lz, ls, ez, es'] at h33
                        refine WL.v (Runs.assign rfl) rfl ?_
                        refine WL.nil (WN.thn (WC.ret ?_))
                        have hv : decideM id z m f = ({ A0 with can := phB z m 1 }, 0) := by unfold decideM; rw [if_neg (by rintro (hh | hh | hh | hh); exact hh q0; exact hh q1; exact hh q2; exact hh q3), if_neg c19, if_neg c22, if_neg c25, if_neg c28, if_pos c31]
                        refine retB rfl (ResOk.blk h33 0 rfl Try.underlying39 rfl inf39 rfl rfl) (show lk _ _ = _ from rfl) ⟨_, none, 0, hleF, by rw [hv] <;> rfl, by rw [hv]; exact .inl rfl, ((((h33.drop 0).drop 0).drop 0).drop 0)⟩
                    · try simp only [dt, df, nt, nf, ba, il, ie] at c31
                      first
                      | (exfalso; omega)
                      | skip
                        refine WC.seq (WC.reg ?_)
                        refine WL.v (Runs.eql rfl rfl) rfl ?_
                        refine WL.v (Runs.assign rfl) rfl ?_
                        refine WL.nil (WN.thn ?_)
                        refine WC.cond rfl (fun c34 => ?_) (fun c34 => ?_)
                        · try simp only [dt, df, nt, nf, ba, il, ie] at c34
                          first
                          | (exfalso; omega)
                          | skip
                            refine WC.seq (WC.reg ?_)
                            refine WL.v (Runs.move rfl) rfl ?_
                            refine WL.v (Runs.loadAll h18 1 rfl Try.underlying47 rfl inf47 rfl rfl) rfl ?_
                            refine WL.call can33 rfl rfl (finishA_c _ hX hz h18) ?_
                            rintro _ w35 ⟨G65, A65, c65, hG65, rfl, hrd65, h35⟩
                            refine ⟨_, rfl, ?_⟩
                            replace hleF := Le.trans hleF hG65
                            replace hR := hR.mono hG65
                            replace hf := hf.mono hG65
                            replace hX := hX.mono hG65
                            refine WL.storeAll h35 0 rfl rfl rfl inf39 rfl rfl rfl (Free.zero _) ?_
                            intro  w36 h36
                            try simp only [lz, ls, ez, es'] at h36
                            refine WL.v (Runs.assign rfl) rfl ?_
                            refine WL.nil (WN.thn (WC.ret ?_))
                            have hv : decideM id z m f = (finishA id z m f, 0) := by unfold decideM; rw [if_neg (by rintro (hh | hh | hh | hh); exact hh q0; exact hh q1; exact hh q2; exact hh q3), if_neg c19, if_neg c22, if_neg c25, if_neg c28, if_neg c31, if_pos c34]
                            refine retB rfl (ResOk.blk h36 0 rfl Try.underlying39 rfl inf39 rfl rfl) (show lk _ _ = _ from rfl) ⟨_, A65, c65, hleF, by rw [hv] <;> rfl, by rw [hv]; exact hrd65, ((((h36.drop 0).drop 0).drop 0).drop 0)⟩
                        · try simp only [dt, df, nt, nf, ba, il, ie] at c34
                          first
                          | (exfalso; omega)
                          | skip
                            refine WC.skip (WN.blk (WN.thn (WC.seq (WC.reg ?_))))
                            refine WL.v (Runs.build (vs := []) (cells := #[.bool false, Vi 0, Vi 0, Vi 0, Vi 0, Vi 0, .slice none 0 0, .bool false, Vi 0, Vi 0, Vi 0, Vi 0, Vi 0, Vi 0, Vi 0, .string ⟨#[]⟩, .bool false, .bool false, .bool false]) rfl (by kernel_rfl)) rfl ?_
                            refine WL.storeAll h18 0 rfl rfl rfl inf39 rfl rfl rfl (Free.zero _) ?_
                            intro  w37 h37
                            try simp only [lz, ls, ez, es'] at h37
                            refine WL.v (Runs.assign rfl) rfl ?_
                            refine WL.nil (WN.thn (WC.ret ?_))
                            have hv : decideM id z m f = (A0, 5) := by unfold decideM; rw [if_neg (by rintro (hh | hh | hh | hh); exact hh q0; exact hh q1; exact hh q2; exact hh q3), if_neg c19, if_neg c22, if_neg c25, if_neg c28, if_neg c31, if_neg c34]
                            refine retB rfl (ResOk.blk h37 0 rfl Try.underlying39 rfl inf39 rfl rfl) (show lk _ _ = _ from rfl) ⟨_, none, 0, hleF, by rw [hv] <;> rfl, by rw [hv]; exact .inl rfl, ((((h37.drop 0).drop 0).drop 0).drop 0)⟩
set_option maxRecDepth 100000 in
set_option maxHeartbeats 8000000 in
theorem exit_c {W : World} {F : Snap} {cs : List Res} (w : World) {AJ AS : Option Addr} {cj cS : Nat} {z : Z} {Al : Option Addr} {cl : Nat} {r : R} {Ac_ : Option Addr} {cc : Nat} {codes : List Int} (id : Int) (hz : few z) (hR : ZR F AJ AS z) (hcd : RdS (Kd.one Vi) F Ac_ codes) (hcn : codes.length ≤ 100000) (h : St W F cs w) : Calls Try.prog 19 #[Vi id, .agg #[.slice AJ z.js.length cj, .slice AS z.ss.length cS, .bool z.dr], .agg #[Vi r.kd, Vi r.jb, Vi r.ep, Vi r.st, Vi r.ar, .slice Al r.ls.length cl], .slice Ac_ codes.length cc] w fun e w' => ∃ G A cap, Le F G ∧ e = .returned (.tuple #[.agg (acv A cap (exitM id z r codes).1), Vi (exitM id z r codes).2]) ∧ RdS (Kd.one Vi) G A (exitM id z r codes).1.rc.ls ∧ St W G cs w'  := by
  refine enter (P := Try.prog) (args := [Vi id, .agg #[.slice AJ z.js.length cj, .slice AS z.ss.length cS, .bool z.dr], .agg #[Vi r.kd, Vi r.jb, Vi r.ep, Vi r.st, Vi r.ar, .slice Al r.ls.length cl], .slice Ac_ codes.length cc]) Try.func19 rfl rfl rfl ?_
  have hleF := Le.refl F
  refine WC.seq (WC.reg ?_)
  refine WL.box rfl h rfl ?_
  intro b5 w1 h1
  refine WL.box rfl h1 rfl ?_
  intro b6 w2 h2
  refine WL.alloc' rfl h2 inf39 ?_
  intro b8 w3 h3
  refine WL.v (Runs.assign rfl) rfl ?_
  refine WL.nil (WN.thn (WC.seq (WC.reg ?_)))
  refine WL.v (Runs.assign rfl) rfl ?_
  refine WL.nil (WN.thn (WC.seq (WC.seq ?_)))
  rcases two (0 ≤ id ∧ id ≤ 15) (¬ codes.length = 0) with q0 | ⟨q0, q1⟩ | ⟨q0, q1⟩
  · skip
    refine WC.reg ?_
    refine WL.v (Runs.move rfl) rfl ?_
    refine WL.call can26 rfl rfl (nin_c _ id 0 15 h3) ?_
    rintro _ w4 ⟨rfl, h4⟩
    refine ⟨_, rfl, ?_⟩
    refine WL.v (Runs.boolT (c := true) (Runs.not rfl) (by unfold inB; rw [decide_eq_false q0]; rfl)) rfl ?_
    refine WL.v (Runs.move rfl) rfl ?_
    refine WL.goff rfl rfl rfl rfl ?_
    refine WL.goff rfl rfl rfl rfl ?_
    refine WL.goff rfl rfl rfl rfl ?_
    refine WL.v (Runs.pick rfl rfl rfl) rfl ?_
    refine WL.v (Runs.move rfl) rfl ?_
    refine WL.goff rfl rfl rfl rfl ?_
    refine WL.goff rfl rfl rfl rfl ?_
    refine WL.goff rfl rfl rfl rfl ?_
    refine WL.v (Runs.pick rfl rfl rfl) rfl ?_
    refine WL.nil (WN.thn ?_)
    refine WC.condT rfl (rfl) ?_
    refine WC.seq (WC.reg ?_)
    refine WL.v (Runs.build (vs := []) (cells := #[.bool false, Vi 0, Vi 0, Vi 0, Vi 0, Vi 0, .slice none 0 0, .bool false, Vi 0, Vi 0, Vi 0, Vi 0, Vi 0, Vi 0, Vi 0, .string ⟨#[]⟩, .bool false, .bool false, .bool false]) rfl (by kernel_rfl)) rfl ?_
    refine WL.storeAll h4 0 rfl rfl rfl inf39 rfl rfl rfl (Free.zero _) ?_
    intro  w5 h5
    try simp only [lz, ls, ez, es'] at h5
    refine WL.v (Runs.assign rfl) rfl ?_
    refine WL.nil (WN.thn (WC.ret ?_))
    have hv : exitM id z r codes = (A0, 1) := by unfold exitM; rw [if_pos (.inl q0)]
    refine retB rfl (ResOk.blk h5 0 rfl Try.underlying39 rfl inf39 rfl rfl) (show lk _ _ = _ from rfl) ⟨_, none, 0, hleF, by rw [hv] <;> rfl, by rw [hv]; exact .inl rfl, (((h5.drop 0).drop 0).drop 0)⟩
  · skip
    refine WC.reg ?_
    refine WL.v (Runs.move rfl) rfl ?_
    refine WL.call can26 rfl rfl (nin_c _ id 0 15 h3) ?_
    rintro _ w6 ⟨rfl, h6⟩
    refine ⟨_, rfl, ?_⟩
    refine WL.v (Runs.boolT (c := false) (Runs.not rfl) (by unfold inB; rw [decide_eq_true q0]; rfl)) rfl ?_
    refine WL.v (Runs.move rfl) rfl ?_
    refine WL.gon rfl rfl rfl ?_
    refine WL.v (Runs.move rfl) rfl ?_
    refine WL.gon rfl rfl rfl ?_
    refine WL.v (Runs.llen Try.underlying29 rfl rfl) rfl ?_
    refine WL.gon rfl rfl rfl ?_
    refine WL.v (Runs.boolT (c := true) (Runs.eql rfl rfl) (by rw [decide_eq_true_eq]; omega)) rfl ?_
    refine WL.v (Runs.pick rfl rfl rfl) rfl ?_
    refine WL.v (Runs.move rfl) rfl ?_
    refine WL.goff rfl rfl rfl rfl ?_
    refine WL.goff rfl rfl rfl rfl ?_
    refine WL.goff rfl rfl rfl rfl ?_
    refine WL.v (Runs.pick rfl rfl rfl) rfl ?_
    refine WL.nil (WN.thn ?_)
    refine WC.condT rfl (rfl) ?_
    refine WC.seq (WC.reg ?_)
    refine WL.v (Runs.build (vs := []) (cells := #[.bool false, Vi 0, Vi 0, Vi 0, Vi 0, Vi 0, .slice none 0 0, .bool false, Vi 0, Vi 0, Vi 0, Vi 0, Vi 0, Vi 0, Vi 0, .string ⟨#[]⟩, .bool false, .bool false, .bool false]) rfl (by kernel_rfl)) rfl ?_
    refine WL.storeAll h6 0 rfl rfl rfl inf39 rfl rfl rfl (Free.zero _) ?_
    intro  w7 h7
    try simp only [lz, ls, ez, es'] at h7
    refine WL.v (Runs.assign rfl) rfl ?_
    refine WL.nil (WN.thn (WC.ret ?_))
    have hv : exitM id z r codes = (A0, 1) := by unfold exitM; rw [if_pos (.inr (.inl (Classical.not_not.1 q1)))]
    refine retB rfl (ResOk.blk h7 0 rfl Try.underlying39 rfl inf39 rfl rfl) (show lk _ _ = _ from rfl) ⟨_, none, 0, hleF, by rw [hv] <;> rfl, by rw [hv]; exact .inl rfl, (((h7.drop 0).drop 0).drop 0)⟩
  · skip
    refine WC.reg ?_
    refine WL.v (Runs.move rfl) rfl ?_
    refine WL.call can26 rfl rfl (nin_c _ id 0 15 h3) ?_
    rintro _ w8 ⟨rfl, h8⟩
    refine ⟨_, rfl, ?_⟩
    refine WL.v (Runs.boolT (c := false) (Runs.not rfl) (by unfold inB; rw [decide_eq_true q0]; rfl)) rfl ?_
    refine WL.v (Runs.move rfl) rfl ?_
    refine WL.gon rfl rfl rfl ?_
    refine WL.v (Runs.move rfl) rfl ?_
    refine WL.gon rfl rfl rfl ?_
    refine WL.v (Runs.llen Try.underlying29 rfl rfl) rfl ?_
    refine WL.gon rfl rfl rfl ?_
    refine WL.v (Runs.boolT (c := false) (Runs.eql rfl rfl) (by rw [decide_eq_false_iff_not]; omega)) rfl ?_
    refine WL.v (Runs.pick rfl rfl rfl) rfl ?_
    refine WL.v (Runs.move rfl) rfl ?_
    refine WL.gon rfl rfl rfl ?_
    refine WL.v (Runs.move rfl) rfl ?_
    refine WL.gon rfl rfl rfl ?_
    refine WL.v (Runs.move rfl) rfl ?_
    refine WL.gon rfl rfl rfl ?_
    refine WL.call can43 rfl rfl (cfI_c _ 42 [] (fun c => !inB c 0 255) can42 h8 hcd hcn (fun w9 x9 _ h9 => exit1_c w9 x9 h9)) ?_
    rintro _ w9 ⟨rfl, h9⟩
    refine ⟨_, rfl, ?_⟩
    refine WL.v (Runs.pick rfl rfl rfl) rfl ?_
    refine WL.nil (WN.thn ?_)
    refine WC.cond rfl (fun c10 => ?_) (fun c10 => ?_)
    · try simp only [dt, df, nt, nf, ba, il, ie] at c10
      first
      | (exfalso; omega)
      | skip
        refine WC.seq (WC.reg ?_)
        refine WL.v (Runs.build (vs := []) (cells := #[.bool false, Vi 0, Vi 0, Vi 0, Vi 0, Vi 0, .slice none 0 0, .bool false, Vi 0, Vi 0, Vi 0, Vi 0, Vi 0, Vi 0, Vi 0, .string ⟨#[]⟩, .bool false, .bool false, .bool false]) rfl (by kernel_rfl)) rfl ?_
        refine WL.storeAll h9 0 rfl rfl rfl inf39 rfl rfl rfl (Free.zero _) ?_
        intro  w11 h11
        try simp only [lz, ls, ez, es'] at h11
        refine WL.v (Runs.assign rfl) rfl ?_
        refine WL.nil (WN.thn (WC.ret ?_))
        have hv : exitM id z r codes = (A0, 1) := by unfold exitM; rw [if_pos (.inr (.inr c10))]
        refine retB rfl (ResOk.blk h11 0 rfl Try.underlying39 rfl inf39 rfl rfl) (show lk _ _ = _ from rfl) ⟨_, none, 0, hleF, by rw [hv] <;> rfl, by rw [hv]; exact .inl rfl, (((h11.drop 0).drop 0).drop 0)⟩
    · try simp only [dt, df, nt, nf, ba, il, ie] at c10
      first
      | (exfalso; omega)
      | skip
        refine WC.skip (WN.thn (WC.seq (WC.reg ?_)))
        refine WL.v (Runs.move rfl) rfl ?_
        refine WL.v (Runs.loadAll h9 2 rfl Try.underlying45 rfl inf45 rfl rfl) rfl ?_
        refine WL.v (Runs.fld fld37_1 rfl) rfl ?_
        refine WL.v (Runs.load1 Try.underlying3 rfl rfl (h9.ocell (i := 1) rfl rfl)) rfl ?_
        refine WL.v (Runs.fld fld37_2 rfl) rfl ?_
        refine WL.v (Runs.load1 Try.underlying3 rfl rfl (h9.ocell (i := 1) rfl rfl)) rfl ?_
        refine WL.v (Runs.fld fld37_3 rfl) rfl ?_
        refine WL.v (Runs.load1 Try.underlying3 rfl rfl (h9.ocell (i := 1) rfl rfl)) rfl ?_
        refine WL.v (Runs.build (vs := [(3, Vi r.jb), (4, Vi r.ep), (5, Vi r.st)]) (cells := #[Vi 0, Vi 0, Vi 0, Vi r.jb, Vi r.ep, Vi r.st, Vi 0, .string ⟨#[]⟩]) rfl (by kernel_rfl)) rfl ?_
        refine WL.call can27 rfl rfl (of_c (m := mA r) _ id hz hR h9) ?_
        rintro _ w12 ⟨G36, bx, hG36, rfl, hX, h12⟩
        refine ⟨_, rfl, ?_⟩
        replace hleF := Le.trans hleF hG36
        replace hR := hR.mono hG36
        replace hcd := hcd.mono hG36
        refine WL.v (Runs.assign rfl) rfl ?_
        refine WL.nil (WN.thn (WC.seq (WC.seq (WC.reg ?_))))
        refine WL.v (Runs.move rfl) rfl ?_
        refine WL.call can32 rfl rfl (phase_c _ hX 1 h12) ?_
        rintro _ w13 ⟨rfl, h13⟩
        refine ⟨_, rfl, ?_⟩
        refine WL.v (Runs.not rfl) rfl ?_
        refine WL.nil (WN.thn ?_)
        refine WC.cond rfl (fun c14 => ?_) (fun c14 => ?_)
        · try simp only [dt, df, nt, nf, ba, il, ie] at c14
          first
          | (exfalso; omega)
          | skip
            refine WC.seq (WC.reg ?_)
            refine WL.v (Runs.build (vs := []) (cells := #[.bool false, Vi 0, Vi 0, Vi 0, Vi 0, Vi 0, .slice none 0 0, .bool false, Vi 0, Vi 0, Vi 0, Vi 0, Vi 0, Vi 0, Vi 0, .string ⟨#[]⟩, .bool false, .bool false, .bool false]) rfl (by kernel_rfl)) rfl ?_
            refine WL.storeAll h13 0 rfl rfl rfl inf39 rfl rfl rfl (Free.zero _) ?_
            intro  w15 h15
            try simp only [lz, ls, ez, es'] at h15
            refine WL.v (Runs.assign rfl) rfl ?_
            refine WL.nil (WN.thn (WC.ret ?_))
            have hv : exitM id z r codes = (A0, 14) := by unfold exitM; rw [if_neg (by rintro (hh | hh | hh); exact hh q0; exact q1 hh; rw [c10] at hh; cases hh), if_pos (by simpa using c14)]
            refine retB rfl (ResOk.blk h15 0 rfl Try.underlying39 rfl inf39 rfl rfl) (show lk _ _ = _ from rfl) ⟨_, none, 0, hleF, by rw [hv] <;> rfl, by rw [hv]; exact .inl rfl, (((h15.drop 0).drop 0).drop 0)⟩
        · try simp only [dt, df, nt, nf, ba, il, ie] at c14
          first
          | (exfalso; omega)
          | skip
            refine WC.skip (WN.thn (WC.seq (WC.reg ?_)))
            refine WL.v (Runs.move rfl) rfl ?_
            refine WL.call can44 rfl rfl (worst_c _ codes h13 hcd hcn) ?_
            rintro _ w16 ⟨rfl, h16⟩
            refine ⟨_, rfl, ?_⟩
            refine WL.v (Runs.assign rfl) rfl ?_
            refine WL.nil (WN.thn (WC.seq (WC.reg ?_)))
            refine WL.v (Runs.move rfl) rfl ?_
            refine WL.v (Runs.move rfl) rfl ?_
            refine WL.v (Runs.move rfl) rfl ?_
            refine WL.call can46 rfl rfl (write_c _ hX 5 (worst codes) h16) ?_
            rintro _ w17 ⟨rfl, h17⟩
            refine ⟨_, rfl, ?_⟩
            refine WL.v (Runs.move rfl) rfl ?_
            refine WL.call can45 rfl rfl ((show Calls _ _ #[_, .agg (acv none 0 (wrM (mA r) 5 (worst codes))), _, _] _ _ from answer_c _ hX (a := wrM (mA r) 5 (worst codes)) 6 (worst codes) h17)) ?_
            rintro _ w18 ⟨rfl, h18⟩
            refine ⟨_, rfl, ?_⟩
            refine WL.storeAll h18 0 rfl rfl rfl inf39 rfl rfl rfl (Free.zero _) ?_
            intro  w19 h19
            try simp only [lz, ls, ez, es'] at h19
            refine WL.v (Runs.assign rfl) rfl ?_
            refine WL.nil (WN.thn (WC.ret ?_))
            have hv : exitM id z r codes = (anM id (mA r) (wrM (mA r) 5 (worst codes)) 6 (worst codes), 0) := by unfold exitM; rw [if_neg (by rintro (hh | hh | hh); exact hh q0; exact q1 hh; rw [c10] at hh; cases hh), if_neg (by simpa using c14)]
            refine retB rfl (ResOk.blk h19 0 rfl Try.underlying39 rfl inf39 rfl rfl) (show lk _ _ = _ from rfl) ⟨_, none, 0, hleF, by rw [hv] <;> rfl, by rw [hv]; exact .inl rfl, (((h19.drop 0).drop 0).drop 0)⟩
set_option maxRecDepth 100000 in
set_option maxHeartbeats 8000000 in
theorem asks_c {W : World} {F : Snap} {cs : List Res} (w : World) {AJ AS : Option Addr} {cj cS : Nat} {z : Z} {m : M} (hz : few z) (hR : ZR F AJ AS z) (h : St W F cs w) : Calls Try.prog 17 #[.agg #[.slice AJ z.js.length cj, .slice AS z.ss.length cS, .bool z.dr], .agg #[Vi m.kd, Vi m.fr, Vi m.to, Vi m.jb, Vi m.ep, Vi m.st, Vi m.ar, .string m.tx]] w fun e w' => ∃ G, Le F G ∧ e = .returned (.bool (asksM z m)) ∧ St W G cs w'  := by
  refine enter (P := Try.prog) (args := [.agg #[.slice AJ z.js.length cj, .slice AS z.ss.length cS, .bool z.dr], .agg #[Vi m.kd, Vi m.fr, Vi m.to, Vi m.jb, Vi m.ep, Vi m.st, Vi m.ar, .string m.tx]]) Try.func17 rfl rfl rfl ?_
  have hleF := Le.refl F
  refine WC.seq (WC.reg ?_)
  refine WL.box rfl h rfl ?_
  intro b2 w1 h1
  refine WL.box rfl h1 rfl ?_
  intro b3 w2 h2
  refine WL.v (Runs.assign rfl) rfl ?_
  refine WL.nil (WN.thn (WC.seq (WC.reg ?_)))
  refine WL.v (Runs.fld fld27_2 rfl) rfl ?_
  refine WL.v (Runs.load1 Try.underlying3 rfl rfl (h2.ocell (i := 0) rfl rfl)) rfl ?_
  refine WL.v (Runs.loadAll h2 1 rfl Try.underlying45 rfl inf45 rfl rfl) rfl ?_
  refine WL.v (Runs.loadAll h2 0 rfl Try.underlying27 rfl inf27 rfl rfl) rfl ?_
  refine WL.call can27 rfl rfl (of_c _ m.to hz hR h2) ?_
  rintro _ w3 ⟨G10, bx, hG10, rfl, hX, h3⟩
  refine ⟨_, rfl, ?_⟩
  replace hleF := Le.trans hleF hG10
  replace hR := hR.mono hG10
  have hX0 := hX
  obtain ⟨AJ1, AS1, cj1, cS1, A1, c1, hfzx, hZ, hps⟩ := hX
  refine WL.v (Runs.assign rfl) rfl ?_
  refine WL.nil (WN.thn (WC.seq ?_))
  rcases four (m.kd = 2) (m.fr = -1) (0 ≤ m.to ∧ m.to ≤ 15) (hasS z m = false) with q0 | ⟨q0, q1⟩ | ⟨q0, q1, q2⟩ | ⟨q0, q1, q2, q3⟩ | ⟨q0, q1, q2, q3⟩
  · skip
    refine WC.reg ?_
    refine WL.v (Runs.fld fld27_0 rfl) rfl ?_
    refine WL.v (Runs.load1 Try.underlying3 rfl rfl (h3.ocell (i := 0) rfl rfl)) rfl ?_
    refine WL.v (Runs.boolT (c := false) (Runs.eql rfl rfl) (decide_eq_false q0)) rfl ?_
    refine WL.v (Runs.move rfl) rfl ?_
    refine WL.goff rfl rfl rfl rfl ?_
    refine WL.goff rfl rfl rfl rfl ?_
    refine WL.goff rfl rfl rfl rfl ?_
    refine WL.v (Runs.pick rfl rfl rfl) rfl ?_
    refine WL.v (Runs.move rfl) rfl ?_
    refine WL.goff rfl rfl rfl rfl ?_
    refine WL.goff rfl rfl rfl rfl ?_
    refine WL.goff rfl rfl rfl rfl ?_
    refine WL.v (Runs.pick rfl rfl rfl) rfl ?_
    refine WL.v (Runs.move rfl) rfl ?_
    refine WL.goff rfl rfl rfl rfl ?_
    refine WL.goff rfl rfl rfl rfl ?_
    refine WL.goff rfl rfl rfl rfl ?_
    refine WL.goff rfl rfl rfl rfl ?_
    refine WL.goff rfl rfl rfl rfl ?_
    refine WL.v (Runs.pick rfl rfl rfl) rfl ?_
    refine WL.v (Runs.move rfl) rfl ?_
    refine WL.goff rfl rfl rfl rfl ?_
    refine WL.goff rfl rfl rfl rfl ?_
    refine WL.v (Runs.pick rfl rfl rfl) rfl ?_
    refine WL.v (Runs.assign rfl) rfl ?_
    refine WL.nil (WN.thn (WC.ret ?_))
    refine ret1 rfl rfl ⟨G10, hleF, ?_, ((h3.drop 0).drop 0)⟩
    unfold asksM
    rw [decide_eq_false q0] <;> rfl
  · skip
    refine WC.reg ?_
    refine WL.v (Runs.fld fld27_0 rfl) rfl ?_
    refine WL.v (Runs.load1 Try.underlying3 rfl rfl (h3.ocell (i := 0) rfl rfl)) rfl ?_
    refine WL.v (Runs.boolT (c := true) (Runs.eql rfl rfl) (decide_eq_true q0)) rfl ?_
    refine WL.v (Runs.move rfl) rfl ?_
    refine WL.gon rfl rfl rfl ?_
    refine WL.v (Runs.fld fld27_1 rfl) rfl ?_
    refine WL.gon rfl rfl rfl ?_
    refine WL.v (Runs.load1 Try.underlying3 rfl rfl (h3.ocell (i := 0) rfl rfl)) rfl ?_
    refine WL.gon rfl rfl rfl ?_
    refine WL.v (Runs.boolT (c := false) (Runs.eql rfl rfl) (decide_eq_false q1)) rfl ?_
    refine WL.v (Runs.pick rfl rfl rfl) rfl ?_
    refine WL.v (Runs.move rfl) rfl ?_
    refine WL.goff rfl rfl rfl rfl ?_
    refine WL.goff rfl rfl rfl rfl ?_
    refine WL.goff rfl rfl rfl rfl ?_
    refine WL.v (Runs.pick rfl rfl rfl) rfl ?_
    refine WL.v (Runs.move rfl) rfl ?_
    refine WL.goff rfl rfl rfl rfl ?_
    refine WL.goff rfl rfl rfl rfl ?_
    refine WL.goff rfl rfl rfl rfl ?_
    refine WL.goff rfl rfl rfl rfl ?_
    refine WL.goff rfl rfl rfl rfl ?_
    refine WL.v (Runs.pick rfl rfl rfl) rfl ?_
    refine WL.v (Runs.move rfl) rfl ?_
    refine WL.goff rfl rfl rfl rfl ?_
    refine WL.goff rfl rfl rfl rfl ?_
    refine WL.v (Runs.pick rfl rfl rfl) rfl ?_
    refine WL.v (Runs.assign rfl) rfl ?_
    refine WL.nil (WN.thn (WC.ret ?_))
    refine ret1 rfl rfl ⟨G10, hleF, ?_, ((h3.drop 0).drop 0)⟩
    unfold asksM
    rw [decide_eq_true q0, decide_eq_false q1] <;> rfl
  · skip
    refine WC.reg ?_
    refine WL.v (Runs.fld fld27_0 rfl) rfl ?_
    refine WL.v (Runs.load1 Try.underlying3 rfl rfl (h3.ocell (i := 0) rfl rfl)) rfl ?_
    refine WL.v (Runs.boolT (c := true) (Runs.eql rfl rfl) (decide_eq_true q0)) rfl ?_
    refine WL.v (Runs.move rfl) rfl ?_
    refine WL.gon rfl rfl rfl ?_
    refine WL.v (Runs.fld fld27_1 rfl) rfl ?_
    refine WL.gon rfl rfl rfl ?_
    refine WL.v (Runs.load1 Try.underlying3 rfl rfl (h3.ocell (i := 0) rfl rfl)) rfl ?_
    refine WL.gon rfl rfl rfl ?_
    refine WL.v (Runs.boolT (c := true) (Runs.eql rfl rfl) (decide_eq_true q1)) rfl ?_
    refine WL.v (Runs.pick rfl rfl rfl) rfl ?_
    refine WL.v (Runs.move rfl) rfl ?_
    refine WL.gon rfl rfl rfl ?_
    refine WL.v (Runs.fld fld27_2 rfl) rfl ?_
    refine WL.gon rfl rfl rfl ?_
    refine WL.v (Runs.load1 Try.underlying3 rfl rfl (h3.ocell (i := 0) rfl rfl)) rfl ?_
    refine WL.gon rfl rfl rfl ?_
    refine WL.call can26 rfl rfl (Rd1 (nin_c _ m.to 0 15 h3) (show inB m.to 0 15 = false from decide_eq_false q2)) ?_
    rintro _ w4 ⟨rfl, h4⟩
    refine ⟨_, rfl, ?_⟩
    refine WL.v (Runs.pick rfl rfl rfl) rfl ?_
    refine WL.v (Runs.move rfl) rfl ?_
    refine WL.goff rfl rfl rfl rfl ?_
    refine WL.goff rfl rfl rfl rfl ?_
    refine WL.goff rfl rfl rfl rfl ?_
    refine WL.goff rfl rfl rfl rfl ?_
    refine WL.goff rfl rfl rfl rfl ?_
    refine WL.v (Runs.pick rfl rfl rfl) rfl ?_
    refine WL.v (Runs.move rfl) rfl ?_
    refine WL.goff rfl rfl rfl rfl ?_
    refine WL.goff rfl rfl rfl rfl ?_
    refine WL.v (Runs.pick rfl rfl rfl) rfl ?_
    refine WL.v (Runs.assign rfl) rfl ?_
    refine WL.nil (WN.thn (WC.ret ?_))
    refine ret1 rfl rfl ⟨G10, hleF, ?_, ((h4.drop 0).drop 0)⟩
    unfold asksM
    rw [decide_eq_true q0, decide_eq_true q1, decide_eq_false q2] <;> rfl
  · replace q3 : hasS z m = true := by simpa using q3
    refine WC.reg ?_
    refine WL.v (Runs.fld fld27_0 rfl) rfl ?_
    refine WL.v (Runs.load1 Try.underlying3 rfl rfl (h3.ocell (i := 0) rfl rfl)) rfl ?_
    refine WL.v (Runs.boolT (c := true) (Runs.eql rfl rfl) (decide_eq_true q0)) rfl ?_
    refine WL.v (Runs.move rfl) rfl ?_
    refine WL.gon rfl rfl rfl ?_
    refine WL.v (Runs.fld fld27_1 rfl) rfl ?_
    refine WL.gon rfl rfl rfl ?_
    refine WL.v (Runs.load1 Try.underlying3 rfl rfl (h3.ocell (i := 0) rfl rfl)) rfl ?_
    refine WL.gon rfl rfl rfl ?_
    refine WL.v (Runs.boolT (c := true) (Runs.eql rfl rfl) (decide_eq_true q1)) rfl ?_
    refine WL.v (Runs.pick rfl rfl rfl) rfl ?_
    refine WL.v (Runs.move rfl) rfl ?_
    refine WL.gon rfl rfl rfl ?_
    refine WL.v (Runs.fld fld27_2 rfl) rfl ?_
    refine WL.gon rfl rfl rfl ?_
    refine WL.v (Runs.load1 Try.underlying3 rfl rfl (h3.ocell (i := 0) rfl rfl)) rfl ?_
    refine WL.gon rfl rfl rfl ?_
    refine WL.call can26 rfl rfl (Rd1 (nin_c _ m.to 0 15 h3) (show inB m.to 0 15 = true from decide_eq_true q2)) ?_
    rintro _ w5 ⟨rfl, h5⟩
    refine ⟨_, rfl, ?_⟩
    refine WL.v (Runs.pick rfl rfl rfl) rfl ?_
    refine WL.v (Runs.move rfl) rfl ?_
    refine WL.gon rfl rfl rfl ?_
    refine WL.v (Runs.move rfl) rfl ?_
    refine WL.gon rfl rfl rfl ?_
    refine WL.v (Runs.nilCheckP rfl) rfl ?_
    refine WL.gon rfl rfl rfl ?_
    refine WL.v (Runs.fld fld85_6 rfl) rfl ?_
    refine WL.gon rfl rfl rfl ?_
    refine WL.v (Runs.boolT (c := true) (Runs.load1 Try.underlying4 rfl rfl (h5.cell (cellB hfzx rfl))) q3) rfl ?_
    refine WL.gon rfl rfl rfl ?_
    refine WL.v (Runs.not rfl) rfl ?_
    refine WL.v (Runs.pick rfl rfl rfl) rfl ?_
    refine WL.v (Runs.move rfl) rfl ?_
    refine WL.goff rfl rfl rfl rfl ?_
    refine WL.goff rfl rfl rfl rfl ?_
    refine WL.v (Runs.pick rfl rfl rfl) rfl ?_
    refine WL.v (Runs.assign rfl) rfl ?_
    refine WL.nil (WN.thn (WC.ret ?_))
    refine ret1 rfl rfl ⟨G10, hleF, ?_, ((h5.drop 0).drop 0)⟩
    unfold asksM
    rw [decide_eq_true q0, decide_eq_true q1, decide_eq_true q2]
    rw [show hasS z m = true from q3] <;> rfl
  · skip
    refine WC.reg ?_
    refine WL.v (Runs.fld fld27_0 rfl) rfl ?_
    refine WL.v (Runs.load1 Try.underlying3 rfl rfl (h3.ocell (i := 0) rfl rfl)) rfl ?_
    refine WL.v (Runs.boolT (c := true) (Runs.eql rfl rfl) (decide_eq_true q0)) rfl ?_
    refine WL.v (Runs.move rfl) rfl ?_
    refine WL.gon rfl rfl rfl ?_
    refine WL.v (Runs.fld fld27_1 rfl) rfl ?_
    refine WL.gon rfl rfl rfl ?_
    refine WL.v (Runs.load1 Try.underlying3 rfl rfl (h3.ocell (i := 0) rfl rfl)) rfl ?_
    refine WL.gon rfl rfl rfl ?_
    refine WL.v (Runs.boolT (c := true) (Runs.eql rfl rfl) (decide_eq_true q1)) rfl ?_
    refine WL.v (Runs.pick rfl rfl rfl) rfl ?_
    refine WL.v (Runs.move rfl) rfl ?_
    refine WL.gon rfl rfl rfl ?_
    refine WL.v (Runs.fld fld27_2 rfl) rfl ?_
    refine WL.gon rfl rfl rfl ?_
    refine WL.v (Runs.load1 Try.underlying3 rfl rfl (h3.ocell (i := 0) rfl rfl)) rfl ?_
    refine WL.gon rfl rfl rfl ?_
    refine WL.call can26 rfl rfl (Rd1 (nin_c _ m.to 0 15 h3) (show inB m.to 0 15 = true from decide_eq_true q2)) ?_
    rintro _ w6 ⟨rfl, h6⟩
    refine ⟨_, rfl, ?_⟩
    refine WL.v (Runs.pick rfl rfl rfl) rfl ?_
    refine WL.v (Runs.move rfl) rfl ?_
    refine WL.gon rfl rfl rfl ?_
    refine WL.v (Runs.move rfl) rfl ?_
    refine WL.gon rfl rfl rfl ?_
    refine WL.v (Runs.nilCheckP rfl) rfl ?_
    refine WL.gon rfl rfl rfl ?_
    refine WL.v (Runs.fld fld85_6 rfl) rfl ?_
    refine WL.gon rfl rfl rfl ?_
    refine WL.v (Runs.boolT (c := false) (Runs.load1 Try.underlying4 rfl rfl (h6.cell (cellB hfzx rfl))) q3) rfl ?_
    refine WL.gon rfl rfl rfl ?_
    refine WL.v (Runs.not rfl) rfl ?_
    refine WL.v (Runs.pick rfl rfl rfl) rfl ?_
    refine WL.v (Runs.move rfl) rfl ?_
    refine WL.gon rfl rfl rfl ?_
    refine WL.v (Runs.move rfl) rfl ?_
    refine WL.gon rfl rfl rfl ?_
    refine WL.call can39 rfl rfl (up_c _ hX0 h6) ?_
    rintro _ w7 ⟨rfl, h7⟩
    refine ⟨_, rfl, ?_⟩
    refine WL.v (Runs.pick rfl rfl rfl) rfl ?_
    refine WL.v (Runs.assign rfl) rfl ?_
    refine WL.nil (WN.thn (WC.ret ?_))
    refine ret1 rfl rfl ⟨G10, hleF, ?_, ((h7.drop 0).drop 0)⟩
    unfold asksM
    rw [decide_eq_true q0, decide_eq_true q1, decide_eq_true q2]
    rw [show hasS z m = false from q3] <;> rfl
end Rc
end Go.Proofs.Ytanlminnobonnaa
