/- Walks of package dag: whether all is over. -/
import Derived.Test.YtkfkdenikkadhaaD14
namespace Go.Proofs.Ytkfkdenikkadhaa
open Go Go.RowKit B
set_option linter.unusedVariables false
set_option linter.unusedSimpArgs false
namespace Dg

theorem can18 : B.Can Try.prog 18 := ⟨_, Try.func18, by kernel_rfl, rfl⟩   -- roundhouse/dag.Settle
def mxS (m c : Int) : Int := if c ≠ 256 then (if m < c then c else m) else m
theorem mxS_y {m c : Int} (h : ¬ c = 256) : (if m < c then c else m) = mxS m c := (if_pos h).symm
theorem mxS_n {m c : Int} (h : c = 256) : m = mxS m c := (if_neg (fun h2 => h2 h)).symm
def overM (l : List S) (codes : List Int) : Int × Bool := if withM l codes ≠ 0 ∨ (-1 : Int) ∈ settleM l codes then (0, false) else ((settleM l codes).foldl mxS 0, true)
theorem settle_len (l : List S) (codes : List Int) (h : withM l codes = 0) : (settleM l codes).length = codes.length := by
  unfold settleM
  rw [if_pos h]
  unfold stlF
  generalize ordM l = xs
  induction xs generalizing codes with
  | nil => rfl
  | cons x xs ih =>
    rw [List.foldl_cons]
    have : ∀ (ys c : List Int), (ys.foldl (stlS l) c).length = c.length := by
      intro ys
      induction ys with
      | nil => intro c; rfl
      | cons y ys ih2 => intro c; rw [List.foldl_cons, ih2, stlS_len]
    rw [this, stlS_len]
theorem take_fold {xs : List Int} {k : Nat} {a : Int} (h : k < xs.length) : (xs.take (k + 1)).foldl mxS a = mxS ((xs.take k).foldl mxS a) (xs.getD k 0) := by
  have e : xs.take (k + 1) = xs.take k ++ [xs.getD k 0] := by rw [List.take_add_one, List.getElem?_eq_getElem h, List.getD_eq_getElem?_getD, List.getElem?_eq_getElem h]; rfl
  rw [e, List.foldl_append]; rfl
set_option maxRecDepth 100000 in
set_option maxHeartbeats 8000000 in
theorem over_c {W : World} {F : Snap} {cs : List Res} (w : World) {A : Option Addr} {cap : Nat} {l : List S} {A2 : Option Addr} {cap2 : Nat} {codes : List Int} (h : St W F cs w) (hR : RdS KS F A l) (hl : l.length ≤ 100000) (hf : fewE l) (hRc : RdS (Kd.one Vi) F A2 codes) (hc : codes.length ≤ 100000) : Calls Try.prog 20 #[.slice A l.length cap, .slice A2 codes.length cap2] w fun r w' => r = .returned (.tuple #[Vi (overM l codes).1, .bool (overM l codes).2]) ∧ St W F cs w'  := by
  refine enter (P := Try.prog) (args := [.slice A l.length cap, .slice A2 codes.length cap2]) Try.func20 rfl rfl rfl ?_
  refine WC.seq ?_
  refine WC.reg ?_
  refine WL.v (Runs.assign rfl) rfl ?_
  refine WL.v (Runs.assign rfl) rfl ?_
  refine WL.nil ?_
  refine WN.thn ?_
  refine WC.seq ?_
  refine WC.reg ?_
  refine WL.v (Runs.move rfl) rfl ?_
  refine WL.v (Runs.move rfl) rfl ?_
  refine WL.call can18 rfl rfl (settle_c _ h hR hl hf hRc hc) ?_
  rintro _ w1 ⟨G, A4, cap4, hG, rfl, hc4, hR4, h1⟩
  refine ⟨_, rfl, ?_⟩
  refine WL.v (Runs.move rfl) rfl ?_
  refine WL.v (Runs.extract rfl rfl) rfl ?_
  refine WL.v (Runs.extract rfl rfl) rfl ?_
  refine WL.v (Runs.assign rfl) rfl ?_
  refine WL.v (Runs.assign rfl) rfl ?_
  refine WL.nil ?_
  refine WN.thn ?_
  refine WC.seq ?_
  refine WC.seq ?_
  by_cases hx : withM l codes = 0
  · have hcl := settle_len _ _ hx
    refine WC.reg ?_
    refine WL.v (Runs.move rfl) rfl ?_
    refine WL.v (Runs.boolT (c := false) (Runs.neq rfl rfl) (by rw [decide_eq_true hx]; rfl)) rfl ?_
    refine WL.v (Runs.move rfl) rfl ?_
    refine WL.gon rfl rfl rfl ?_
    refine WL.v (Runs.move rfl) rfl ?_
    refine WL.gon rfl rfl rfl ?_
    refine WL.call can36 rfl rfl (contains_c _ (-1) h1 (RdW.of hR4) (by rw [settle_len _ _ hx]; exact hc)) ?_
    rintro _ w2 ⟨rfl, h2⟩
    refine ⟨_, rfl, ?_⟩
    refine WL.v (Runs.pick rfl rfl rfl) rfl ?_
    refine WL.nil ?_
    refine WN.thn ?_
    refine WC.cond rfl (fun c3 => ?_) (fun c3 => ?_)
    · try simp only [decide_eq_true_eq, decide_eq_false_iff_not, Bool.not_eq_true', Bool.not_eq_false', Bool.and_eq_true, Int.not_lt, Int.not_le] at c3
      first
      | (exfalso; omega)
      | skip
        refine WC.seq ?_
        refine WC.reg ?_
        refine WL.v (Runs.assign rfl) rfl ?_
        refine WL.v (Runs.assign rfl) rfl ?_
        refine WL.nil ?_
        refine WN.thn ?_
        refine WC.ret ?_
        refine ret2 rfl rfl rfl ⟨?_, h2.weak hG⟩
        unfold overM
        rw [if_pos (.inr c3)]
    · try simp only [decide_eq_true_eq, decide_eq_false_iff_not, Bool.not_eq_true', Bool.not_eq_false', Bool.and_eq_true, Int.not_lt, Int.not_le] at c3
      first
      | (exfalso; omega)
      | skip
        refine WC.skip ?_
        refine WN.thn ?_
        refine WC.seq ?_
        refine WC.reg ?_
        refine WL.v (Runs.assign rfl) rfl ?_
        refine WL.nil ?_
        refine WN.thn ?_
        refine WC.seq ?_
        refine WC.seq ?_
        refine WC.reg ?_
        refine WL.v (Runs.move rfl) rfl ?_
        refine WL.v (Runs.intT (n := ((settleM l codes).length : Int)) (Runs.llen Try.underlying28 rfl rfl) rfl) rfl ?_
        refine WL.v (Runs.move rfl) rfl ?_
        refine WL.nil ?_
        refine WN.thn ?_
        refine WC.block ?_
        refine WC.loop (σ := Nat) (fun q_ => [(7, Vi (((settleM l codes).take q_).foldl mxS 0)), (22, .slice A4 (settleM l codes).length cap4), (23, .int .i64 ((settleM l codes).length : Int)), (24, .int .i64 (q_ : Int))]) (fun q_ w => q_ ≤ (settleM l codes).length ∧ St W G cs w) (fun q_ => (settleM l codes).length - q_) (0) (by repeat (first | exact trivial | refine ⟨rfl, ?_⟩)) (⟨Nat.zero_le _, h2⟩) ?_
        rintro k w4 ⟨hk, hL⟩
        try dsimp only at hk hL
        refine WC.sub (s := [(7, Vi (((settleM l codes).take k).foldl mxS 0)), (22, .slice A4 (settleM l codes).length cap4), (23, .int .i64 ((settleM l codes).length : Int)), (24, .int .i64 (k : Int))]) (by repeat (first | exact trivial | refine ⟨rfl, ?_⟩)) ?_
        refine WC.seq ?_
        refine WC.reg ?_
        refine WL.v (Runs.lss rfl rfl) rfl ?_
        refine WL.nil ?_
        refine WN.thn ?_
        refine WC.seq ?_
        refine WC.cond rfl (fun c5 => ?_) (fun c5 => ?_)
        · try simp only [decide_eq_true_eq, decide_eq_false_iff_not, Bool.not_eq_true', Bool.not_eq_false', Bool.and_eq_true, Int.not_lt, Int.not_le] at c5
          first
          | (exfalso; omega)
          | skip
            refine WC.skip ?_
            refine WN.thn ?_
            refine WC.seq ?_
            refine WC.block ?_
            refine WC.seq ?_
            obtain ⟨a4, rfl, hrd⟩ := rd1 hR4 (by omega)
            have hk2 : k < (settleM l codes).length := by omega
            refine WC.reg ?_
            refine WL.v (Runs.lidxN Try.underlying28 inf3 rfl rfl (n := k) rfl (by omega)) rfl ?_
            refine WL.v (Runs.loadR (f := Vi) (0 : Int) hL hrd (n := k) (by omega) Try.underlying3 rfl rfl) rfl ?_
            refine WL.v (Runs.assign rfl) rfl ?_
            refine WL.nil ?_
            refine WN.thn ?_
            refine WC.seq ?_
            refine WC.reg ?_
            refine WL.v (Runs.move rfl) rfl ?_
            refine WL.v (Runs.neq rfl rfl) rfl ?_
            refine WL.nil ?_
            refine WN.thn ?_
            refine WC.cond rfl (fun c6 => ?_) (fun c6 => ?_)
            · try simp only [decide_eq_true_eq, decide_eq_false_iff_not, Bool.not_eq_true', Bool.not_eq_false', Bool.and_eq_true, Int.not_lt, Int.not_le] at c6
              first
              | (exfalso; omega)
              | skip
                refine WC.reg ?_
                refine WL.v (Runs.move rfl) rfl ?_
                refine WL.v (Runs.move rfl) rfl ?_
                refine WL.v (Runs.max rfl rfl) rfl ?_
                refine WL.v (Runs.assign rfl) rfl ?_
                refine WL.nil ?_
                refine WN.blk ?_
                refine WN.thn ?_
                refine WC.reg ?_
                refine WL.v (Runs.addn rfl rfl (by omega)) rfl ?_
                refine WL.v (Runs.move rfl) rfl ?_
                refine WL.nil ?_
                exact WN.again (k + 1) (by omega) ⟨(by show some (Value.int .i64 _) = some (Value.int .i64 _); rw [take_fold hk2, ← mxS_y (by simpa using c6)]), rfl, rfl, rfl, trivial⟩ ⟨by omega, hL⟩
            · try simp only [decide_eq_true_eq, decide_eq_false_iff_not, Bool.not_eq_true', Bool.not_eq_false', Bool.and_eq_true, Int.not_lt, Int.not_le] at c6
              first
              | (exfalso; omega)
              | skip
                refine WC.skip ?_
                refine WN.blk ?_
                refine WN.thn ?_
                refine WC.reg ?_
                refine WL.v (Runs.addn rfl rfl (by omega)) rfl ?_
                refine WL.v (Runs.move rfl) rfl ?_
                refine WL.nil ?_
                exact WN.again (k + 1) (by omega) ⟨(by show some (Value.int .i64 _) = some (Value.int .i64 _); rw [take_fold hk2, ← mxS_n (by simpa using c6)]), rfl, rfl, rfl, trivial⟩ ⟨by omega, hL⟩
        · try simp only [decide_eq_true_eq, decide_eq_false_iff_not, Bool.not_eq_true', Bool.not_eq_false', Bool.and_eq_true, Int.not_lt, Int.not_le] at c5
          first
          | (exfalso; omega)
          | skip
            refine WC.exit ?_
            refine WX.thn ?_
            refine WX.cut ?_
            refine WX.hit ?_
            refine WN.thn ?_
            refine WC.seq ?_
            refine WC.reg ?_
            refine WL.v (Runs.move rfl) rfl ?_
            refine WL.v (Runs.assign rfl) rfl ?_
            refine WL.v (Runs.assign rfl) rfl ?_
            refine WL.nil ?_
            refine WN.thn ?_
            refine WC.ret ?_
            have hkk : k = (settleM l codes).length := by omega
            refine ret2 rfl rfl rfl ⟨?_, hL.weak hG⟩
            unfold overM
            rw [if_neg (by rintro (h1 | h1); exact h1 hx; exact c3 h1), hkk, List.take_of_length_le (Nat.le_refl _)]
  · skip
    refine WC.reg ?_
    refine WL.v (Runs.move rfl) rfl ?_
    refine WL.v (Runs.boolT (c := true) (Runs.neq rfl rfl) (by rw [decide_eq_false hx]; rfl)) rfl ?_
    refine WL.v (Runs.move rfl) rfl ?_
    refine WL.goff rfl rfl rfl rfl ?_
    refine WL.goff rfl rfl rfl rfl ?_
    refine WL.v (Runs.pick rfl rfl rfl) rfl ?_
    refine WL.nil ?_
    refine WN.thn ?_
    refine WC.condT rfl (rfl) ?_
    refine WC.seq ?_
    refine WC.reg ?_
    refine WL.v (Runs.assign rfl) rfl ?_
    refine WL.v (Runs.assign rfl) rfl ?_
    refine WL.nil ?_
    refine WN.thn ?_
    refine WC.ret ?_
    refine ret2 rfl rfl rfl ⟨?_, h1.weak hG⟩
    unfold overM
    rw [if_pos (.inl hx)]
end Dg
end Go.Proofs.Ytkfkdenikkadhaa
