/- Walks of package dag: the reference: who is skipped. -/
import Derived.Test.YtkfkdenikkadhaaD16
namespace Go.Proofs.Ytkfkdenikkadhaa
open Go Go.RowKit B
set_option linter.unusedVariables false
set_option linter.unusedSimpArgs false
namespace Dg

theorem can35 : B.Can Try.prog 35 := ⟨_, Try.func35, by kernel_rfl, rfl⟩   -- roundhouse/roundhouseref13.doomed
def rnd (l : List S) (c : List Int) : Nat → List Int
  | 0 => c
  | i + 1 => stlS l (rnd l c i) (i : Int)
def rndN (l : List S) (c : List Int) : Nat → List Int
  | 0 => c
  | n + 1 => rnd l (rndN l c n) l.length
def qsettleM (l : List S) (codes : List Int) : List Int := if withM l codes = 0 then rndN l codes l.length else []
theorem rnd_len (l : List S) (c : List Int) : ∀ n, (rnd l c n).length = c.length
  | 0 => rfl
  | n + 1 => by rw [rnd, stlS_len, rnd_len l c n]
theorem rndN_len (l : List S) (c : List Int) : ∀ n, (rndN l c n).length = c.length
  | 0 => rfl
  | n + 1 => by rw [rndN, rnd_len, rndN_len l c n]
set_option maxRecDepth 100000 in
set_option maxHeartbeats 8000000 in
theorem qsettle_c {W : World} {F : Snap} {cs : List Res} (w : World) {A : Option Addr} {cap : Nat} {l : List S} {A2 : Option Addr} {cap2 : Nat} {codes : List Int} (h : St W F cs w) (hR : RdS KS F A l) (hl : l.length ≤ 100000) (hf : fewE l) (hRc : RdS (Kd.one Vi) F A2 codes) (hc : codes.length ≤ 100000) : Calls Try.prog 19 #[.slice A l.length cap, .slice A2 codes.length cap2] w fun r w' => Gives2 W F cs (qsettleM l codes) (withM l codes) r w'  := by
  refine enter (P := Try.prog) (args := [.slice A l.length cap, .slice A2 codes.length cap2]) Try.func19 rfl rfl rfl ?_
  refine WC.seq ?_
  refine WC.reg ?_
  refine WL.v (Runs.assign rfl) rfl ?_
  refine WL.v (Runs.assign rfl) rfl ?_
  refine WL.nil ?_
  refine WN.thn ?_
  refine WC.seq ?_
  refine WC.reg ?_
  refine WL.v (Runs.move rfl) rfl ?_
  refine WL.v (Runs.move rfl) rfl ?_
  refine WL.call can30 rfl rfl (qwith_c _ h hR hl hf hRc hc) ?_
  rintro _ w1 ⟨rfl, h1⟩
  refine ⟨_, rfl, ?_⟩
  refine WL.v (Runs.assign rfl) rfl ?_
  refine WL.nil ?_
  refine WN.thn ?_
  refine WC.seq ?_
  refine WC.seq ?_
  refine WC.reg ?_
  refine WL.v (Runs.move rfl) rfl ?_
  refine WL.v (Runs.neq rfl rfl) rfl ?_
  refine WL.nil ?_
  refine WN.thn ?_
  refine WC.cond rfl (fun c2 => ?_) (fun c2 => ?_)
  · try simp only [decide_eq_true_eq, decide_eq_false_iff_not, Bool.not_eq_true', Bool.not_eq_false', Bool.and_eq_true, Int.not_lt, Int.not_le] at c2
    first
    | (exfalso; omega)
    | skip
      refine WC.seq ?_
      refine WC.reg ?_
      refine WL.v (Runs.move rfl) rfl ?_
      refine WL.v (Runs.assign rfl) rfl ?_
      refine WL.v (Runs.assign rfl) rfl ?_
      refine WL.nil ?_
      refine WN.thn ?_
      refine WC.ret ?_
      exact ret2 rfl rfl rfl (by unfold qsettleM; rw [if_neg (by simpa using c2)]; exact Row.gives2 _ (Row.nil 3 Vi) h1.nilRes)
  · try simp only [decide_eq_true_eq, decide_eq_false_iff_not, Bool.not_eq_true', Bool.not_eq_false', Bool.and_eq_true, Int.not_lt, Int.not_le] at c2
    first
    | (exfalso; omega)
    | skip
      refine WC.skip ?_
      refine WN.thn ?_
      refine WC.seq ?_
      have hw0 : withM l codes = 0 := by simpa using c2
      have hw := with_ok hw0
      have hall := (chk_ok hw.1).1
      refine WC.reg ?_
      refine WL.v (Runs.assign rfl) rfl ?_
      refine WL.nil ?_
      refine WN.thn ?_
      refine WC.seq ?_
      have hN0 := h1.nilRes
      refine WC.reg ?_
      refine WL.v (Runs.move rfl) rfl ?_
      refine WL.v (Runs.move rfl) rfl ?_
      refine WL.app (ys := codes) 0 hN0 rfl rfl rfl rfl Try.underlying28 Try.underlying28 (.inr ⟨_, rfl⟩) inf3 rfl (Row.nil 3 Vi) (Src.rd hRc hN0 rfl (fun _ => rfl)) rfl rfl (by first | omega | (simp []; done) | (simp []; omega)) (by first | omega | (simp []; done) | (simp []; omega)) ?_
      intro r3 v3 w4 hr3 h4
      simp only [List.set_cons_zero, List.set_cons_succ] at h4
      refine WL.v (Runs.assign rfl) rfl ?_
      refine WL.nil ?_
      refine WN.thn ?_
      refine WC.seq ?_
      refine WC.seq ?_
      refine WC.reg ?_
      refine WL.v (Runs.assign rfl) rfl ?_
      refine WL.nil ?_
      refine WN.thn ?_
      refine WC.block ?_
      refine WC.loop (σ := Nat × List Int × Res × Value) (fun q_ => [(0, .slice A l.length cap), (7, q_.2.2.2), (8, .int .i64 (q_.1 : Int))]) (fun q_ w => q_.1 ≤ l.length ∧ q_.2.1 = rndN l codes q_.1 ∧ q_.2.1.length = l.length ∧ Row 3 Vi q_.2.2.1 q_.2.2.2 q_.2.1 ∧ St W F (q_.2.2.1 :: cs) w) (fun q_ => l.length - q_.1) (⟨0, codes, r3, v3⟩) (by repeat (first | exact trivial | refine ⟨rfl, ?_⟩)) (⟨Nat.zero_le _, rfl, hw.2.1, hr3, h4⟩) ?_
      rintro ⟨m, c, r, v⟩ w5 ⟨hm, hcM, hcl, hro, hL⟩
      try dsimp only at hm hcM hcl hro hL
      refine WC.sub (s := [(0, .slice A l.length cap), (7, v), (8, .int .i64 (m : Int))]) (by repeat (first | exact trivial | refine ⟨rfl, ?_⟩)) ?_
      refine WC.seq ?_
      refine WC.seq ?_
      refine WC.reg ?_
      refine WL.v (Runs.move rfl) rfl ?_
      refine WL.v (Runs.move rfl) rfl ?_
      refine WL.v (Runs.intT (n := (l.length : Int)) (Runs.llen Try.underlying22 rfl rfl) rfl) rfl ?_
      refine WL.v (Runs.lss rfl rfl) rfl ?_
      refine WL.nil ?_
      refine WN.thn ?_
      refine WC.cond rfl (fun c6 => ?_) (fun c6 => ?_)
      · try simp only [decide_eq_true_eq, decide_eq_false_iff_not, Bool.not_eq_true', Bool.not_eq_false', Bool.and_eq_true, Int.not_lt, Int.not_le] at c6
        first
        | (exfalso; omega)
        | skip
          refine WC.skip ?_
          refine WN.thn ?_
          refine WC.seq ?_
          refine WC.block ?_
          refine WC.seq ?_
          refine WC.reg ?_
          refine WL.v (Runs.assign rfl) rfl ?_
          refine WL.nil ?_
          refine WN.thn ?_
          refine WC.block ?_
          refine WC.loop (σ := Nat × List Int × Res × Value) (fun q_ => [(0, .slice A l.length cap), (7, q_.2.2.2), (8, .int .i64 (m : Int)), (9, .int .i64 (q_.1 : Int))]) (fun q_ w => q_.1 ≤ l.length ∧ q_.2.1 = rnd l c q_.1 ∧ q_.2.1.length = l.length ∧ Row 3 Vi q_.2.2.1 q_.2.2.2 q_.2.1 ∧ St W F (q_.2.2.1 :: cs) w) (fun q_ => l.length - q_.1) (⟨0, c, r, v⟩) (by repeat (first | exact trivial | refine ⟨rfl, ?_⟩)) (⟨Nat.zero_le _, rfl, hcl, hro, hL⟩) ?_
          rintro ⟨i, c2, r2, v2⟩ w7 ⟨hi, h2M, h2l, hro2, hL⟩
          try dsimp only at hi h2M h2l hro2 hL
          refine WC.sub (s := [(0, .slice A l.length cap), (7, v2), (8, .int .i64 (m : Int)), (9, .int .i64 (i : Int))]) (by repeat (first | exact trivial | refine ⟨rfl, ?_⟩)) ?_
          obtain ⟨B, capr, rfl, hcap⟩ := hro2.val
          refine WC.seq ?_
          refine WC.seq ?_
          refine WC.reg ?_
          refine WL.v (Runs.move rfl) rfl ?_
          refine WL.v (Runs.move rfl) rfl ?_
          refine WL.v (Runs.intT (n := (l.length : Int)) (Runs.llen Try.underlying22 rfl rfl) rfl) rfl ?_
          refine WL.v (Runs.lss rfl rfl) rfl ?_
          refine WL.nil ?_
          refine WN.thn ?_
          refine WC.cond rfl (fun c8 => ?_) (fun c8 => ?_)
          · try simp only [decide_eq_true_eq, decide_eq_false_iff_not, Bool.not_eq_true', Bool.not_eq_false', Bool.and_eq_true, Int.not_lt, Int.not_le] at c8
            first
            | (exfalso; omega)
            | skip
              refine WC.skip ?_
              refine WN.thn ?_
              refine WC.seq ?_
              refine WC.block ?_
              refine WC.seq ?_
              have hi2 : i < l.length := by omega
              refine WC.reg ?_
              refine WL.v (Runs.move rfl) rfl ?_
              refine WL.v (Runs.move rfl) rfl ?_
              refine WL.v (Runs.move rfl) rfl ?_
              refine WL.call can35 rfl rfl (doomed_c _ i hL hR hl hf (RdW.row hro2 (i := 0) rfl rfl hL) (by omega) hi2 (by omega) (fun k hk => by rw [h2l]; exact edge_in hall hi2 hk)) ?_
              rintro _ w9 ⟨rfl, h9⟩
              refine ⟨_, rfl, ?_⟩
              refine WL.nil ?_
              refine WN.thn ?_
              refine WC.cond rfl (fun c10 => ?_) (fun c10 => ?_)
              · try simp only [decide_eq_true_eq, decide_eq_false_iff_not, Bool.not_eq_true', Bool.not_eq_false', Bool.and_eq_true, Int.not_lt, Int.not_le] at c10
                first
                | (exfalso; omega)
                | skip
                  obtain ⟨bb, zs, fz, rfl, hBv, hfr⟩ := Row.blk hro2 (by omega)
                  injection hBv with e1 e2 e3
                  subst e1
                  subst e3
                  refine WC.reg ?_
                  refine WL.v (Runs.move rfl) rfl ?_
                  refine WL.v (Runs.move rfl) rfl ?_
                  refine WL.v (Runs.valT (u := .pointer (some ⟨bb, i, none⟩)) (Runs.lidxN Try.underlying28 inf3 rfl rfl (n := i) rfl (by omega)) (by rw [add_mk, Nat.zero_add])) rfl ?_
                  refine WL.storeRow (n := i) (u := (256 : Int)) h9 0 rfl rfl rfl inf3 rfl hfr (by omega) ?_
                  intro  w11 h11
                  try simp only [List.set_cons_zero, List.set_cons_succ, List.eraseIdx_cons_zero, List.eraseIdx_cons_succ] at h11
                  refine WL.nil ?_
                  refine WN.blk ?_
                  refine WN.thn ?_
                  refine WC.reg ?_
                  refine WL.v (Runs.move rfl) rfl ?_
                  refine WL.v (Runs.addn rfl rfl (by omega)) rfl ?_
                  refine WL.v (Runs.assign rfl) rfl ?_
                  refine WL.nil ?_
                  have e9 : stlS l c2 (i : Int) = c2.set i 256 := by unfold stlS; exact if_pos c10
                  have hr9 := Row.mk_ (E := 3) (f := Vi) (b := bb) (fz := fz) (xs := c2.set i 256) (zs := zs) (cap := c2.length + zs.length) (by rw [List.length_set]) (by rw [List.length_set]; exact hfr)
                  rw [List.length_set] at hr9
                  exact WN.again (⟨i + 1, c2.set i 256, _, _⟩ : Nat × List Int × Res × Value) (by show l.length - (i + 1) < l.length - i; omega) ⟨rfl, rfl, rfl, rfl, trivial⟩ ⟨by show i + 1 ≤ _; omega, (by show _ = rnd l c (i + 1); rw [rnd, ← h2M, e9]), (by show (c2.set _ _).length = _; rw [List.length_set]; exact h2l), hr9, h11⟩
              · try simp only [decide_eq_true_eq, decide_eq_false_iff_not, Bool.not_eq_true', Bool.not_eq_false', Bool.and_eq_true, Int.not_lt, Int.not_le] at c10
                first
                | (exfalso; omega)
                | skip
                  refine WC.skip ?_
                  refine WN.blk ?_
                  refine WN.thn ?_
                  refine WC.reg ?_
                  refine WL.v (Runs.move rfl) rfl ?_
                  refine WL.v (Runs.addn rfl rfl (by omega)) rfl ?_
                  refine WL.v (Runs.assign rfl) rfl ?_
                  refine WL.nil ?_
                  have e9 : stlS l c2 (i : Int) = c2 := by unfold stlS; exact if_neg c10
                  exact WN.again (⟨i + 1, c2, _, _⟩ : Nat × List Int × Res × Value) (by show l.length - (i + 1) < l.length - i; omega) ⟨rfl, rfl, rfl, rfl, trivial⟩ ⟨by show i + 1 ≤ _; omega, (by show _ = rnd l c (i + 1); rw [rnd, ← h2M, e9]), h2l, hro2, h9⟩
          · try simp only [decide_eq_true_eq, decide_eq_false_iff_not, Bool.not_eq_true', Bool.not_eq_false', Bool.and_eq_true, Int.not_lt, Int.not_le] at c8
            first
            | (exfalso; omega)
            | skip
              refine WC.exit ?_
              refine WX.thn ?_
              refine WX.cut ?_
              refine WX.hit ?_
              refine WN.blk ?_
              refine WN.thn ?_
              refine WC.reg ?_
              refine WL.v (Runs.move rfl) rfl ?_
              refine WL.v (Runs.addn rfl rfl (by omega)) rfl ?_
              refine WL.v (Runs.assign rfl) rfl ?_
              refine WL.nil ?_
              have hii : i = l.length := by omega
              exact WN.again (⟨m + 1, c2, _, _⟩ : Nat × List Int × Res × Value) (by show l.length - (m + 1) < l.length - m; omega) ⟨rfl, rfl, rfl, trivial⟩ ⟨by show m + 1 ≤ _; omega, (by show c2 = rndN l codes (m + 1); rw [rndN, ← hcM, h2M, hii]), h2l, hro2, hL⟩
      · try simp only [decide_eq_true_eq, decide_eq_false_iff_not, Bool.not_eq_true', Bool.not_eq_false', Bool.and_eq_true, Int.not_lt, Int.not_le] at c6
        first
        | (exfalso; omega)
        | skip
          refine WC.exit ?_
          refine WX.thn ?_
          refine WX.cut ?_
          refine WX.hit ?_
          refine WN.thn ?_
          refine WC.seq ?_
          refine WC.reg ?_
          refine WL.v (Runs.move rfl) rfl ?_
          refine WL.v (Runs.assign rfl) rfl ?_
          refine WL.v (Runs.assign rfl) rfl ?_
          refine WL.nil ?_
          refine WN.thn ?_
          refine WC.ret ?_
          have hkk : m = l.length := by omega
          refine ret2 rfl rfl rfl ?_
          unfold qsettleM
          rw [if_pos hw0, hw0, ← hkk, ← hcM]
          exact Row.gives2 0 hro hL
end Dg
end Go.Proofs.Ytkfkdenikkadhaa
