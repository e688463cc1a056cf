/- Walks of package wire: numbers and texts as bytes. -/
import Derived.Test.YthejglgnoingfaaMBaseAH
import Derived.Test.YthejglgnoingfaaMW5
namespace Go.Proofs.Ythejglgnoingfaa
open Go Go.RowKit B
set_option linter.unusedVariables false
set_option linter.unusedSimpArgs false
namespace Wir

theorem inf5 : Inf Try.prog 5 (.int .u8 0) 1 1 := by unfold Inf; kernel_rfl
/-- a number's bytes, the highest first -/
def hi (n : Nat) : List UInt8 := if n = 0 then [] else hi (n / 256) ++ [UInt8.ofNat n]
termination_by n
decreasing_by omega
theorem hi_0 : hi 0 = [] := by rw [hi, if_pos rfl]
theorem hi_s {n : Nat} (h : n ≠ 0) : hi n = hi (n / 256) ++ [UInt8.ofNat n] := by rw [hi, if_neg h]
theorem hi_lt (k : Nat) : ∀ n, k < (hi n).length ↔ 0 < n / 2 ^ (8 * k) := by
  induction k with
  | zero =>
    intro n
    by_cases h : n = 0
    · subst h; rw [hi_0]; simp
    · rw [hi_s h]; simp; omega
  | succ k ih =>
    intro n
    by_cases h : n = 0
    · subst h; rw [hi_0]; simp
    · rw [hi_s h, List.length_append, List.length_singleton, Nat.add_lt_add_iff_right, ih]
      rw [show 8 * (k + 1) = 8 + 8 * k by omega, Nat.pow_add, ← Nat.div_div_eq_div_mul]
theorem hi_six {n : Nat} (h : n ≤ 1099511627776) : (hi n).length ≤ 6 := by
  rcases Nat.lt_or_ge 6 (hi n).length with h1 | h1
  · have := (hi_lt 6 n).1 h1
    have h2 : n / 2 ^ (8 * 6) = 0 := Nat.div_eq_of_lt (by omega)
    omega
  · exact h1
def numN (n : Nat) : List UInt8 := UInt8.ofNat (hi n).length :: hi n
def mayN (n : Int) : Prop := 0 ≤ n ∧ n ≤ 1099511627776
instance (n : Int) : Decidable (mayN n) := inferInstanceAs (Decidable (_ ∧ _))
def numB (n : Int) : List UInt8 := if mayN n then numN n.toNat else []
theorem numB_len (n : Int) : (numB n).length ≤ 7 := by
  unfold numB numN
  split
  · rename_i h
    have := hi_six (n := n.toNat) (by have := h.2; omega)
    simp; omega
  · simp
def textB (l : List UInt8) : List UInt8 := if 4096 < l.length then [] else numB (l.length : Int) ++ l
theorem hi_step {n k : Nat} (h : k < (hi n).length) : hi (n / 2 ^ (8 * k)) = hi (n / 2 ^ (8 * (k + 1))) ++ [UInt8.ofNat (n / 2 ^ (8 * k))] := by
  have := (hi_lt k n).1 h
  rw [hi_s (by omega)]
  rw [show 8 * (k + 1) = 8 * k + 8 by omega, Nat.pow_add, ← Nat.div_div_eq_div_mul]
theorem hi_end (n : Nat) : hi (n / 2 ^ (8 * (hi n).length)) = [] := by
  rcases Nat.eq_zero_or_pos (n / 2 ^ (8 * (hi n).length)) with h | h
  · rw [h, hi_0]
  · have := (hi_lt (hi n).length n).2 h
    omega
theorem node_dec (n : Int) : decide (-1 ≤ n ∧ n < 16) = (decide (-1 ≤ n) && decide (n < 16)) := by
  by_cases h1 : -1 ≤ n <;> by_cases h2 : n < 16 <;> simp [h1, h2]
set_option maxRecDepth 100000 in
set_option maxHeartbeats 1000000 in
theorem wnum_no {W : World} {F : Snap} {cs : List Res} (w : World) (n : Int) (h : St W F cs w) (hn : ¬ mayN n) : Calls Try.prog 41 #[Vi n] w fun r w' => r = .returned (.string (bs (numB n))) ∧ St W F cs w'  := by
  refine enter (P := Try.prog) (args := [Vi n]) Try.func41 rfl rfl rfl ?_
  refine WC.seq (WC.reg ?_)
  refine WL.v (Runs.assign rfl) rfl ?_
  refine WL.nil (WN.thn (WC.seq (WC.seq (WC.reg ?_))))
  refine WL.v (Runs.move rfl) rfl ?_
  refine WL.call can66 rfl rfl (may_n _ _ h hn) ?_
  rintro _ w1 ⟨rfl, h1⟩
  refine ⟨_, rfl, ?_⟩
  refine WL.v (Runs.not rfl) rfl ?_
  refine WL.nil (WN.thn ?_)
  refine WC.condT rfl (rfl) ?_
  refine WC.seq (WC.reg ?_)
  refine WL.v (Runs.assign rfl) rfl ?_
  refine WL.nil (WN.thn (WC.ret ?_))
  refine ret1 rfl rfl ⟨?_, h1⟩
  rw [numB, if_neg hn]; rfl
set_option maxRecDepth 100000 in
set_option maxHeartbeats 1000000 in
theorem wnum_y {W : World} {F : Snap} {cs : List Res} (w : World) (m : Nat) (h : St W F cs w) (hm : m ≤ 1099511627776) : Calls Try.prog 41 #[Vi (m : Int)] w fun r w' => r = .returned (.string (bs (numN m))) ∧ St W F cs w'  := by
  refine enter (P := Try.prog) (args := [Vi (m : Int)]) Try.func41 rfl rfl rfl ?_
  have h6 := hi_six hm
  refine WC.seq (WC.reg ?_)
  refine WL.v (Runs.assign rfl) rfl ?_
  refine WL.nil (WN.thn (WC.seq (WC.seq (WC.reg ?_))))
  refine WL.v (Runs.move rfl) rfl ?_
  refine WL.call can66 rfl rfl (may_y _ _ h ⟨by omega, by omega⟩) ?_
  rintro _ w1 ⟨rfl, h1⟩
  refine ⟨_, rfl, ?_⟩
  refine WL.v (Runs.not rfl) rfl ?_
  refine WL.nil (WN.thn ?_)
  refine WC.condF rfl (rfl) ?_
  refine WC.skip (WN.thn (WC.seq (WC.reg ?_)))
  refine WL.v (Runs.assign rfl) rfl ?_
  refine WL.nil (WN.thn (WC.seq (WC.block ?_)))
  refine WC.loop (σ := Nat) (fun q_ => [(0, Vi (m : Int)), (3, .int .i64 (q_ : Int))]) (fun q_ w => q_ ≤ (hi m).length ∧ St W F cs w) (fun q_ => (hi m).length - q_) (0) (by repeat (first | exact trivial | refine ⟨rfl, ?_⟩)) (⟨by omega, h1⟩) ?_
  rintro k w2 ⟨hk, hL⟩
  try dsimp only at hk hL
  refine WC.sub (s := [(0, Vi (m : Int)), (3, .int .i64 (k : Int))]) (by repeat (first | exact trivial | refine ⟨rfl, ?_⟩)) ?_
  have hlt := hi_lt k m
  refine WC.seq (WC.seq (WC.reg ?_))
  refine WL.v (Runs.move rfl) rfl ?_
  refine WL.v (Runs.move rfl) rfl ?_
  refine WL.v (Runs.muln rfl rfl (by omega)) rfl ?_
  refine WL.v (Runs.shrN (m := m) (n := 8 * k) rfl rfl (by omega) (by omega)) rfl ?_
  refine WL.v (Runs.gtr rfl rfl) rfl ?_
  refine WL.nil (WN.thn ?_)
  refine WC.cond rfl (fun c3 => ?_) (fun c3 => ?_)
  · try simp only [dt, df, nt, nf, ba, il, ie] at c3
    first
    | (exfalso; omega)
    | skip
      refine WC.skip (WN.thn (WC.block (WC.reg ?_)))
      refine WL.v (Runs.move rfl) rfl ?_
      refine WL.v (Runs.addn rfl rfl (by omega)) rfl ?_
      refine WL.v (Runs.assign rfl) rfl ?_
      refine WL.nil (WN.blk ?_)
      exact WN.again (k + 1) (by have := hlt.2 (by omega); omega) ⟨rfl, rfl, trivial⟩ ⟨by have := hlt.2 (by omega); omega, hL⟩
  · try simp only [dt, df, nt, nf, ba, il, ie] at c3
    first
    | (exfalso; omega)
    | skip
      refine WC.exit (WX.thn (WX.cut (WX.hit (WN.thn (WC.seq ?_)))))
      refine WC.reg ?_
      refine WL.v (Runs.move rfl) rfl ?_
      refine WL.v (Runs.ito8 Try.underlying3 Try.underlying5 (m := k) rfl rfl) rfl ?_
      refine WL.lit (vs := (([UInt8.ofNat k] : List UInt8)).map V8) hL rfl Try.underlying112 inf5 rfl rfl rfl rfl rfl ?_
      intro lit18 w4 h4
      refine WL.v (Runs.assign rfl) rfl ?_
      refine WL.nil (WN.thn (WC.seq (WC.seq (WC.reg ?_))))
      refine WL.v (Runs.move rfl) rfl ?_
      refine WL.v (Runs.subn rfl rfl (by omega)) rfl ?_
      refine WL.v (Runs.assign rfl) rfl ?_
      refine WL.nil (WN.thn (WC.block ?_))
      have hk2 : k = (hi m).length := by
        rcases Nat.lt_or_ge k (hi m).length with h1 | h1
        · have := hlt.1 h1; omega
        · omega
      subst hk2
      refine WC.loop (σ := Nat × Res × Value) (fun q_ => [(0, Vi (m : Int)), (4, q_.2.2), (5, .int .i64 ((q_.1 : Int) - 1))]) (fun q_ w => q_.1 ≤ (hi m).length ∧ Row 5 V8 q_.2.1 q_.2.2 (UInt8.ofNat (hi m).length :: hi (m / 2 ^ (8 * q_.1))) ∧ St W F (q_.2.1 :: cs) w) (fun q_ => q_.1) (⟨(hi m).length, [(lit18, .cells #[V8 (UInt8.ofNat (hi m).length)] 5 (0, 0))], .slice (some ⟨lit18, 0, none⟩) 1 1⟩) (by repeat (first | exact trivial | refine ⟨rfl, ?_⟩)) (⟨Nat.le_refl _, by rw [hi_end]; exact Row.lit (f := V8) (xs := [UInt8.ofNat (hi m).length]) rfl, h4⟩) ?_
      rintro ⟨j, r, v⟩ w5 ⟨hj, hro, hL⟩
      try dsimp only at hj hro hL
      refine WC.sub (s := [(0, Vi (m : Int)), (4, v), (5, .int .i64 ((j : Int) - 1))]) (by repeat (first | exact trivial | refine ⟨rfl, ?_⟩)) ?_
      have hvf := hro.val
      have hll : (UInt8.ofNat (hi m).length :: hi (m / 2 ^ (8 * j))).length ≤ 100 := by
        have := hi_six (n := m / 2 ^ (8 * j)) (Nat.le_trans (Nat.div_le_self _ _) hm)
        rw [List.length_cons]; omega
      obtain ⟨A1, c1_, rfl, hcap⟩ := hvf
      refine WC.seq (WC.seq (WC.reg ?_))
      refine WL.v (Runs.move rfl) rfl ?_
      refine WL.v (Runs.geq rfl rfl) rfl ?_
      refine WL.nil (WN.thn ?_)
      refine WC.cond rfl (fun c6 => ?_) (fun c6 => ?_)
      · try simp only [dt, df, nt, nf, ba, il, ie] at c6
        first
        | (exfalso; omega)
        | skip
          refine WC.skip (WN.thn (WC.seq (WC.block (WC.reg ?_))))
          refine WL.v (Runs.move rfl) rfl ?_
          refine WL.v (Runs.move rfl) rfl ?_
          refine WL.v (Runs.move rfl) rfl ?_
          refine WL.v (Runs.muln rfl rfl (by omega)) rfl ?_
          refine WL.v (Runs.shrN (m := m) (n := 8 * (j - 1)) rfl rfl (by omega) (by omega)) rfl ?_
          refine WL.v (Runs.ito8 Try.underlying3 Try.underlying5 (m := m / 2 ^ (8 * (j - 1))) rfl rfl) rfl ?_
          refine WL.lit (vs := (([UInt8.ofNat (m / 2 ^ (8 * (j - 1)))] : List UInt8)).map V8) hL rfl Try.underlying112 inf5 rfl rfl rfl rfl rfl ?_
          intro lit31 w7 h7
          refine WL.app (ys := ([UInt8.ofNat (m / 2 ^ (8 * (j - 1)))] : List UInt8)) 1 h7 rfl rfl rfl rfl Try.underlying112 Try.underlying112 (.inr ⟨_, rfl⟩) inf5 rfl hro (Src.lit h7 0 rfl rfl rfl) rfl rfl (by first | omega | (simp []; done) | (simp []; omega)) (by first | omega | (simp []; done) | (simp []; omega)) ?_
          intro r8 v8 w9 hr8 h9
          simp only [lz, ls] at h9
          replace h9 := h9.drop 0
          simp only [ez, es'] at h9
          refine WL.v (Runs.assign rfl) rfl ?_
          refine WL.nil (WN.blk (WN.thn (WC.reg ?_)))
          refine WL.v (Runs.move rfl) rfl ?_
          refine WL.v (Runs.subn rfl rfl (by omega)) rfl ?_
          refine WL.v (Runs.assign rfl) rfl ?_
          refine WL.nil ?_
          refine WN.again (⟨j - 1, r8, v8⟩ : Nat × Res × Value) (by show j - 1 < j; omega) ⟨rfl, rfl, ?_, trivial⟩ ⟨by show j - 1 ≤ _; omega, ?_, h9⟩
          · show _ = some (Value.int .i64 (((j - 1 : Nat) : Int) - 1))
            rw [show ((j - 1 : Nat) : Int) = (j : Int) - 1 by omega]; rfl
          · have := hr8
            show Row _ _ _ _ (_ :: hi (m / 2 ^ (8 * (j - 1))))
            rw [hi_step (k := j - 1) (by omega), show j - 1 + 1 = j by omega]
            exact this
      · try simp only [dt, df, nt, nf, ba, il, ie] at c6
        first
        | (exfalso; omega)
        | skip
          refine WC.exit (WX.thn (WX.cut (WX.hit (WN.thn (WC.seq ?_)))))
          obtain rfl : j = 0 := by omega
          rw [show m / 2 ^ (8 * 0) = m by simp] at hro
          refine WC.reg ?_
          refine WL.v (Runs.move rfl) rfl ?_
          refine WL.v (Runs.valT (u := .string (bs (numN m))) (Runs.b2s Try.underlying112 Try.underlying5 Try.underlying9 rfl (by simp [numN]) (bs := numN m) (hro.wcell (i := 0) hL rfl rfl)) rfl) rfl ?_
          refine WL.v (Runs.assign rfl) rfl ?_
          refine WL.nil (WN.thn (WC.ret ?_))
          exact ret1 rfl rfl ⟨rfl, hL.drop 0⟩
theorem wnum_c {W : World} {F : Snap} {cs : List Res} (w : World) (n : Int) (h : St W F cs w) : Calls Try.prog 41 #[Vi n] w fun r w' => r = .returned (.string (bs (numB n))) ∧ St W F cs w' := by
  by_cases hn : mayN n
  · have e : n = ((n.toNat : Nat) : Int) := by have := hn.1; omega
    have h2 := hn.2
    rw [numB, if_pos hn]
    have := wnum_y w n.toNat h (by omega)
    rwa [← e] at this
  · exact wnum_no w n h hn
end Wir
end Go.Proofs.Ythejglgnoingfaa
