/- Walks of package wire: a number, a count, or what is wrong. -/
import Derived.Test.YthejglgnoingfaaMW1
namespace Go.Proofs.Ythejglgnoingfaa
open Go Go.RowKit B
set_option linter.unusedVariables false
set_option linter.unusedSimpArgs false
namespace Wir

theorem can59 : B.Can Try.prog 59 := ⟨_, Try.func59, by kernel_rfl, rfl⟩   -- (*roundhouse/wire.Reader).num
theorem can66 : B.Can Try.prog 66 := ⟨_, Try.func66, by kernel_rfl, rfl⟩   -- roundhouse/wire.may
theorem can83 : B.Can Try.prog 83 := ⟨_, Try.func83, by kernel_rfl, rfl⟩   -- (*roundhouse/wire.Reader).bytes
def valN (l : List UInt8) : Nat := l.foldl (fun a b => 256 * a + b.toNat) 0
def szB (l : List UInt8) (p : Nat) : Nat := (l.getD p 0).toNat
def dig (l : List UInt8) (p : Nat) : List UInt8 := (l.drop (p + 1)).take (szB l p)
def rerr (l : List UInt8) (p : Nat) : Int := if l.length ≤ p then 2 else if 6 < szB l p then 3 else if l.length < p + 1 + szB l p then 2 else if 1099511627776 < valN (dig l p) ∨ (0 < szB l p ∧ (dig l p).getD 0 0 = 0) then 3 else 0
def rval (l : List UInt8) (p : Nat) : Nat := valN (dig l p)
def rnx (l : List UInt8) (p : Nat) : Nat := p + 1 + szB l p
theorem valN_snoc (l : List UInt8) (b : UInt8) : valN (l ++ [b]) = 256 * valN l + b.toNat := by simp [valN, List.foldl_append]
theorem take_one {l : List UInt8} {k : Nat} (h : k < l.length) : l.take (k + 1) = l.take k ++ [l.getD k 0] := by
  rw [List.take_add_one, List.getElem?_eq_getElem h, List.getD_eq_getElem?_getD, List.getElem?_eq_getElem h]; rfl
theorem valN_aux : ∀ (l : List UInt8) (a : Nat), l.foldl (fun a b => 256 * a + b.toNat) a < (a + 1) * 256 ^ l.length
  | [], a => by simp
  | b :: l, a => by
    have h1 := valN_aux l (256 * a + b.toNat)
    have h2 := b.toNat_lt
    have h3 : (256 * a + b.toNat + 1) * 256 ^ l.length ≤ (a + 1) * 256 * 256 ^ l.length := Nat.mul_le_mul_right _ (by omega)
    rw [List.foldl_cons, List.length_cons, Nat.pow_succ, Nat.mul_comm (256 ^ l.length) 256, ← Nat.mul_assoc]
    omega
theorem valN_lt (l : List UInt8) : valN l < 256 ^ l.length := by
  have := valN_aux l 0
  simpa [valN] using this
theorem setS {cs : List Res} {i : Nat} {r : Res} (h : cs[i]? = some r) : cs.set i r = cs := by
  apply List.ext_getElem?
  intro j
  rw [List.getElem?_set]
  split
  · rename_i e; subst e; rw [h, if_pos (List.getElem?_eq_some_iff.1 h).1]
  · rfl
theorem cases11 (n v m : Nat) (P : Prop) : n = 0 ∨ (0 < n ∧ P) ∨ (0 < n ∧ ¬ P ∧ m < v) ∨ (0 < n ∧ ¬ P ∧ v ≤ m) := by
  by_cases h : P
  · rcases Nat.eq_zero_or_pos n with h1 | h1
    · exact .inl h1
    · exact .inr (.inl ⟨h1, h⟩)
  · rcases Nat.eq_zero_or_pos n with h1 | h1
    · exact .inl h1
    · rcases Nat.lt_or_ge m v with h2 | h2
      · exact .inr (.inr (.inl ⟨h1, h, h2⟩))
      · exact .inr (.inr (.inr ⟨h1, h, h2⟩))
theorem pow_le {n : Nat} (h : n ≤ 6) : 256 ^ n ≤ 281474976710656 := Nat.le_trans (Nat.pow_le_pow_right (by decide) h) (by decide)
theorem pow_le5 {n : Nat} (h : n ≤ 5) : 256 ^ n ≤ 1099511627776 := Nat.le_trans (Nat.pow_le_pow_right (by decide) h) (by decide)
theorem dig_len {l : List UInt8} {p : Nat} (h : p + 1 + szB l p ≤ l.length) : (dig l p).length = szB l p := by
  unfold dig
  rw [List.length_take, List.length_drop]; omega
theorem take1_at {l : List UInt8} {p : Nat} (h : p < l.length) : ((l.drop p).take 1).getD 0 0 = l.getD p 0 := by
  simp [List.getD_eq_getElem?_getD, List.getElem?_take, List.getElem?_drop]
theorem may_dec (n : Int) : decide (0 ≤ n ∧ n ≤ 1099511627776) = (decide (0 ≤ n) && decide (n ≤ 1099511627776)) := by
  by_cases h1 : 0 ≤ n <;> by_cases h2 : n ≤ 1099511627776 <;> simp [h1, h2]
theorem u8_ne {b : UInt8} (h : b ≠ 0) : ¬ ((b.toNat : Int) = 0) := fun e => h (UInt8.toNat_inj.1 (by simpa using e))
def cerr (l : List UInt8) (p : Nat) (most : Int) : Int := if rerr l p ≠ 0 then rerr l p else if most < (rval l p : Int) then 3 else 0
set_option maxRecDepth 100000 in
set_option maxHeartbeats 1000000 in
theorem may_c {W : World} {F : Snap} {cs : List Res} (w : World) (n : Int) (h : St W F cs w) : Calls Try.prog 66 #[Vi n] w fun r w' => r = .returned (.bool (decide (0 ≤ n ∧ n ≤ 1099511627776))) ∧ St W F cs w'  := by
  refine enter (P := Try.prog) (args := [Vi n]) Try.func66 rfl rfl rfl ?_
  refine WC.seq (WC.reg ?_)
  refine WL.v (Runs.assign rfl) rfl ?_
  refine WL.nil (WN.thn (WC.seq ?_))
  by_cases h0 : 0 ≤ n
  · skip
    refine WC.reg ?_
    refine WL.v (Runs.move rfl) rfl ?_
    refine WL.v (Runs.boolT (c := true) (Runs.geq rfl rfl) (decide_eq_true h0)) rfl ?_
    refine WL.v (Runs.move rfl) rfl ?_
    refine WL.gon rfl rfl rfl ?_
    refine WL.v (Runs.move rfl) rfl ?_
    refine WL.gon rfl rfl rfl ?_
    refine WL.v (Runs.leq rfl rfl) rfl ?_
    refine WL.v (Runs.pick rfl rfl rfl) rfl ?_
    refine WL.v (Runs.assign rfl) rfl ?_
    refine WL.nil (WN.thn (WC.ret ?_))
    refine ret1 rfl rfl ⟨?_, h⟩
    rw [may_dec, decide_eq_true h0]; rfl
  · skip
    refine WC.reg ?_
    refine WL.v (Runs.move rfl) rfl ?_
    refine WL.v (Runs.boolT (c := false) (Runs.geq rfl rfl) (decide_eq_false h0)) rfl ?_
    refine WL.v (Runs.move rfl) rfl ?_
    refine WL.goff rfl rfl rfl rfl ?_
    refine WL.goff rfl rfl rfl rfl ?_
    refine WL.v (Runs.pick rfl rfl rfl) rfl ?_
    refine WL.v (Runs.assign rfl) rfl ?_
    refine WL.nil (WN.thn (WC.ret ?_))
    refine ret1 rfl rfl ⟨?_, h⟩
    rw [may_dec, decide_eq_false h0]; rfl
theorem may_y {W : World} {F : Snap} {cs : List Res} (w : World) (n : Int) (h : St W F cs w) (hn : 0 ≤ n ∧ n ≤ 1099511627776) : Calls Try.prog 66 #[Vi n] w fun r w' => r = .returned (.bool true) ∧ St W F cs w' := (may_c w n h).mono fun r w' ⟨h1, h2⟩ => ⟨by rw [h1, decide_eq_true hn], h2⟩
theorem may_n {W : World} {F : Snap} {cs : List Res} (w : World) (n : Int) (h : St W F cs w) (hn : ¬ (0 ≤ n ∧ n ≤ 1099511627776)) : Calls Try.prog 66 #[Vi n] w fun r w' => r = .returned (.bool false) ∧ St W F cs w' := (may_c w n h).mono fun r w' ⟨h1, h2⟩ => ⟨by rw [h1, decide_eq_false hn], h2⟩
set_option maxRecDepth 100000 in
set_option maxHeartbeats 4000000 in
theorem num_c {W : World} {F : Snap} {cs : List Res} (w : World) {i rb p : Nat} {e : Int} {l : List UInt8}  (h : St W F cs w) (hi : cs[i]? = some [(rb, .cells #[.string (bs l), Vi (p), Vi (e)] 103 (0, 0))]) (hl : l.length ≤ 100000) (hp : p ≤ l.length) : Calls Try.prog 59 #[.pointer (some ⟨rb, 0, none⟩)] w fun r w' => (rerr l p = 0 ∧ r = .returned (Vi (rval l p : Int)) ∧ St W F (cs.set i [(rb, .cells #[.string (bs l), Vi (rnx l p), Vi (e)] 103 (0, 0))]) w') ∨ (rerr l p ≠ 0 ∧ ∃ q, r = .panicked (wch p (rerr l p)) ∧ St W F (cs.set i [(rb, .cells #[.string (bs l), Vi q, Vi e] 103 (0, 0))]) w')  := by
  refine enter (P := Try.prog) (args := [.pointer (some ⟨rb, 0, none⟩)]) Try.func59 rfl rfl rfl ?_
  refine WC.seq (WC.reg ?_)
  refine WL.v (Runs.assign rfl) rfl ?_
  refine WL.nil (WN.thn (WC.seq (WC.reg ?_)))
  refine WL.v (Runs.move rfl) rfl ?_
  refine WL.v (Runs.nilCheckP rfl) rfl ?_
  refine WL.v (Runs.fld fld103_1 rfl) rfl ?_
  refine WL.v (Runs.load1 Try.underlying3 rfl rfl (h.ocell hi rfl)) rfl ?_
  refine WL.v (Runs.assign rfl) rfl ?_
  refine WL.nil (WN.thn (WC.seq ?_))
  have hcase : p = l.length ∨ p < l.length := by omega
  rcases hcase with hpe | hpl
  · skip
    refine WC.reg ?_
    refine WL.v (Runs.move rfl) rfl ?_
    refine WL.v (Runs.move rfl) rfl ?_
    refine WL.callP can83 rfl rfl (bytes_no _ 1 p h hi hl hp (by omega) (by omega)) ?_
    rintro _ w1 ⟨rfl, h1⟩
    refine .inr ⟨_, rfl, ?_⟩
    have he : rerr l p = 2 := by unfold rerr; rw [if_pos (by omega)]
    exact die0 (.inr ⟨by rw [he]; decide, p, by rw [he], by rw [setS hi]; exact h1⟩)
  · skip
    refine WC.reg ?_
    refine WL.v (Runs.move rfl) rfl ?_
    refine WL.v (Runs.move rfl) rfl ?_
    refine WL.call can83 rfl rfl (bytes_ok _ 1 p h hi hl hp (by omega)) ?_
    rintro _ w2 ⟨rfl, h2⟩
    refine ⟨_, rfl, ?_⟩
    have hi1 : (cs.set i [(rb, .cells #[.string (bs l), Vi ((p + 1 : Nat)), Vi (e)] 103 (0, 0))])[i]? = some [(rb, .cells #[.string (bs l), Vi ((p + 1 : Nat)), Vi (e)] 103 (0, 0))] := by rw [List.getElem?_set_self (List.getElem?_eq_some_iff.1 hi).1]
    refine WL.v (Runs.valT (u := V8 (l.getD p 0)) (Runs.lsidx Try.underlying9 rfl rfl (n := 0) rfl (by rw [List.length_take, List.length_drop]; omega)) (by rw [take1_at hpl])) rfl ?_
    refine WL.v (Runs.intT (n := (szB l p : Int)) (Runs.u8toI Try.underlying5 Try.underlying3 rfl) rfl) rfl ?_
    refine WL.v (Runs.assign rfl) rfl ?_
    refine WL.nil (WN.thn (WC.seq ?_))
    have hcase : 6 < szB l p ∨ szB l p ≤ 6 := by omega
    rcases hcase with hs6 | hs6
    · skip
      refine WC.reg ?_
      refine WL.v (Runs.move rfl) rfl ?_
      refine WL.v (Runs.boolT (c := false) (Runs.leq rfl rfl) (by rw [decide_eq_false_iff_not]; omega)) rfl ?_
      refine WL.v (Runs.move rfl) rfl ?_
      refine WL.callP can84 rfl rfl (must_no _ _ _ h2) ?_
      rintro _ w3 ⟨rfl, h3⟩
      refine .inr ⟨_, rfl, ?_⟩
      have he : rerr l p = 3 := by unfold rerr; rw [if_neg (by omega), if_pos hs6]
      exact die0 (.inr ⟨by rw [he]; decide, _, by rw [he], h3⟩)
    · skip
      refine WC.reg ?_
      refine WL.v (Runs.move rfl) rfl ?_
      refine WL.v (Runs.boolT (c := true) (Runs.leq rfl rfl) (by rw [decide_eq_true_eq]; omega)) rfl ?_
      refine WL.v (Runs.move rfl) rfl ?_
      refine WL.call can84 rfl rfl (must_ok _ _ _ h2) ?_
      rintro _ w4 ⟨rfl, h4⟩
      refine ⟨_, rfl, ?_⟩
      refine WL.nil (WN.thn (WC.seq ?_))
      have hcase : l.length < p + 1 + szB l p ∨ p + 1 + szB l p ≤ l.length := by omega
      rcases hcase with hse | hsl
      · skip
        refine WC.reg ?_
        refine WL.v (Runs.move rfl) rfl ?_
        refine WL.v (Runs.move rfl) rfl ?_
        refine WL.v (Runs.move rfl) rfl ?_
        refine WL.callP can83 rfl rfl (bytes_no _ (szB l p) p h4 hi1 hl hpl (by omega) (by omega)) ?_
        rintro _ w5 ⟨rfl, h5⟩
        refine .inr ⟨_, rfl, ?_⟩
        have he : rerr l p = 2 := by unfold rerr; rw [if_neg (by omega), if_neg (by omega), if_pos hse]
        exact die0 (.inr ⟨by rw [he]; decide, _, by rw [he], h5⟩)
      · have hdl := dig_len hsl
        refine WC.reg ?_
        refine WL.v (Runs.move rfl) rfl ?_
        refine WL.v (Runs.move rfl) rfl ?_
        refine WL.v (Runs.move rfl) rfl ?_
        refine WL.call can83 rfl rfl (bytes_ok _ (szB l p) p h4 hi1 hl hpl hsl) ?_
        rintro _ w6 ⟨rfl, h6⟩
        refine ⟨_, rfl, ?_⟩
        rw [List.set_set] at h6
        refine WL.v (Runs.assign rfl) rfl ?_
        refine WL.nil (WN.thn (WC.seq (WC.reg ?_)))
        refine WL.v (Runs.assign rfl) rfl ?_
        refine WL.nil (WN.thn (WC.seq (WC.seq (WC.reg ?_))))
        refine WL.v (Runs.move rfl) rfl ?_
        refine WL.v (Runs.intT (n := ((dig l p).length : Int)) (Runs.slen Try.underlying9 rfl rfl) rfl) rfl ?_
        refine WL.v (Runs.move rfl) rfl ?_
        refine WL.nil (WN.thn (WC.block ?_))
        refine WC.loop (σ := Nat) (fun q_ => [(0, .pointer (some ⟨rb, 0, none⟩)), (3, Vi p), (4, .int .i64 (szB l p : Int)), (5, .string (bs (dig l p))), (6, .int .i64 (valN ((dig l p).take q_) : Int)), (26, .int .i64 ((dig l p).length : Int)), (27, .int .i64 (q_ : Int))]) (fun q_ w => q_ ≤ (dig l p).length ∧ St W F (cs.set i [(rb, .cells #[.string (bs l), Vi ((p + 1 + szB l p : Nat)), Vi (e)] 103 (0, 0))]) w) (fun q_ => (dig l p).length - q_) (0) (by repeat (first | exact trivial | refine ⟨rfl, ?_⟩)) (⟨by omega, h6⟩) ?_
        rintro k w7 ⟨hk, hL⟩
        try dsimp only at hk hL
        refine WC.sub (s := [(0, .pointer (some ⟨rb, 0, none⟩)), (3, Vi p), (4, .int .i64 (szB l p : Int)), (5, .string (bs (dig l p))), (6, .int .i64 (valN ((dig l p).take k) : Int)), (26, .int .i64 ((dig l p).length : Int)), (27, .int .i64 (k : Int))]) (by repeat (first | exact trivial | refine ⟨rfl, ?_⟩)) ?_
        have hvl := valN_lt ((dig l p).take k)
        rw [List.length_take, Nat.min_eq_left hk] at hvl
        have hpw := pow_le (n := k) (by omega)
        refine WC.seq (WC.reg ?_)
        refine WL.v (Runs.lss rfl rfl) rfl ?_
        refine WL.nil (WN.thn (WC.seq ?_))
        refine WC.cond rfl (fun c8 => ?_) (fun c8 => ?_)
        · try simp only [dt, df, nt, nf, ba, il, ie] at c8
          first
          | (exfalso; omega)
          | skip
            refine WC.skip (WN.thn (WC.seq (WC.block (WC.seq (WC.reg ?_)))))
            refine WL.v (Runs.move rfl) rfl ?_
            refine WL.v (Runs.assign rfl) rfl ?_
            refine WL.nil (WN.thn (WC.reg ?_))
            refine WL.v (Runs.move rfl) rfl ?_
            refine WL.v (Runs.shl8 (m := valN ((dig l p).take k)) rfl rfl (by omega)) rfl ?_
            refine WL.v (Runs.move rfl) rfl ?_
            refine WL.v (Runs.move rfl) rfl ?_
            refine WL.v (Runs.lsidx Try.underlying9 rfl rfl (n := k) rfl (by omega)) rfl ?_
            refine WL.v (Runs.u8toI Try.underlying5 Try.underlying3 rfl) rfl ?_
            refine WL.v (Runs.orB (m := valN ((dig l p).take k)) rfl rfl (by omega)) rfl ?_
            refine WL.v (Runs.assign rfl) rfl ?_
            refine WL.nil (WN.blk (WN.thn (WC.reg ?_)))
            refine WL.v (Runs.addn rfl rfl (by omega)) rfl ?_
            refine WL.v (Runs.move rfl) rfl ?_
            refine WL.nil ?_
            refine WN.again (k + 1) (by omega) ⟨rfl, rfl, rfl, rfl, ?_, rfl, rfl, trivial⟩ ⟨by omega, hL⟩
            show _ = some (Value.int .i64 (valN ((dig l p).take (k + 1)) : Int))
            rw [take_one (by omega), valN_snoc]
            rfl
        · try simp only [dt, df, nt, nf, ba, il, ie] at c8
          first
          | (exfalso; omega)
          | skip
            refine WC.exit (WX.thn (WX.cut (WX.hit (WN.thn (WC.seq ?_)))))
            obtain rfl : k = (dig l p).length := by omega
            rw [List.take_of_length_le (Nat.le_refl _)] at *
            have hcase := cases11 (szB l p) (valN (dig l p)) 1099511627776 ((dig l p).getD 0 0 = 0)
            rcases hcase with h1 | ⟨h1, h2⟩ | ⟨h1, h2, h3⟩ | ⟨h1, h2, h3⟩
            · have hv0 : valN (dig l p) = 0 := by rw [List.eq_nil_of_length_eq_zero (hdl.trans h1)]; rfl
              refine WC.reg ?_
              refine WL.v (Runs.move rfl) rfl ?_
              refine WL.v (Runs.boolT (c := true) (Runs.eql rfl rfl) (by rw [decide_eq_true_eq]; omega)) rfl ?_
              refine WL.v (Runs.move rfl) rfl ?_
              refine WL.goff rfl rfl rfl rfl ?_
              refine WL.goff rfl rfl rfl rfl ?_
              refine WL.goff rfl rfl rfl rfl ?_
              refine WL.goff rfl rfl rfl rfl ?_
              refine WL.goffU rfl rfl rfl ?_
              refine WL.goffU rfl rfl rfl ?_
              refine WL.goff rfl rfl rfl rfl ?_
              refine WL.v (Runs.pick rfl rfl rfl) rfl ?_
              refine WL.v (Runs.move rfl) rfl ?_
              refine WL.call can84 rfl rfl (must_ok _ _ _ hL) ?_
              rintro _ w9 ⟨rfl, h9⟩
              refine ⟨_, rfl, ?_⟩
              refine WL.nil (WN.thn (WC.seq (WC.reg ?_)))
              refine WL.v (Runs.move rfl) rfl ?_
              refine WL.v (Runs.assign rfl) rfl ?_
              refine WL.nil (WN.thn (WC.ret ?_))
              have he : rerr l p = 0 := by
                unfold rerr
                rw [if_neg (by omega), if_neg (by omega), if_neg (by omega), if_neg]
                rintro (h4 | ⟨h4, h5⟩)
                · omega
                · first | omega | exact absurd h5 h2
              exact ret1 rfl rfl (.inl ⟨he, rfl, h9⟩)
            · skip
              refine WC.reg ?_
              refine WL.v (Runs.move rfl) rfl ?_
              refine WL.v (Runs.boolT (c := false) (Runs.eql rfl rfl) (by rw [decide_eq_false_iff_not]; omega)) rfl ?_
              refine WL.v (Runs.move rfl) rfl ?_
              refine WL.gon rfl rfl rfl ?_
              refine WL.v (Runs.move rfl) rfl ?_
              refine WL.gon rfl rfl rfl ?_
              refine WL.v (Runs.lsidx Try.underlying9 rfl rfl (n := 0) rfl (by omega)) rfl ?_
              refine WL.gon rfl rfl rfl ?_
              refine WL.v (Runs.boolT (c := false) (Runs.neq rfl rfl) (by rw [h2]; rfl)) rfl ?_
              refine WL.gon rfl rfl rfl ?_
              refine WL.v (Runs.move rfl) rfl ?_
              refine WL.goff rfl rfl rfl rfl ?_
              refine WL.goff rfl rfl rfl rfl ?_
              refine WL.gon rfl rfl rfl ?_
              refine WL.v (Runs.pick rfl rfl rfl) rfl ?_
              refine WL.v (Runs.pick rfl rfl rfl) rfl ?_
              refine WL.v (Runs.move rfl) rfl ?_
              refine WL.callP can84 rfl rfl (must_no _ _ _ hL) ?_
              rintro _ w10 ⟨rfl, h10⟩
              refine .inr ⟨_, rfl, ?_⟩
              have he : rerr l p = 3 := by unfold rerr; rw [if_neg (by omega), if_neg (by omega), if_neg (by omega), if_pos (.inr ⟨h1, h2⟩)]
              exact die0 (.inr ⟨by rw [he]; decide, _, by rw [he], h10⟩)
            · have h2b := u8_ne h2
              refine WC.reg ?_
              refine WL.v (Runs.move rfl) rfl ?_
              refine WL.v (Runs.boolT (c := false) (Runs.eql rfl rfl) (by rw [decide_eq_false_iff_not]; omega)) rfl ?_
              refine WL.v (Runs.move rfl) rfl ?_
              refine WL.gon rfl rfl rfl ?_
              refine WL.v (Runs.move rfl) rfl ?_
              refine WL.gon rfl rfl rfl ?_
              refine WL.v (Runs.lsidx Try.underlying9 rfl rfl (n := 0) rfl (by omega)) rfl ?_
              refine WL.gon rfl rfl rfl ?_
              refine WL.v (Runs.boolT (c := true) (Runs.neq rfl rfl) (by rw [decide_eq_false h2b]; rfl)) rfl ?_
              refine WL.gon rfl rfl rfl ?_
              refine WL.v (Runs.move rfl) rfl ?_
              refine WL.gon rfl rfl rfl ?_
              refine WL.v (Runs.move rfl) rfl ?_
              refine WL.gon rfl rfl rfl ?_
              refine WL.call can66 rfl rfl (may_n _ _ hL (by omega)) ?_
              rintro _ w11 ⟨rfl, h11⟩
              refine ⟨_, rfl, ?_⟩
              refine WL.gon rfl rfl rfl ?_
              refine WL.v (Runs.pick rfl rfl rfl) rfl ?_
              refine WL.v (Runs.pick rfl rfl rfl) rfl ?_
              refine WL.v (Runs.move rfl) rfl ?_
              refine WL.callP can84 rfl rfl (must_no _ _ _ h11) ?_
              rintro _ w12 ⟨rfl, h12⟩
              refine .inr ⟨_, rfl, ?_⟩
              have he : rerr l p = 3 := by unfold rerr; rw [if_neg (by omega), if_neg (by omega), if_neg (by omega), if_pos (.inl h3)]
              exact die0 (.inr ⟨by rw [he]; decide, _, by rw [he], h12⟩)
            · have h2b := u8_ne h2
              refine WC.reg ?_
              refine WL.v (Runs.move rfl) rfl ?_
              refine WL.v (Runs.boolT (c := false) (Runs.eql rfl rfl) (by rw [decide_eq_false_iff_not]; omega)) rfl ?_
              refine WL.v (Runs.move rfl) rfl ?_
              refine WL.gon rfl rfl rfl ?_
              refine WL.v (Runs.move rfl) rfl ?_
              refine WL.gon rfl rfl rfl ?_
              refine WL.v (Runs.lsidx Try.underlying9 rfl rfl (n := 0) rfl (by omega)) rfl ?_
              refine WL.gon rfl rfl rfl ?_
              refine WL.v (Runs.boolT (c := true) (Runs.neq rfl rfl) (by rw [decide_eq_false h2b]; rfl)) rfl ?_
              refine WL.gon rfl rfl rfl ?_
              refine WL.v (Runs.move rfl) rfl ?_
              refine WL.gon rfl rfl rfl ?_
              refine WL.v (Runs.move rfl) rfl ?_
              refine WL.gon rfl rfl rfl ?_
              refine WL.call can66 rfl rfl (may_y _ _ hL (by omega)) ?_
              rintro _ w13 ⟨rfl, h13⟩
              refine ⟨_, rfl, ?_⟩
              refine WL.gon rfl rfl rfl ?_
              refine WL.v (Runs.pick rfl rfl rfl) rfl ?_
              refine WL.v (Runs.pick rfl rfl rfl) rfl ?_
              refine WL.v (Runs.move rfl) rfl ?_
              refine WL.call can84 rfl rfl (must_ok _ _ _ h13) ?_
              rintro _ w14 ⟨rfl, h14⟩
              refine ⟨_, rfl, ?_⟩
              refine WL.nil (WN.thn (WC.seq (WC.reg ?_)))
              refine WL.v (Runs.move rfl) rfl ?_
              refine WL.v (Runs.assign rfl) rfl ?_
              refine WL.nil (WN.thn (WC.ret ?_))
              have he : rerr l p = 0 := by
                unfold rerr
                rw [if_neg (by omega), if_neg (by omega), if_neg (by omega), if_neg]
                rintro (h4 | ⟨h4, h5⟩)
                · omega
                · first | omega | exact absurd h5 h2
              exact ret1 rfl rfl (.inl ⟨he, rfl, h14⟩)
set_option maxRecDepth 100000 in
set_option maxHeartbeats 1000000 in
theorem count_c {W : World} {F : Snap} {cs : List Res} (w : World) {i rb p : Nat} {e : Int} {l : List UInt8}  (most : Int) (h : St W F cs w) (hi : cs[i]? = some [(rb, .cells #[.string (bs l), Vi (p), Vi (e)] 103 (0, 0))]) (hl : l.length ≤ 100000) (hp : p ≤ l.length) : Calls Try.prog 61 #[.pointer (some ⟨rb, 0, none⟩), Vi most] w fun r w' => (cerr l p most = 0 ∧ r = .returned (Vi (rval l p : Int)) ∧ St W F (cs.set i [(rb, .cells #[.string (bs l), Vi (rnx l p), Vi (e)] 103 (0, 0))]) w') ∨ (cerr l p most ≠ 0 ∧ ∃ q, r = .panicked (wch p (cerr l p most)) ∧ St W F (cs.set i [(rb, .cells #[.string (bs l), Vi q, Vi e] 103 (0, 0))]) w')  := by
  refine enter (P := Try.prog) (args := [.pointer (some ⟨rb, 0, none⟩), Vi most]) Try.func61 rfl rfl rfl ?_
  refine WC.seq (WC.reg ?_)
  refine WL.v (Runs.assign rfl) rfl ?_
  refine WL.nil (WN.thn (WC.seq (WC.reg ?_)))
  refine WL.v (Runs.move rfl) rfl ?_
  refine WL.v (Runs.nilCheckP rfl) rfl ?_
  refine WL.v (Runs.fld fld103_1 rfl) rfl ?_
  refine WL.v (Runs.load1 Try.underlying3 rfl rfl (h.ocell hi rfl)) rfl ?_
  refine WL.v (Runs.assign rfl) rfl ?_
  refine WL.nil (WN.thn (WC.seq (WC.reg ?_)))
  refine WL.v (Runs.move rfl) rfl ?_
  refine WL.callP can59 rfl rfl (num_c _ h hi hl hp) ?_
  rintro _ w1 (⟨he, rfl, h1⟩ | ⟨he, q, rfl, h1⟩)
  rotate_left
  · refine .inr ⟨_, rfl, ?_⟩
    have hc : cerr l p most = rerr l p := if_pos he
    exact die0 (.inr ⟨by rw [hc]; exact he, q, by rw [hc], h1⟩)
  refine .inl ⟨_, rfl, ?_⟩
  
  refine WL.v (Runs.assign rfl) rfl ?_
  refine WL.nil (WN.thn (WC.seq ?_))
  have hcase : most < (rval l p : Int) ∨ (rval l p : Int) ≤ most := by omega
  rcases hcase with hm | hm
  · skip
    refine WC.reg ?_
    refine WL.v (Runs.move rfl) rfl ?_
    refine WL.v (Runs.move rfl) rfl ?_
    refine WL.v (Runs.boolT (c := false) (Runs.leq rfl rfl) (by rw [decide_eq_false_iff_not]; omega)) rfl ?_
    refine WL.v (Runs.move rfl) rfl ?_
    refine WL.callP can84 rfl rfl (must_no _ _ _ h1) ?_
    rintro _ w2 ⟨rfl, h2⟩
    refine .inr ⟨_, rfl, ?_⟩
    have hc : cerr l p most = 3 := by unfold cerr; rw [if_neg (by rw [he]; decide), if_pos hm]
    exact die0 (.inr ⟨by rw [hc]; decide, _, by rw [hc], h2⟩)
  · skip
    refine WC.reg ?_
    refine WL.v (Runs.move rfl) rfl ?_
    refine WL.v (Runs.move rfl) rfl ?_
    refine WL.v (Runs.boolT (c := true) (Runs.leq rfl rfl) (by rw [decide_eq_true_eq]; omega)) rfl ?_
    refine WL.v (Runs.move rfl) rfl ?_
    refine WL.call can84 rfl rfl (must_ok _ _ _ h1) ?_
    rintro _ w3 ⟨rfl, h3⟩
    refine ⟨_, rfl, ?_⟩
    refine WL.nil (WN.thn (WC.seq (WC.reg ?_)))
    refine WL.v (Runs.move rfl) rfl ?_
    refine WL.v (Runs.assign rfl) rfl ?_
    refine WL.nil (WN.thn (WC.ret ?_))
    have hc : cerr l p most = 0 := by unfold cerr; rw [if_neg (by rw [he]; decide), if_neg (by omega)]
    exact ret1 rfl rfl (.inl ⟨hc, rfl, h3⟩)
end Wir
end Go.Proofs.Ythejglgnoingfaa
