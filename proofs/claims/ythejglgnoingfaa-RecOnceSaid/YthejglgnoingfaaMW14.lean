/- Walks of the reference of chapter 02: what it writes. -/
import Derived.Test.YthejglgnoingfaaMW18
namespace Go.Proofs.Ythejglgnoingfaa
open Go Go.RowKit B
set_option linter.unusedVariables false
set_option linter.unusedSimpArgs false
namespace Wir

theorem can43 : B.Can Try.prog 43 := ⟨_, Try.func43, by kernel_rfl, rfl⟩   -- roundhouse/roundhouseref02.Num
theorem can69 : B.Can Try.prog 69 := ⟨_, Try.func69, by kernel_rfl, rfl⟩   -- roundhouse/roundhouseref02.high
theorem valN_hi : ∀ (n : Nat), valN (hi n) = n := by
  intro n
  induction n using Nat.strongRecOn with
  | _ n ih =>
    by_cases h : n = 0
    · subst h; rw [hi_0]; rfl
    · rw [hi_s h, valN_snoc, ih (n / 256) (by omega), UInt8.toNat_ofNat']
      omega
theorem hi_ne {n : Nat} (h : n ≠ 0) : hi n ≠ [] := by rw [hi_s h]; simp
theorem hi_head : ∀ (n : Nat), n ≠ 0 → (hi n).getD 0 0 ≠ 0 := by
  intro n
  induction n using Nat.strongRecOn with
  | _ n ih =>
    intro h
    rw [hi_s h]
    by_cases h2 : n / 256 = 0
    · rw [h2, hi_0]
      intro e
      have := congrArg UInt8.toNat e
      simp at this
      omega
    · have h3 := ih (n / 256) (by omega) h2
      cases e : hi (n / 256) with
      | nil => exact absurd e (hi_ne h2)
      | cons a t => rw [e] at h3; simpa using h3
theorem valN_cons_pos {a : UInt8} {t : List UInt8} (h : a ≠ 0) : valN (a :: t) ≠ 0 := by
  have key : ∀ (t : List UInt8) (x : Nat), x ≠ 0 → t.foldl (fun a b => 256 * a + b.toNat) x ≠ 0 := by
    intro t
    induction t with
    | nil => intro x hx; exact hx
    | cons b t ih => intro x hx; exact ih _ (by show 256 * x + b.toNat ≠ 0; omega)
  refine key t _ ?_
  have : a.toNat ≠ 0 := fun e => h (UInt8.toNat_inj.1 (by simpa using e))
  simpa using this
theorem hi_valN : ∀ (n : Nat) (ds : List UInt8), ds.length = n → (ds = [] ∨ ds.getD 0 0 ≠ 0) → hi (valN ds) = ds := by
  intro n
  induction n with
  | zero => intro ds hl _; rw [List.eq_nil_of_length_eq_zero hl]; exact hi_0
  | succ n ih =>
    intro ds hl h
    have hne : ds ≠ [] := fun e => by rw [e] at hl; simp at hl
    have hh : ds.getD 0 0 ≠ 0 := by
      rcases h with h | h
      · exact absurd h hne
      · exact h
    have e := (List.dropLast_concat_getLast hne).symm
    have hpos : valN ds ≠ 0 := by
      cases ds with
      | nil => exact absurd rfl hne
      | cons a t => exact valN_cons_pos (by simpa using hh)
    have e2 : valN ds = 256 * valN ds.dropLast + (ds.getLast hne).toNat := by
      conv => lhs; rw [e]
      exact valN_snoc _ _
    have hlt := (ds.getLast hne).toNat_lt
    rw [hi_s hpos]
    have e3 : valN ds / 256 = valN ds.dropLast := by omega
    have e4 : UInt8.ofNat (valN ds) = ds.getLast hne := by
      apply UInt8.toNat_inj.1
      rw [UInt8.toNat_ofNat', e2]; omega
    rw [e3, e4, ih ds.dropLast (by simp [hl]) ?_]
    · exact e.symm
    · cases ds with
      | nil => exact absurd rfl hne
      | cons a t =>
        cases t with
        | nil => exact .inl rfl
        | cons b t => exact .inr (by simpa using hh)
theorem numN_len (n : Nat) (h : n ≤ 1099511627776) : (UInt8.ofNat (hi n).length).toNat = (hi n).length := by
  have := hi_six h
  rw [UInt8.toNat_ofNat']; omega
theorem rdN_num (pre rest : List UInt8) {n : Nat} (h : n ≤ 1099511627776) : rdN (pre ++ (numN n ++ rest)) pre.length 0 = (n, (pre ++ numN n).length, 0) := by
  have h6 := hi_six h
  have e1 : szB (pre ++ (numN n ++ rest)) pre.length = (hi n).length := by
    unfold szB numN
    rw [List.getD_eq_getElem?_getD, List.getElem?_append_right (Nat.le_refl _), Nat.sub_self]
    exact numN_len n h
  have e2 : dig (pre ++ (numN n ++ rest)) pre.length = hi n := by
    unfold dig
    rw [e1]
    unfold numN
    rw [List.drop_append, List.drop_eq_nil_of_le (by omega), List.nil_append, show pre.length + 1 - pre.length = 1 by omega]
    show ((hi n) ++ rest).take _ = _
    rw [List.take_left' rfl]
  have e3 : rerr (pre ++ (numN n ++ rest)) pre.length = 0 := by
    unfold rerr
    rw [e1, e2, valN_hi]
    rw [if_neg (by simp [numN]), if_neg (by omega), if_neg (by simp [numN]; omega), if_neg]
    rintro (h1 | ⟨h1, h2⟩)
    · omega
    · refine hi_head n ?_ h2
      intro e; subst e; rw [hi_0] at h1; simp at h1
  unfold rdN
  rw [if_neg (by simp), if_pos e3]
  unfold rval rnx
  rw [e1, e2, valN_hi]
  simp only [Prod.mk.injEq, true_and, and_true]
  simp [numN]; omega
theorem numB_y {n : Int} (h : mayN n) : numB n = numN n.toNat := if_pos h
theorem tn {n : Int} (h : mayN n) : n.toNat ≤ 1099511627776 ∧ ((n.toNat : Nat) : Int) = n := by have := h.1; have := h.2; omega
theorem num_rdN {l : List UInt8} {p : Nat} {e : Int} (h : (rdN l p e).2.2 = 0) : e = 0 ∧ rerr l p = 0 ∧ rdN l p e = (rval l p, rnx l p, 0) := by
  unfold rdN at h ⊢
  by_cases he : e = 0
  · rw [if_neg (by rw [he]; simp)] at h ⊢
    by_cases hr : rerr l p = 0
    · exact ⟨he, hr, if_pos hr⟩
    · rw [if_neg hr] at h
      exact absurd h hr
  · rw [if_pos he] at h
    exact absurd h he
theorem rerr_0 {l : List UInt8} {p : Nat} (h : rerr l p = 0) : p + 1 + szB l p ≤ l.length ∧ szB l p ≤ 6 ∧ valN (dig l p) ≤ 1099511627776 ∧ (szB l p = 0 ∨ (dig l p).getD 0 0 ≠ 0) := by
  unfold rerr at h
  split at h
  · cases h
  · split at h
    · cases h
    · split at h
      · cases h
      · split at h
        · cases h
        · rename_i h1 h2 h3 h4
          refine ⟨by omega, by omega, by omega, ?_⟩
          by_cases h0 : szB l p = 0
          · exact .inl h0
          · exact .inr fun hh => h4 (.inr ⟨by omega, hh⟩)
theorem numN_val {l : List UInt8} {p : Nat} (h : rerr l p = 0) : l.drop p = numN (rval l p) ++ l.drop (rnx l p) := by
  obtain ⟨h1, h2, h3, h4⟩ := rerr_0 h
  have hd := dig_len h1
  have hv : hi (rval l p) = dig l p := hi_valN _ _ rfl (by
    rcases h4 with h4 | h4
    · exact .inl (List.eq_nil_of_length_eq_zero (hd.trans h4))
    · exact .inr h4)
  unfold numN
  rw [hv, hd]
  have hp : p < l.length := by omega
  have hb : UInt8.ofNat (szB l p) = l[p] := by
    unfold szB
    rw [List.getD_eq_getElem?_getD, List.getElem?_eq_getElem hp]
    simp
  rw [hb, List.drop_eq_getElem_cons hp]
  show _ :: _ = _ :: (dig l p ++ _)
  congr 1
  unfold dig rnx
  rw [show l.drop (p + 1 + szB l p) = (l.drop (p + 1)).drop (szB l p) by rw [List.drop_drop]]
  exact (List.take_append_drop _ _).symm
theorem one_el {c b : UInt8} {j : Nat} (h : [c][j]? = some b) : (([c] : List UInt8).map V8).toArray[j]? = some (V8 b) := by
  rcases j with _ | j
  · have : c = b := by simpa using h
    subst this; rfl
  · simp at h
theorem numB_nil {n : Int} : numB n ≠ [] ↔ mayN n := by
  constructor
  · intro h
    by_cases hn : mayN n
    · exact hn
    · exact absurd (by unfold numB; rw [if_neg hn]) h
  · exact numB_ne
set_option maxRecDepth 100000 in
set_option maxHeartbeats 1000000 in
theorem high_c {W : World} {F : Snap} {cs : List Res} (w : World) (m : Nat) (h : St W F cs w) (hm : m ≤ 1099511627776) : Calls Try.prog 69 #[Vi (m : Int)] w fun r w' => r = .returned (.string (bs (hi m))) ∧ St W F cs w'  := by
  refine enter (P := Try.prog) (args := [Vi (m : Int)]) Try.func69 rfl rfl rfl ?_
  refine WC.seq (WC.reg ?_)
  refine WL.v (Runs.assign rfl) rfl ?_
  refine WL.nil (WN.thn (WC.seq (WC.reg ?_)))
  refine WL.v (Runs.assign rfl) rfl ?_
  refine WL.nil (WN.thn (WC.seq (WC.block ?_)))
  refine WC.loop (σ := Nat × List UInt8) (fun q_ => [(0, Vi (q_.1 : Int)), (3, .string (bs q_.2))]) (fun q_ w => q_.1 ≤ m ∧ hi m = hi q_.1 ++ q_.2 ∧ q_.2.length ≤ (hi m).length ∧ St W F cs w) (fun q_ => q_.1) (⟨m, []⟩) (by repeat (first | exact trivial | refine ⟨rfl, ?_⟩)) (⟨Nat.le_refl _, by simp, by simp, h⟩) ?_
  rintro ⟨n, s⟩ w1 ⟨hn, he, hs, hL⟩
  try dsimp only at hn he hs hL
  refine WC.sub (s := [(0, Vi (n : Int)), (3, .string (bs s))]) (by repeat (first | exact trivial | refine ⟨rfl, ?_⟩)) ?_
  refine WC.seq (WC.seq (WC.reg ?_))
  refine WL.v (Runs.move rfl) rfl ?_
  refine WL.v (Runs.gtr rfl rfl) rfl ?_
  refine WL.nil (WN.thn ?_)
  refine WC.cond rfl (fun c2 => ?_) (fun c2 => ?_)
  · try simp only [dt, df, nt, nf, ba, il, ie] at c2
    first
    | (exfalso; omega)
    | skip
      refine WC.skip (WN.thn (WC.block (WC.seq (WC.reg ?_))))
      refine WL.v (Runs.move rfl) rfl ?_
      refine WL.v (Runs.remn (m := (n : Int)) (n := 256) rfl rfl (by omega) (by omega)) rfl ?_
      refine WL.v (Runs.ito8 Try.underlying3 Try.underlying5 (m := n % 256) rfl (by omega)) rfl ?_
      refine WL.lit (vs := (([UInt8.ofNat (n % 256)] : List UInt8)).map V8) hL rfl Try.underlying112 inf5 rfl rfl rfl rfl rfl ?_
      intro lit9 w3 h3
      refine WL.v (Runs.valT (u := .string (bs [UInt8.ofNat (n % 256)])) (Runs.b2s Try.underlying112 Try.underlying5 Try.underlying9 rfl rfl (bs := [UInt8.ofNat (n % 256)]) (.inr ⟨_, rfl, fun j b hb => by rw [add_mk, Nat.zero_add]; exact h3.ocell (i := 0) rfl (one_el hb)⟩)) rfl) rfl ?_
      refine WL.v (Runs.move rfl) rfl ?_
      refine WL.v (Runs.lsadd (a := [UInt8.ofNat (n % 256)]) (b := s) rfl rfl (by have := hi_six hm; simp; omega)) rfl ?_
      refine WL.v (Runs.assign rfl) rfl ?_
      refine WL.nil (WN.thn (WC.reg ?_))
      refine WL.v (Runs.move rfl) rfl ?_
      refine WL.v (Runs.intT (n := ((n / 256 : Nat) : Int)) (Runs.quon (m := (n : Int)) (n := 256) rfl rfl (by omega) (by omega)) (by omega)) rfl ?_
      refine WL.v (Runs.assign rfl) rfl ?_
      refine WL.nil (WN.blk ?_)
      refine WN.again (⟨n / 256, UInt8.ofNat (n % 256) :: s⟩ : Nat × List UInt8) (by show n / 256 < n; omega) ⟨rfl, rfl, trivial⟩ ⟨by show n / 256 ≤ m; omega, ?_, ?_, h3.drop 0⟩
      · show hi m = hi (n / 256) ++ (UInt8.ofNat (n % 256) :: s)
        rw [he, hi_s (n := n) (by omega), show UInt8.ofNat (n % 256) = UInt8.ofNat n from UInt8.toNat_inj.1 (by rw [UInt8.toNat_ofNat', UInt8.toNat_ofNat']; omega)]
        simp
      · show (UInt8.ofNat (n % 256) :: s).length ≤ _
        rw [he, hi_s (n := n) (by omega)]
        simp
  · try simp only [dt, df, nt, nf, ba, il, ie] at c2
    first
    | (exfalso; omega)
    | skip
      refine WC.exit (WX.thn (WX.cut (WX.hit (WN.thn (WC.seq ?_)))))
      refine WC.reg ?_
      refine WL.v (Runs.move rfl) rfl ?_
      refine WL.v (Runs.assign rfl) rfl ?_
      refine WL.nil (WN.thn (WC.ret ?_))
      obtain rfl : n = 0 := by omega
      refine ret1 rfl rfl ⟨?_, hL⟩
      rw [he, hi_0]; rfl
set_option maxRecDepth 100000 in
set_option maxHeartbeats 1000000 in
theorem rnum_no {W : World} {F : Snap} {cs : List Res} (w : World) (n : Int) (h : St W F cs w) (hn : ¬ mayN n) : Calls Try.prog 43 #[Vi n] w fun r w' => r = .returned (.string (bs (numB n))) ∧ St W F cs w'  := by
  refine enter (P := Try.prog) (args := [Vi n]) Try.func43 rfl rfl rfl ?_
  refine WC.seq (WC.reg ?_)
  refine WL.v (Runs.assign rfl) rfl ?_
  refine WL.nil (WN.thn (WC.seq (WC.seq ?_)))
  have hcase : n < 0 ∨ (0 ≤ n ∧ 1099511627776 < n) := by unfold mayN at hn; omega
  rcases hcase with hA | hB
  · skip
    refine WC.reg ?_
    refine WL.v (Runs.move rfl) rfl ?_
    refine WL.v (Runs.boolT (c := true) (Runs.lss rfl rfl) (by rw [decide_eq_true_eq]; omega)) rfl ?_
    refine WL.v (Runs.move rfl) rfl ?_
    refine WL.goff rfl rfl rfl rfl ?_
    refine WL.goff rfl rfl rfl rfl ?_
    refine WL.v (Runs.pick rfl rfl rfl) rfl ?_
    refine WL.nil (WN.thn ?_)
    refine WC.condT rfl (rfl) ?_
    refine WC.seq (WC.reg ?_)
    refine WL.v (Runs.assign rfl) rfl ?_
    refine WL.nil (WN.thn (WC.ret ?_))
    refine ret1 rfl rfl ⟨?_, h⟩
    rw [numB, if_neg hn]; rfl
  · skip
    refine WC.reg ?_
    refine WL.v (Runs.move rfl) rfl ?_
    refine WL.v (Runs.boolT (c := false) (Runs.lss rfl rfl) (by rw [decide_eq_false_iff_not]; omega)) rfl ?_
    refine WL.v (Runs.move rfl) rfl ?_
    refine WL.gon rfl rfl rfl ?_
    refine WL.v (Runs.move rfl) rfl ?_
    refine WL.gon rfl rfl rfl ?_
    refine WL.v (Runs.boolT (c := true) (Runs.gtr rfl rfl) (by rw [decide_eq_true_eq]; omega)) rfl ?_
    refine WL.v (Runs.pick rfl rfl rfl) rfl ?_
    refine WL.nil (WN.thn ?_)
    refine WC.condT rfl (rfl) ?_
    refine WC.seq (WC.reg ?_)
    refine WL.v (Runs.assign rfl) rfl ?_
    refine WL.nil (WN.thn (WC.ret ?_))
    refine ret1 rfl rfl ⟨?_, h⟩
    rw [numB, if_neg hn]; rfl
set_option maxRecDepth 100000 in
set_option maxHeartbeats 1000000 in
theorem rnum_y {W : World} {F : Snap} {cs : List Res} (w : World) (m : Nat) (h : St W F cs w) (hm : m ≤ 1099511627776) : Calls Try.prog 43 #[Vi (m : Int)] w fun r w' => r = .returned (.string (bs (numN m))) ∧ St W F cs w'  := by
  refine enter (P := Try.prog) (args := [Vi (m : Int)]) Try.func43 rfl rfl rfl ?_
  refine WC.seq (WC.reg ?_)
  refine WL.v (Runs.assign rfl) rfl ?_
  refine WL.nil (WN.thn (WC.seq (WC.seq (WC.reg ?_))))
  refine WL.v (Runs.move rfl) rfl ?_
  refine WL.v (Runs.boolT (c := false) (Runs.lss rfl rfl) (by rw [decide_eq_false_iff_not]; omega)) rfl ?_
  refine WL.v (Runs.move rfl) rfl ?_
  refine WL.gon rfl rfl rfl ?_
  refine WL.v (Runs.move rfl) rfl ?_
  refine WL.gon rfl rfl rfl ?_
  refine WL.v (Runs.boolT (c := false) (Runs.gtr rfl rfl) (by rw [decide_eq_false_iff_not]; omega)) rfl ?_
  refine WL.v (Runs.pick rfl rfl rfl) rfl ?_
  refine WL.nil (WN.thn ?_)
  refine WC.condF rfl (rfl) ?_
  refine WC.skip (WN.thn (WC.seq (WC.reg ?_)))
  refine WL.v (Runs.move rfl) rfl ?_
  refine WL.call can69 rfl rfl (high_c _ m h hm) ?_
  rintro _ w1 ⟨rfl, h1⟩
  refine ⟨_, rfl, ?_⟩
  refine WL.v (Runs.assign rfl) rfl ?_
  refine WL.nil (WN.thn (WC.seq (WC.reg ?_)))
  refine WL.v (Runs.move rfl) rfl ?_
  refine WL.v (Runs.intT (n := ((hi m).length : Int)) (Runs.slen Try.underlying9 rfl rfl) rfl) rfl ?_
  refine WL.v (Runs.ito8 Try.underlying3 Try.underlying5 (m := (hi m).length) rfl rfl) rfl ?_
  refine WL.lit (vs := (([UInt8.ofNat (hi m).length] : List UInt8)).map V8) h1 rfl Try.underlying112 inf5 rfl rfl rfl rfl rfl ?_
  intro lit15 w2 h2
  refine WL.v (Runs.valT (u := .string (bs [UInt8.ofNat (hi m).length])) (Runs.b2s Try.underlying112 Try.underlying5 Try.underlying9 rfl rfl (bs := [UInt8.ofNat (hi m).length]) (.inr ⟨_, rfl, fun j b hb => by rw [add_mk, Nat.zero_add]; exact h2.ocell (i := 0) rfl (one_el hb)⟩)) rfl) rfl ?_
  refine WL.v (Runs.move rfl) rfl ?_
  refine WL.v (Runs.lsadd (a := [UInt8.ofNat (hi m).length]) (b := hi m) rfl rfl (by have := hi_six hm; simp; omega)) rfl ?_
  refine WL.v (Runs.assign rfl) rfl ?_
  refine WL.nil (WN.thn (WC.ret ?_))
  exact ret1 rfl rfl ⟨rfl, h2.drop 0⟩
theorem rnum_c {W : World} {F : Snap} {cs : List Res} (w : World) (n : Int) (h : St W F cs w) : Calls Try.prog 43 #[Vi n] w fun r w' => r = .returned (.string (bs (numB n))) ∧ St W F cs w' := by
  by_cases hn : mayN n
  · have e : n = ((n.toNat : Nat) : Int) := by have := hn.1; omega
    have h2 := hn.2
    rw [numB, if_pos hn]
    have := rnum_y w n.toNat h (by omega)
    rwa [← e] at this
  · exact rnum_no w n h hn
set_option maxRecDepth 100000 in
set_option maxHeartbeats 1000000 in
theorem rlist_c {W : World} {F : Snap} {cs : List Res} (w : World) {A : Option Addr} {cap : Nat} {xs : List Int} (h : St W F cs w) (hR : RdS (Kd.one Vi) F A xs) (hn : xs.length ≤ 100000) : Calls Try.prog 44 #[.slice A xs.length cap] w fun r w' => r = .returned (.string (bs (listB xs))) ∧ St W F cs w'  := by
  refine enter (P := Try.prog) (args := [.slice A xs.length cap]) Try.func44 rfl rfl rfl ?_
  refine WC.seq (WC.reg ?_)
  refine WL.v (Runs.assign rfl) rfl ?_
  refine WL.nil (WN.thn (WC.seq (WC.seq (WC.reg ?_))))
  refine WL.v (Runs.move rfl) rfl ?_
  refine WL.v (Runs.llen Try.underlying22 rfl rfl) rfl ?_
  refine WL.v (Runs.gtr rfl rfl) rfl ?_
  refine WL.nil (WN.thn ?_)
  refine WC.cond rfl (fun c1 => ?_) (fun c1 => ?_)
  · try simp only [dt, df, nt, nf, ba, il, ie] at c1
    first
    | (exfalso; omega)
    | skip
      refine WC.seq (WC.reg ?_)
      refine WL.v (Runs.assign rfl) rfl ?_
      refine WL.nil (WN.thn (WC.ret ?_))
      refine ret1 rfl rfl ⟨?_, h⟩
      unfold listB
      rw [if_pos (by omega)]; rfl
  · try simp only [dt, df, nt, nf, ba, il, ie] at c1
    first
    | (exfalso; omega)
    | skip
      refine WC.skip (WN.thn (WC.seq (WC.reg ?_)))
      refine WL.v (Runs.move rfl) rfl ?_
      refine WL.v (Runs.llen Try.underlying22 rfl rfl) rfl ?_
      refine WL.call can43 rfl rfl (rnum_c _ _ h) ?_
      rintro _ w2 ⟨rfl, h2⟩
      refine ⟨_, rfl, ?_⟩
      refine WL.v (Runs.assign rfl) rfl ?_
      refine WL.nil (WN.thn (WC.seq (WC.seq (WC.reg ?_))))
      refine WL.v (Runs.assign rfl) rfl ?_
      refine WL.nil (WN.thn (WC.block ?_))
      refine WC.loop (σ := Nat) (fun q_ => [(0, .slice A xs.length cap), (3, .string (bs (numB (xs.length : Int) ++ (xs.take q_).flatMap numB))), (4, .int .i64 (q_ : Int))]) (fun q_ w => q_ ≤ xs.length ∧ (∀ j, j < q_ → mayN (xs.getD j 0)) ∧ St W F cs w) (fun q_ => xs.length - q_) (0) ⟨rfl, by simp; rfl, rfl, trivial⟩ (⟨by omega, fun j hj => absurd hj (Nat.not_lt_zero _), h2⟩) ?_
      rintro k w3 ⟨hk, hok, hL⟩
      try dsimp only at hk hok hL
      refine WC.sub (s := [(0, .slice A xs.length cap), (3, .string (bs (numB (xs.length : Int) ++ (xs.take k).flatMap numB))), (4, .int .i64 (k : Int))]) (by repeat (first | exact trivial | refine ⟨rfl, ?_⟩)) ?_
      have hfl := flat_len (xs.take k)
      rw [List.length_take] at hfl
      refine WC.seq (WC.seq (WC.reg ?_))
      refine WL.v (Runs.move rfl) rfl ?_
      refine WL.v (Runs.move rfl) rfl ?_
      refine WL.v (Runs.llen Try.underlying22 rfl rfl) rfl ?_
      refine WL.v (Runs.lss rfl rfl) rfl ?_
      refine WL.nil (WN.thn ?_)
      refine WC.cond rfl (fun c4 => ?_) (fun c4 => ?_)
      · try simp only [dt, df, nt, nf, ba, il, ie] at c4
        first
        | (exfalso; omega)
        | skip
          refine WC.skip (WN.thn (WC.seq (WC.block (WC.seq ?_))))
          obtain ⟨ad, rfl, hrd⟩ := rd1 hR (by omega)
          refine WC.reg ?_
          refine WL.v (Runs.move rfl) rfl ?_
          refine WL.v (Runs.move rfl) rfl ?_
          refine WL.v (Runs.lidxN Try.underlying22 inf3 rfl rfl (n := k) rfl (by omega)) rfl ?_
          refine WL.v (Runs.loadR (f := Vi) (0 : Int) hL hrd (n := k) (by omega) Try.underlying3 rfl rfl) rfl ?_
          refine WL.call can43 rfl rfl (rnum_c _ _ hL) ?_
          rintro _ w5 ⟨rfl, h5⟩
          refine ⟨_, rfl, ?_⟩
          refine WL.v (Runs.assign rfl) rfl ?_
          refine WL.nil (WN.thn (WC.seq (WC.seq ?_)))
          by_cases hmy : mayN (xs.getD k 0)
          · skip
            refine WC.reg ?_
            refine WL.v (Runs.move rfl) rfl ?_
            refine WL.v (Runs.boolT (c := false) (Runs.lseql (b := []) rfl rfl) (decide_eq_false (numB_ne hmy))) rfl ?_
            refine WL.nil (WN.thn ?_)
            refine WC.condF rfl (rfl) ?_
            refine WC.skip (WN.thn (WC.reg ?_))
            refine WL.v (Runs.move rfl) rfl ?_
            refine WL.v (Runs.move rfl) rfl ?_
            refine WL.v (Runs.lsadd rfl rfl (by have := numB_len (xs.length : Int); have := numB_len (xs.getD k 0); rw [List.length_append]; omega)) rfl ?_
            refine WL.v (Runs.assign rfl) rfl ?_
            refine WL.nil (WN.blk (WN.thn (WC.reg ?_)))
            refine WL.v (Runs.move rfl) rfl ?_
            refine WL.v (Runs.addn rfl rfl (by omega)) rfl ?_
            refine WL.v (Runs.assign rfl) rfl ?_
            refine WL.nil ?_
            refine WN.again (k + 1) (by show xs.length - (k + 1) < xs.length - k; omega) ⟨rfl, ?_, rfl, trivial⟩ ⟨by show k + 1 ≤ _; omega, fun j hj => ?_, h5⟩
            · show _ = some (Value.string (bs (numB (xs.length : Int) ++ (xs.take (k + 1)).flatMap numB)))
              rw [flat_take (by omega), ← List.append_assoc]
              rfl
            · by_cases e : j = k
              · subst e; exact hmy
              · exact hok j (by omega)
          · skip
            refine WC.reg ?_
            refine WL.v (Runs.move rfl) rfl ?_
            refine WL.v (Runs.boolT (c := true) (Runs.lseql (b := []) rfl rfl) (decide_eq_true (if_neg hmy))) rfl ?_
            refine WL.nil (WN.thn ?_)
            refine WC.condT rfl (rfl) ?_
            refine WC.seq (WC.reg ?_)
            refine WL.v (Runs.assign rfl) rfl ?_
            refine WL.nil (WN.thn (WC.ret ?_))
            refine ret1 rfl rfl ⟨?_, h5⟩
            unfold listB
            rw [if_neg (by omega), if_neg (fun hh => hmy (hh _ (by
              rw [List.getD_eq_getElem?_getD, List.getElem?_eq_getElem (by omega)]; exact List.getElem_mem _)))]; rfl
      · try simp only [dt, df, nt, nf, ba, il, ie] at c4
        first
        | (exfalso; omega)
        | skip
          refine WC.exit (WX.thn (WX.cut (WX.hit (WN.thn (WC.seq ?_)))))
          obtain rfl : k = xs.length := by omega
          rw [List.take_of_length_le (Nat.le_refl _)] at *
          refine WC.reg ?_
          refine WL.v (Runs.move rfl) rfl ?_
          refine WL.v (Runs.assign rfl) rfl ?_
          refine WL.nil (WN.thn (WC.ret ?_))
          have hall : okL xs := fun x hx => by
            obtain ⟨j, hj, e⟩ := List.getElem_of_mem hx
            have := hok j hj
            rwa [List.getD_eq_getElem?_getD, List.getElem?_eq_getElem hj, Option.getD_some, e] at this
          refine ret1 rfl rfl ⟨?_, hL⟩
          unfold listB
          rw [if_neg (by omega), if_pos hall]
end Wir
end Go.Proofs.Ythejglgnoingfaa
