/- Walks of the reference of chapter 02: lists; two lists are the same. -/
import Derived.Test.YthejglgnoingfaaMW16
namespace Go.Proofs.Ythejglgnoingfaa
open Go Go.RowKit B
set_option linter.unusedVariables false
set_option linter.unusedSimpArgs false
namespace Wir

theorem can37 : B.Can Try.prog 37 := ⟨_, Try.func37, by kernel_rfl, rfl⟩   -- (*roundhouse/roundhouseref02.Reader).Num
theorem can64 : B.Can Try.prog 64 := ⟨_, Try.func64, by kernel_rfl, rfl⟩   -- (*roundhouse/roundhouseref02.Reader).fail
theorem rdL_er {l : List UInt8} {p : Nat} {e m : Int} (h : (rdN l p e).2.2 ≠ 0) : rdL l p e m = ([], (rdN l p e).2.1, (rdN l p e).2.2) := by
  by_cases he : e = 0
  · subst he
    by_cases hr : rerr l p = 0
    · have hN : rdN l p 0 = (rval l p, rnx l p, 0) := by unfold rdN; rw [if_neg (by simp), if_pos hr]
      rw [hN] at h; exact absurd rfl h
    · have hN : rdN l p 0 = (0, p, rerr l p) := by unfold rdN; rw [if_neg (by simp), if_neg hr]
      have hc : cerr l p m = rerr l p := if_pos hr
      rw [hN]
      unfold rdL
      rw [if_neg (by simp), if_pos (by rw [hc]; exact hr), hc]
  · have hN : rdN l p e = (0, p, e) := by unfold rdN; rw [if_pos he]
    rw [hN]
    unfold rdL
    rw [if_pos he]
set_option maxRecDepth 100000 in
set_option maxHeartbeats 4000000 in
theorem qlist_c {W : World} {F : Snap} {cs : List Res} (w : World) {i rb : Nat} {p : Nat} {l : List UInt8} {e most : Int} (h : St W F cs w) (hi : cs[i]? = some [(rb, .cells #[.string (bs l), Vi p, Vi e] 82 (0, 0))]) (hl : l.length ≤ 100000) (hp : p ≤ l.length) : Calls Try.prog 38 #[.pointer (some ⟨rb, 0, none⟩), Vi most] w fun r w' => ∃ rr v, r = .returned v ∧ Row 3 Vi rr v (rdL l p e most).1 ∧ St W F (rr :: cs.set i [(rb, .cells #[.string (bs l), Vi ((rdL l p e most).2.1 : Nat), Vi (rdL l p e most).2.2] 82 (0, 0))]) w'  := by
  refine enter (P := Try.prog) (args := [.pointer (some ⟨rb, 0, none⟩), Vi most]) Try.func38 rfl rfl rfl ?_
  refine WC.seq (WC.reg ?_)
  refine WL.v (Runs.assign rfl) rfl ?_
  refine WL.nil (WN.thn (WC.seq (WC.reg ?_)))
  refine WL.v (Runs.move rfl) rfl ?_
  refine WL.v (Runs.nilCheckP rfl) rfl ?_
  refine WL.v (Runs.fld fld82_1 rfl) rfl ?_
  refine WL.v (Runs.load1 Try.underlying3 rfl rfl (h.ocell hi rfl)) rfl ?_
  refine WL.v (Runs.assign rfl) rfl ?_
  refine WL.nil (WN.thn (WC.seq (WC.reg ?_)))
  refine WL.v (Runs.move rfl) rfl ?_
  refine WL.call can37 rfl rfl (qnum_c _ h hi hl hp) ?_
  rintro _ w1 ⟨rfl, h1⟩
  refine ⟨_, rfl, ?_⟩
  have hi1 : (cs.set i [(rb, .cells #[.string (bs l), Vi ((rdN l p e).2.1 : Nat), Vi (rdN l p e).2.2] 82 (0, 0))])[i]? = some [(rb, .cells #[.string (bs l), Vi ((rdN l p e).2.1 : Nat), Vi (rdN l p e).2.2] 82 (0, 0))] := by rw [List.getElem?_set_self (List.getElem?_eq_some_iff.1 hi).1]
  have hpn := rdN_le (l := l) (p := p) e hp
  have hbn := rdN_bnd l p e
  refine WL.v (Runs.assign rfl) rfl ?_
  refine WL.nil (WN.thn (WC.seq (WC.seq ?_)))
  have hcase : (rdN l p e).2.2 ≠ 0 ∨ ((rdN l p e).2.2 = 0 ∧ most < (((rdN l p e).1 : Nat) : Int)) ∨ ((rdN l p e).2.2 = 0 ∧ (((rdN l p e).1 : Nat) : Int) ≤ most) := by omega
  rcases hcase with he | ⟨he, hg⟩ | ⟨he, hg⟩
  · skip
    refine WC.reg ?_
    refine WL.v (Runs.move rfl) rfl ?_
    refine WL.v (Runs.nilCheckP rfl) rfl ?_
    refine WL.v (Runs.fld fld82_2 rfl) rfl ?_
    refine WL.v (Runs.load1 Try.underlying26 rfl rfl (h1.ocell hi1 rfl)) rfl ?_
    refine WL.v (Runs.boolT (c := false) (Runs.eql rfl rfl) (decide_eq_false he)) rfl ?_
    refine WL.v (Runs.move rfl) rfl ?_
    refine WL.goff rfl rfl rfl rfl ?_
    refine WL.goff rfl rfl rfl rfl ?_
    refine WL.goff rfl rfl rfl rfl ?_
    refine WL.v (Runs.pick rfl rfl rfl) rfl ?_
    refine WL.nil (WN.thn ?_)
    refine WC.condF rfl (rfl) ?_
    refine WC.skip (WN.thn (WC.seq (WC.reg ?_)))
    refine WL.v (Runs.assign rfl) rfl ?_
    refine WL.nil (WN.thn (WC.seq (WC.seq (WC.reg ?_))))
    refine WL.v (Runs.assign rfl) rfl ?_
    refine WL.nil (WN.thn (WC.block ?_))
    obtain ⟨q0, e0, hS0, hq0, hinv0⟩ : ∃ (q0 : Nat) (e0 : Int), St W F (cs.set i [(rb, .cells #[.string (bs l), Vi q0, Vi e0] 82 (0, 0))]) w1 ∧ q0 ≤ l.length ∧ ((e0 = 0 ∧ ([] : List Int).length ≤ q0 ∧ rdL l p e most = rdn l ((rdN l p e).1 - 0) q0 []) ∨ (e0 ≠ 0 ∧ rdL l p e most = ([], q0, e0))) := by
      exact ⟨_, _, h1, rdN_le e hp, .inr ⟨he, rdL_er he⟩⟩
    refine WC.loop (σ := Nat × Nat × Int × List Int × Res × Value) (fun q_ => [(0, .pointer (some ⟨rb, 0, none⟩)), (6, .int .i64 ((rdN l p e).1 : Nat)), (7, q_.2.2.2.2.2), (8, .int .i64 (q_.1 : Int))]) (fun q_ w => q_.1 ≤ (rdN l p e).1 ∧ q_.2.1 ≤ l.length ∧ Row 3 Vi q_.2.2.2.2.1 q_.2.2.2.2.2 q_.2.2.2.1 ∧ St W F (q_.2.2.2.2.1 :: cs.set i [(rb, .cells #[.string (bs l), Vi (q_.2.1 : Nat), Vi q_.2.2.1] 82 (0, 0))]) w ∧ ((q_.2.2.1 = 0 ∧ (q_.2.2.2.1 : List Int).length ≤ q_.2.1 ∧ rdL l p e most = rdn l ((rdN l p e).1 - q_.1) q_.2.1 q_.2.2.2.1) ∨ (q_.2.2.1 ≠ 0 ∧ rdL l p e most = ([], q_.2.1, q_.2.2.1)))) (fun q_ => (rdN l p e).1 - q_.1) (⟨0, q0, e0, [], [], .slice none 0 0⟩) (by repeat (first | exact trivial | refine ⟨rfl, ?_⟩)) (⟨Nat.zero_le _, hq0, Row.nil _ _, hS0.nilRes, hinv0⟩) ?_
    rintro ⟨k, q, e2, acc, r, v⟩ w2 ⟨hk, hq, hro, hL, hinv⟩
    try dsimp only at hk hq hro hL hinv
    refine WC.sub (s := [(0, .pointer (some ⟨rb, 0, none⟩)), (6, .int .i64 ((rdN l p e).1 : Nat)), (7, v), (8, .int .i64 (k : Int))]) (by repeat (first | exact trivial | refine ⟨rfl, ?_⟩)) ?_
    obtain ⟨A, cap, rfl, hcap⟩ := hro.val
    have hq2 : (r :: cs.set i [(rb, .cells #[.string (bs l), Vi (q : Nat), Vi e2] 82 (0, 0))])[i + 1]? = some [(rb, .cells #[.string (bs l), Vi (q : Nat), Vi e2] 82 (0, 0))] := by show (cs.set i _)[i]? = _; rw [List.getElem?_set_self (List.getElem?_eq_some_iff.1 hi).1]
    refine WC.seq (WC.seq ?_)
    have hcase : k < (rdN l p e).1 ∨ (rdN l p e).1 ≤ k := by omega
    rcases hinv with ⟨he2, hn1, hrd⟩ | ⟨he2, hrd⟩
    all_goals rcases hcase with hkn | hkn
    · subst he2
      refine WC.reg ?_
      refine WL.v (Runs.move rfl) rfl ?_
      refine WL.v (Runs.move rfl) rfl ?_
      refine WL.v (Runs.boolT (c := true) (Runs.lss rfl rfl) (by rw [decide_eq_true_eq]; omega)) rfl ?_
      refine WL.v (Runs.move rfl) rfl ?_
      refine WL.gon rfl rfl rfl ?_
      refine WL.v (Runs.move rfl) rfl ?_
      refine WL.gon rfl rfl rfl ?_
      refine WL.v (Runs.nilCheckP rfl) rfl ?_
      refine WL.gon rfl rfl rfl ?_
      refine WL.v (Runs.fld fld82_2 rfl) rfl ?_
      refine WL.gon rfl rfl rfl ?_
      refine WL.v (Runs.load1 Try.underlying26 rfl rfl (hL.ocell (i := i + 1) hq2 rfl)) rfl ?_
      refine WL.gon rfl rfl rfl ?_
      refine WL.v (Runs.boolT (c := true) (Runs.eql rfl rfl) rfl) rfl ?_
      refine WL.v (Runs.pick rfl rfl rfl) rfl ?_
      refine WL.nil (WN.thn ?_)
      refine WC.condT rfl (rfl) ?_
      refine WC.skip (WN.thn (WC.seq (WC.block (WC.reg ?_))))
      refine WL.v (Runs.move rfl) rfl ?_
      refine WL.v (Runs.move rfl) rfl ?_
      refine WL.call can37 rfl rfl (qnum_c _ (i := i + 1) (p := q) (e := 0) hL hq2 hl hq) ?_
      rintro _ w3 ⟨rfl, h3⟩
      refine ⟨_, rfl, ?_⟩
      simp only [List.set_cons_succ, List.set_set] at h3
      have hq3 := rdN_le (l := l) 0 hq
      have hvb := rdN_bnd l q 0
      refine WL.lit (vs := (([(((rdN l q 0).1 : Nat) : Int)] : List Int)).map Vi) h3 rfl Try.underlying22 inf3 rfl rfl rfl rfl rfl ?_
      intro lit43 w4 h4
      refine WL.app (ys := ([(((rdN l q 0).1 : Nat) : Int)] : List Int)) 1 h4 rfl rfl rfl rfl Try.underlying22 Try.underlying22 (.inr ⟨_, rfl⟩) inf3 rfl hro (Src.lit h4 0 rfl rfl rfl) rfl rfl (by first | omega | (simp []; done) | (simp []; omega)) (by first | omega | (simp []; done) | (simp []; omega)) ?_
      intro r5 v5 w6 hr5 h6
      simp only [lz, ls] at h6
      replace h6 := h6.drop 0
      simp only [ez, es'] at h6
      refine WL.v (Runs.assign rfl) rfl ?_
      refine WL.nil (WN.blk (WN.thn (WC.reg ?_)))
      refine WL.v (Runs.move rfl) rfl ?_
      refine WL.v (Runs.addn rfl rfl (by omega)) rfl ?_
      refine WL.v (Runs.assign rfl) rfl ?_
      refine WL.nil ?_
      refine WN.again (⟨k + 1, (rdN l q 0).2.1, (rdN l q 0).2.2, acc ++ [(((rdN l q 0).1 : Nat) : Int)], r5, v5⟩ : Nat × Nat × Int × List Int × Res × Value) (by show (rdN l p e).1 - (k + 1) < (rdN l p e).1 - k; omega) ⟨rfl, rfl, rfl, rfl, trivial⟩ ⟨by show k + 1 ≤ _; omega, hq3, hr5, h6, ?_⟩
      show (((rdN l q 0).2.2 = 0 ∧ _ ∧ _ = rdn l ((rdN l p e).1 - (k + 1)) _ _) ∨ _)
      by_cases h7 : (rdN l q 0).2.2 = 0
      · have h8 := num_rdN h7
        refine .inl ⟨h7, ?_, ?_⟩
        · rw [h8.2.2]; show (acc ++ [_]).length ≤ rnx l q; rw [List.length_append]; show acc.length + 1 ≤ _; unfold rnx; omega
        rw [hrd, rdn_s h8.2.1 (by omega), h8.2.2, Nat.sub_sub]
      · refine .inr ⟨h7, ?_⟩
        have h8 : rerr l q ≠ 0 := fun h9 => h7 (by unfold rdN; rw [if_neg (by simp), if_pos h9])
        have h9 : rdN l q 0 = (0, q, rerr l q) := by unfold rdN; rw [if_neg (by simp), if_neg h8]
        rw [hrd, rdn_x h8 (by omega), h9]
    · subst he2
      refine WC.reg ?_
      refine WL.v (Runs.move rfl) rfl ?_
      refine WL.v (Runs.move rfl) rfl ?_
      refine WL.v (Runs.boolT (c := false) (Runs.lss rfl rfl) (by rw [decide_eq_false_iff_not]; omega)) rfl ?_
      refine WL.v (Runs.move rfl) rfl ?_
      refine WL.goff rfl rfl rfl rfl ?_
      refine WL.goff rfl rfl rfl rfl ?_
      refine WL.goff rfl rfl rfl rfl ?_
      refine WL.goff rfl rfl rfl rfl ?_
      refine WL.goff rfl rfl rfl rfl ?_
      refine WL.v (Runs.pick rfl rfl rfl) rfl ?_
      refine WL.nil (WN.thn ?_)
      refine WC.condF rfl (rfl) ?_
      refine WC.exit (WX.thn (WX.cut (WX.hit (WN.thn (WC.seq ?_)))))
      refine WC.seq (WC.reg ?_)
      refine WL.v (Runs.move rfl) rfl ?_
      refine WL.v (Runs.nilCheckP rfl) rfl ?_
      refine WL.v (Runs.fld fld82_2 rfl) rfl ?_
      refine WL.v (Runs.load1 Try.underlying26 rfl rfl (hL.ocell (i := i + 1) hq2 rfl)) rfl ?_
      refine WL.v (Runs.boolT (c := false) (Runs.neq rfl rfl) rfl) rfl ?_
      refine WL.nil (WN.thn ?_)
      refine WC.condF rfl (rfl) ?_
      refine WC.skip (WN.thn (WC.seq (WC.reg ?_)))
      refine WL.v (Runs.move rfl) rfl ?_
      refine WL.v (Runs.assign rfl) rfl ?_
      refine WL.nil (WN.thn (WC.ret ?_))
      obtain rfl : k = (rdN l p e).1 := by omega
      rw [Nat.sub_self] at hrd
      refine ret1 rfl rfl ⟨r, _, rfl, ?_, ?_⟩
      · rw [hrd]; exact hro
      · rw [hrd]; exact hL
    · skip
      refine WC.reg ?_
      refine WL.v (Runs.move rfl) rfl ?_
      refine WL.v (Runs.move rfl) rfl ?_
      refine WL.v (Runs.boolT (c := true) (Runs.lss rfl rfl) (by rw [decide_eq_true_eq]; omega)) rfl ?_
      refine WL.v (Runs.move rfl) rfl ?_
      refine WL.gon rfl rfl rfl ?_
      refine WL.v (Runs.move rfl) rfl ?_
      refine WL.gon rfl rfl rfl ?_
      refine WL.v (Runs.nilCheckP rfl) rfl ?_
      refine WL.gon rfl rfl rfl ?_
      refine WL.v (Runs.fld fld82_2 rfl) rfl ?_
      refine WL.gon rfl rfl rfl ?_
      refine WL.v (Runs.load1 Try.underlying26 rfl rfl (hL.ocell (i := i + 1) hq2 rfl)) rfl ?_
      refine WL.gon rfl rfl rfl ?_
      refine WL.v (Runs.boolT (c := false) (Runs.eql rfl rfl) (decide_eq_false he2)) rfl ?_
      refine WL.v (Runs.pick rfl rfl rfl) rfl ?_
      refine WL.nil (WN.thn ?_)
      refine WC.condF rfl (rfl) ?_
      refine WC.exit (WX.thn (WX.cut (WX.hit (WN.thn (WC.seq ?_)))))
      refine WC.seq (WC.reg ?_)
      refine WL.v (Runs.move rfl) rfl ?_
      refine WL.v (Runs.nilCheckP rfl) rfl ?_
      refine WL.v (Runs.fld fld82_2 rfl) rfl ?_
      refine WL.v (Runs.load1 Try.underlying26 rfl rfl (hL.ocell (i := i + 1) hq2 rfl)) rfl ?_
      refine WL.v (Runs.boolT (c := true) (Runs.neq rfl rfl) (by rw [decide_eq_false he2]; rfl)) rfl ?_
      refine WL.nil (WN.thn ?_)
      refine WC.condT rfl (rfl) ?_
      refine WC.seq (WC.reg ?_)
      refine WL.v (Runs.assign rfl) rfl ?_
      refine WL.nil (WN.thn (WC.ret ?_))
      refine ret1 rfl rfl ⟨[], _, rfl, ?_, ?_⟩
      · rw [hrd]; exact Row.nil _ _
      · rw [hrd]; exact (hL.drop 0).nilRes
    · skip
      refine WC.reg ?_
      refine WL.v (Runs.move rfl) rfl ?_
      refine WL.v (Runs.move rfl) rfl ?_
      refine WL.v (Runs.boolT (c := false) (Runs.lss rfl rfl) (by rw [decide_eq_false_iff_not]; omega)) rfl ?_
      refine WL.v (Runs.move rfl) rfl ?_
      refine WL.goff rfl rfl rfl rfl ?_
      refine WL.goff rfl rfl rfl rfl ?_
      refine WL.goff rfl rfl rfl rfl ?_
      refine WL.goff rfl rfl rfl rfl ?_
      refine WL.goff rfl rfl rfl rfl ?_
      refine WL.v (Runs.pick rfl rfl rfl) rfl ?_
      refine WL.nil (WN.thn ?_)
      refine WC.condF rfl (rfl) ?_
      refine WC.exit (WX.thn (WX.cut (WX.hit (WN.thn (WC.seq ?_)))))
      refine WC.seq (WC.reg ?_)
      refine WL.v (Runs.move rfl) rfl ?_
      refine WL.v (Runs.nilCheckP rfl) rfl ?_
      refine WL.v (Runs.fld fld82_2 rfl) rfl ?_
      refine WL.v (Runs.load1 Try.underlying26 rfl rfl (hL.ocell (i := i + 1) hq2 rfl)) rfl ?_
      refine WL.v (Runs.boolT (c := true) (Runs.neq rfl rfl) (by rw [decide_eq_false he2]; rfl)) rfl ?_
      refine WL.nil (WN.thn ?_)
      refine WC.condT rfl (rfl) ?_
      refine WC.seq (WC.reg ?_)
      refine WL.v (Runs.assign rfl) rfl ?_
      refine WL.nil (WN.thn (WC.ret ?_))
      refine ret1 rfl rfl ⟨[], _, rfl, ?_, ?_⟩
      · rw [hrd]; exact Row.nil _ _
      · rw [hrd]; exact (hL.drop 0).nilRes
  · have hok := num_rdN he
    have hg2 : most < ((rval l p : Nat) : Int) := by have := hg; rw [hok.2.2] at this; exact this
    refine WC.reg ?_
    refine WL.v (Runs.move rfl) rfl ?_
    refine WL.v (Runs.nilCheckP rfl) rfl ?_
    refine WL.v (Runs.fld fld82_2 rfl) rfl ?_
    refine WL.v (Runs.load1 Try.underlying26 rfl rfl (h1.ocell hi1 rfl)) rfl ?_
    refine WL.v (Runs.boolT (c := true) (Runs.eql rfl rfl) (decide_eq_true he)) rfl ?_
    refine WL.v (Runs.move rfl) rfl ?_
    refine WL.gon rfl rfl rfl ?_
    refine WL.v (Runs.move rfl) rfl ?_
    refine WL.gon rfl rfl rfl ?_
    refine WL.v (Runs.move rfl) rfl ?_
    refine WL.gon rfl rfl rfl ?_
    refine WL.v (Runs.boolT (c := true) (Runs.gtr rfl rfl) (by rw [decide_eq_true_eq]; exact hg)) rfl ?_
    refine WL.v (Runs.pick rfl rfl rfl) rfl ?_
    refine WL.nil (WN.thn ?_)
    refine WC.condT rfl (rfl) ?_
    refine WC.reg ?_
    refine WL.v (Runs.move rfl) rfl ?_
    refine WL.v (Runs.move rfl) rfl ?_
    refine WL.call can64 rfl rfl (fail_c _ p 3 h1 hi1) ?_
    rintro _ w7 ⟨rfl, h7⟩
    refine ⟨_, rfl, ?_⟩
    rw [List.set_set] at h7
    refine WL.nil (WN.thn (WC.seq (WC.reg ?_)))
    refine WL.v (Runs.assign rfl) rfl ?_
    refine WL.nil (WN.thn (WC.seq (WC.seq (WC.reg ?_))))
    refine WL.v (Runs.assign rfl) rfl ?_
    refine WL.nil (WN.thn (WC.block ?_))
    obtain ⟨q0, e0, hS0, hq0, hinv0⟩ : ∃ (q0 : Nat) (e0 : Int), St W F (cs.set i [(rb, .cells #[.string (bs l), Vi q0, Vi e0] 82 (0, 0))]) w7 ∧ q0 ≤ l.length ∧ ((e0 = 0 ∧ ([] : List Int).length ≤ q0 ∧ rdL l p e most = rdn l ((rdN l p e).1 - 0) q0 []) ∨ (e0 ≠ 0 ∧ rdL l p e most = ([], q0, e0))) := by
      have hc : cerr l p most = 3 := by unfold cerr; rw [if_neg (by rw [hok.2.1]; simp), if_pos (by omega)]
      refine ⟨p, 3, h7, hp, .inr ⟨by decide, ?_⟩⟩
      unfold rdL
      rw [if_neg (by rw [hok.1]; simp), if_pos (by rw [hc]; decide), hc]
    refine WC.loop (σ := Nat × Nat × Int × List Int × Res × Value) (fun q_ => [(0, .pointer (some ⟨rb, 0, none⟩)), (6, .int .i64 ((rdN l p e).1 : Nat)), (7, q_.2.2.2.2.2), (8, .int .i64 (q_.1 : Int))]) (fun q_ w => q_.1 ≤ (rdN l p e).1 ∧ q_.2.1 ≤ l.length ∧ Row 3 Vi q_.2.2.2.2.1 q_.2.2.2.2.2 q_.2.2.2.1 ∧ St W F (q_.2.2.2.2.1 :: cs.set i [(rb, .cells #[.string (bs l), Vi (q_.2.1 : Nat), Vi q_.2.2.1] 82 (0, 0))]) w ∧ ((q_.2.2.1 = 0 ∧ (q_.2.2.2.1 : List Int).length ≤ q_.2.1 ∧ rdL l p e most = rdn l ((rdN l p e).1 - q_.1) q_.2.1 q_.2.2.2.1) ∨ (q_.2.2.1 ≠ 0 ∧ rdL l p e most = ([], q_.2.1, q_.2.2.1)))) (fun q_ => (rdN l p e).1 - q_.1) (⟨0, q0, e0, [], [], .slice none 0 0⟩) (by repeat (first | exact trivial | refine ⟨rfl, ?_⟩)) (⟨Nat.zero_le _, hq0, Row.nil _ _, hS0.nilRes, hinv0⟩) ?_
    rintro ⟨k, q, e2, acc, r, v⟩ w8 ⟨hk, hq, hro, hL, hinv⟩
    try dsimp only at hk hq hro hL hinv
    refine WC.sub (s := [(0, .pointer (some ⟨rb, 0, none⟩)), (6, .int .i64 ((rdN l p e).1 : Nat)), (7, v), (8, .int .i64 (k : Int))]) (by repeat (first | exact trivial | refine ⟨rfl, ?_⟩)) ?_
    obtain ⟨A, cap, rfl, hcap⟩ := hro.val
    have hq2 : (r :: cs.set i [(rb, .cells #[.string (bs l), Vi (q : Nat), Vi e2] 82 (0, 0))])[i + 1]? = some [(rb, .cells #[.string (bs l), Vi (q : Nat), Vi e2] 82 (0, 0))] := by show (cs.set i _)[i]? = _; rw [List.getElem?_set_self (List.getElem?_eq_some_iff.1 hi).1]
    refine WC.seq (WC.seq ?_)
    have hcase : k < (rdN l p e).1 ∨ (rdN l p e).1 ≤ k := by omega
    rcases hinv with ⟨he2, hn1, hrd⟩ | ⟨he2, hrd⟩
    all_goals rcases hcase with hkn | hkn
    · subst he2
      refine WC.reg ?_
      refine WL.v (Runs.move rfl) rfl ?_
      refine WL.v (Runs.move rfl) rfl ?_
      refine WL.v (Runs.boolT (c := true) (Runs.lss rfl rfl) (by rw [decide_eq_true_eq]; omega)) rfl ?_
      refine WL.v (Runs.move rfl) rfl ?_
      refine WL.gon rfl rfl rfl ?_
      refine WL.v (Runs.move rfl) rfl ?_
      refine WL.gon rfl rfl rfl ?_
      refine WL.v (Runs.nilCheckP rfl) rfl ?_
      refine WL.gon rfl rfl rfl ?_
      refine WL.v (Runs.fld fld82_2 rfl) rfl ?_
      refine WL.gon rfl rfl rfl ?_
      refine WL.v (Runs.load1 Try.underlying26 rfl rfl (hL.ocell (i := i + 1) hq2 rfl)) rfl ?_
      refine WL.gon rfl rfl rfl ?_
      refine WL.v (Runs.boolT (c := true) (Runs.eql rfl rfl) rfl) rfl ?_
      refine WL.v (Runs.pick rfl rfl rfl) rfl ?_
      refine WL.nil (WN.thn ?_)
      refine WC.condT rfl (rfl) ?_
      refine WC.skip (WN.thn (WC.seq (WC.block (WC.reg ?_))))
      refine WL.v (Runs.move rfl) rfl ?_
      refine WL.v (Runs.move rfl) rfl ?_
      refine WL.call can37 rfl rfl (qnum_c _ (i := i + 1) (p := q) (e := 0) hL hq2 hl hq) ?_
      rintro _ w9 ⟨rfl, h9⟩
      refine ⟨_, rfl, ?_⟩
      simp only [List.set_cons_succ, List.set_set] at h9
      have hq3 := rdN_le (l := l) 0 hq
      have hvb := rdN_bnd l q 0
      refine WL.lit (vs := (([(((rdN l q 0).1 : Nat) : Int)] : List Int)).map Vi) h9 rfl Try.underlying22 inf3 rfl rfl rfl rfl rfl ?_
      intro lit43 w10 h10
      refine WL.app (ys := ([(((rdN l q 0).1 : Nat) : Int)] : List Int)) 1 h10 rfl rfl rfl rfl Try.underlying22 Try.underlying22 (.inr ⟨_, rfl⟩) inf3 rfl hro (Src.lit h10 0 rfl rfl rfl) rfl rfl (by first | omega | (simp []; done) | (simp []; omega)) (by first | omega | (simp []; done) | (simp []; omega)) ?_
      intro r11 v11 w12 hr11 h12
      simp only [lz, ls] at h12
      replace h12 := h12.drop 0
      simp only [ez, es'] at h12
      refine WL.v (Runs.assign rfl) rfl ?_
      refine WL.nil (WN.blk (WN.thn (WC.reg ?_)))
      refine WL.v (Runs.move rfl) rfl ?_
      refine WL.v (Runs.addn rfl rfl (by omega)) rfl ?_
      refine WL.v (Runs.assign rfl) rfl ?_
      refine WL.nil ?_
      refine WN.again (⟨k + 1, (rdN l q 0).2.1, (rdN l q 0).2.2, acc ++ [(((rdN l q 0).1 : Nat) : Int)], r11, v11⟩ : Nat × Nat × Int × List Int × Res × Value) (by show (rdN l p e).1 - (k + 1) < (rdN l p e).1 - k; omega) ⟨rfl, rfl, rfl, rfl, trivial⟩ ⟨by show k + 1 ≤ _; omega, hq3, hr11, h12, ?_⟩
      show (((rdN l q 0).2.2 = 0 ∧ _ ∧ _ = rdn l ((rdN l p e).1 - (k + 1)) _ _) ∨ _)
      by_cases h7 : (rdN l q 0).2.2 = 0
      · have h8 := num_rdN h7
        refine .inl ⟨h7, ?_, ?_⟩
        · rw [h8.2.2]; show (acc ++ [_]).length ≤ rnx l q; rw [List.length_append]; show acc.length + 1 ≤ _; unfold rnx; omega
        rw [hrd, rdn_s h8.2.1 (by omega), h8.2.2, Nat.sub_sub]
      · refine .inr ⟨h7, ?_⟩
        have h8 : rerr l q ≠ 0 := fun h9 => h7 (by unfold rdN; rw [if_neg (by simp), if_pos h9])
        have h9 : rdN l q 0 = (0, q, rerr l q) := by unfold rdN; rw [if_neg (by simp), if_neg h8]
        rw [hrd, rdn_x h8 (by omega), h9]
    · subst he2
      refine WC.reg ?_
      refine WL.v (Runs.move rfl) rfl ?_
      refine WL.v (Runs.move rfl) rfl ?_
      refine WL.v (Runs.boolT (c := false) (Runs.lss rfl rfl) (by rw [decide_eq_false_iff_not]; omega)) rfl ?_
      refine WL.v (Runs.move rfl) rfl ?_
      refine WL.goff rfl rfl rfl rfl ?_
      refine WL.goff rfl rfl rfl rfl ?_
      refine WL.goff rfl rfl rfl rfl ?_
      refine WL.goff rfl rfl rfl rfl ?_
      refine WL.goff rfl rfl rfl rfl ?_
      refine WL.v (Runs.pick rfl rfl rfl) rfl ?_
      refine WL.nil (WN.thn ?_)
      refine WC.condF rfl (rfl) ?_
      refine WC.exit (WX.thn (WX.cut (WX.hit (WN.thn (WC.seq ?_)))))
      refine WC.seq (WC.reg ?_)
      refine WL.v (Runs.move rfl) rfl ?_
      refine WL.v (Runs.nilCheckP rfl) rfl ?_
      refine WL.v (Runs.fld fld82_2 rfl) rfl ?_
      refine WL.v (Runs.load1 Try.underlying26 rfl rfl (hL.ocell (i := i + 1) hq2 rfl)) rfl ?_
      refine WL.v (Runs.boolT (c := false) (Runs.neq rfl rfl) rfl) rfl ?_
      refine WL.nil (WN.thn ?_)
      refine WC.condF rfl (rfl) ?_
      refine WC.skip (WN.thn (WC.seq (WC.reg ?_)))
      refine WL.v (Runs.move rfl) rfl ?_
      refine WL.v (Runs.assign rfl) rfl ?_
      refine WL.nil (WN.thn (WC.ret ?_))
      obtain rfl : k = (rdN l p e).1 := by omega
      rw [Nat.sub_self] at hrd
      refine ret1 rfl rfl ⟨r, _, rfl, ?_, ?_⟩
      · rw [hrd]; exact hro
      · rw [hrd]; exact hL
    · skip
      refine WC.reg ?_
      refine WL.v (Runs.move rfl) rfl ?_
      refine WL.v (Runs.move rfl) rfl ?_
      refine WL.v (Runs.boolT (c := true) (Runs.lss rfl rfl) (by rw [decide_eq_true_eq]; omega)) rfl ?_
      refine WL.v (Runs.move rfl) rfl ?_
      refine WL.gon rfl rfl rfl ?_
      refine WL.v (Runs.move rfl) rfl ?_
      refine WL.gon rfl rfl rfl ?_
      refine WL.v (Runs.nilCheckP rfl) rfl ?_
      refine WL.gon rfl rfl rfl ?_
      refine WL.v (Runs.fld fld82_2 rfl) rfl ?_
      refine WL.gon rfl rfl rfl ?_
      refine WL.v (Runs.load1 Try.underlying26 rfl rfl (hL.ocell (i := i + 1) hq2 rfl)) rfl ?_
      refine WL.gon rfl rfl rfl ?_
      refine WL.v (Runs.boolT (c := false) (Runs.eql rfl rfl) (decide_eq_false he2)) rfl ?_
      refine WL.v (Runs.pick rfl rfl rfl) rfl ?_
      refine WL.nil (WN.thn ?_)
      refine WC.condF rfl (rfl) ?_
      refine WC.exit (WX.thn (WX.cut (WX.hit (WN.thn (WC.seq ?_)))))
      refine WC.seq (WC.reg ?_)
      refine WL.v (Runs.move rfl) rfl ?_
      refine WL.v (Runs.nilCheckP rfl) rfl ?_
      refine WL.v (Runs.fld fld82_2 rfl) rfl ?_
      refine WL.v (Runs.load1 Try.underlying26 rfl rfl (hL.ocell (i := i + 1) hq2 rfl)) rfl ?_
      refine WL.v (Runs.boolT (c := true) (Runs.neq rfl rfl) (by rw [decide_eq_false he2]; rfl)) rfl ?_
      refine WL.nil (WN.thn ?_)
      refine WC.condT rfl (rfl) ?_
      refine WC.seq (WC.reg ?_)
      refine WL.v (Runs.assign rfl) rfl ?_
      refine WL.nil (WN.thn (WC.ret ?_))
      refine ret1 rfl rfl ⟨[], _, rfl, ?_, ?_⟩
      · rw [hrd]; exact Row.nil _ _
      · rw [hrd]; exact (hL.drop 0).nilRes
    · skip
      refine WC.reg ?_
      refine WL.v (Runs.move rfl) rfl ?_
      refine WL.v (Runs.move rfl) rfl ?_
      refine WL.v (Runs.boolT (c := false) (Runs.lss rfl rfl) (by rw [decide_eq_false_iff_not]; omega)) rfl ?_
      refine WL.v (Runs.move rfl) rfl ?_
      refine WL.goff rfl rfl rfl rfl ?_
      refine WL.goff rfl rfl rfl rfl ?_
      refine WL.goff rfl rfl rfl rfl ?_
      refine WL.goff rfl rfl rfl rfl ?_
      refine WL.goff rfl rfl rfl rfl ?_
      refine WL.v (Runs.pick rfl rfl rfl) rfl ?_
      refine WL.nil (WN.thn ?_)
      refine WC.condF rfl (rfl) ?_
      refine WC.exit (WX.thn (WX.cut (WX.hit (WN.thn (WC.seq ?_)))))
      refine WC.seq (WC.reg ?_)
      refine WL.v (Runs.move rfl) rfl ?_
      refine WL.v (Runs.nilCheckP rfl) rfl ?_
      refine WL.v (Runs.fld fld82_2 rfl) rfl ?_
      refine WL.v (Runs.load1 Try.underlying26 rfl rfl (hL.ocell (i := i + 1) hq2 rfl)) rfl ?_
      refine WL.v (Runs.boolT (c := true) (Runs.neq rfl rfl) (by rw [decide_eq_false he2]; rfl)) rfl ?_
      refine WL.nil (WN.thn ?_)
      refine WC.condT rfl (rfl) ?_
      refine WC.seq (WC.reg ?_)
      refine WL.v (Runs.assign rfl) rfl ?_
      refine WL.nil (WN.thn (WC.ret ?_))
      refine ret1 rfl rfl ⟨[], _, rfl, ?_, ?_⟩
      · rw [hrd]; exact Row.nil _ _
      · rw [hrd]; exact (hL.drop 0).nilRes
  · have hok := num_rdN he
    have hg2 : ((rval l p : Nat) : Int) ≤ most := by have := hg; rw [hok.2.2] at this; exact this
    refine WC.reg ?_
    refine WL.v (Runs.move rfl) rfl ?_
    refine WL.v (Runs.nilCheckP rfl) rfl ?_
    refine WL.v (Runs.fld fld82_2 rfl) rfl ?_
    refine WL.v (Runs.load1 Try.underlying26 rfl rfl (h1.ocell hi1 rfl)) rfl ?_
    refine WL.v (Runs.boolT (c := true) (Runs.eql rfl rfl) (decide_eq_true he)) rfl ?_
    refine WL.v (Runs.move rfl) rfl ?_
    refine WL.gon rfl rfl rfl ?_
    refine WL.v (Runs.move rfl) rfl ?_
    refine WL.gon rfl rfl rfl ?_
    refine WL.v (Runs.move rfl) rfl ?_
    refine WL.gon rfl rfl rfl ?_
    refine WL.v (Runs.boolT (c := false) (Runs.gtr rfl rfl) (by rw [decide_eq_false_iff_not]; exact Int.not_lt.2 hg)) rfl ?_
    refine WL.v (Runs.pick rfl rfl rfl) rfl ?_
    refine WL.nil (WN.thn ?_)
    refine WC.condF rfl (rfl) ?_
    refine WC.skip (WN.thn (WC.seq (WC.reg ?_)))
    refine WL.v (Runs.assign rfl) rfl ?_
    refine WL.nil (WN.thn (WC.seq (WC.seq (WC.reg ?_))))
    refine WL.v (Runs.assign rfl) rfl ?_
    refine WL.nil (WN.thn (WC.block ?_))
    obtain ⟨q0, e0, hS0, hq0, hinv0⟩ : ∃ (q0 : Nat) (e0 : Int), St W F (cs.set i [(rb, .cells #[.string (bs l), Vi q0, Vi e0] 82 (0, 0))]) w1 ∧ q0 ≤ l.length ∧ ((e0 = 0 ∧ ([] : List Int).length ≤ q0 ∧ rdL l p e most = rdn l ((rdN l p e).1 - 0) q0 []) ∨ (e0 ≠ 0 ∧ rdL l p e most = ([], q0, e0))) := by
      have hc : cerr l p most = 0 := by unfold cerr; rw [if_neg (by rw [hok.2.1]; simp), if_neg (by omega)]
      have h9 := h1
      rw [hok.2.2] at h9
      refine ⟨_, _, h9, rnx_le hok.2.1, .inl ⟨rfl, Nat.zero_le _, ?_⟩⟩
      unfold rdL
      rw [if_neg (by rw [hok.1]; simp), if_neg (by rw [hc]; simp), hok.2.2]
      rfl
    refine WC.loop (σ := Nat × Nat × Int × List Int × Res × Value) (fun q_ => [(0, .pointer (some ⟨rb, 0, none⟩)), (6, .int .i64 ((rdN l p e).1 : Nat)), (7, q_.2.2.2.2.2), (8, .int .i64 (q_.1 : Int))]) (fun q_ w => q_.1 ≤ (rdN l p e).1 ∧ q_.2.1 ≤ l.length ∧ Row 3 Vi q_.2.2.2.2.1 q_.2.2.2.2.2 q_.2.2.2.1 ∧ St W F (q_.2.2.2.2.1 :: cs.set i [(rb, .cells #[.string (bs l), Vi (q_.2.1 : Nat), Vi q_.2.2.1] 82 (0, 0))]) w ∧ ((q_.2.2.1 = 0 ∧ (q_.2.2.2.1 : List Int).length ≤ q_.2.1 ∧ rdL l p e most = rdn l ((rdN l p e).1 - q_.1) q_.2.1 q_.2.2.2.1) ∨ (q_.2.2.1 ≠ 0 ∧ rdL l p e most = ([], q_.2.1, q_.2.2.1)))) (fun q_ => (rdN l p e).1 - q_.1) (⟨0, q0, e0, [], [], .slice none 0 0⟩) (by repeat (first | exact trivial | refine ⟨rfl, ?_⟩)) (⟨Nat.zero_le _, hq0, Row.nil _ _, hS0.nilRes, hinv0⟩) ?_
    rintro ⟨k, q, e2, acc, r, v⟩ w13 ⟨hk, hq, hro, hL, hinv⟩
    try dsimp only at hk hq hro hL hinv
    refine WC.sub (s := [(0, .pointer (some ⟨rb, 0, none⟩)), (6, .int .i64 ((rdN l p e).1 : Nat)), (7, v), (8, .int .i64 (k : Int))]) (by repeat (first | exact trivial | refine ⟨rfl, ?_⟩)) ?_
    obtain ⟨A, cap, rfl, hcap⟩ := hro.val
    have hq2 : (r :: cs.set i [(rb, .cells #[.string (bs l), Vi (q : Nat), Vi e2] 82 (0, 0))])[i + 1]? = some [(rb, .cells #[.string (bs l), Vi (q : Nat), Vi e2] 82 (0, 0))] := by show (cs.set i _)[i]? = _; rw [List.getElem?_set_self (List.getElem?_eq_some_iff.1 hi).1]
    refine WC.seq (WC.seq ?_)
    have hcase : k < (rdN l p e).1 ∨ (rdN l p e).1 ≤ k := by omega
    rcases hinv with ⟨he2, hn1, hrd⟩ | ⟨he2, hrd⟩
    all_goals rcases hcase with hkn | hkn
    · subst he2
      refine WC.reg ?_
      refine WL.v (Runs.move rfl) rfl ?_
      refine WL.v (Runs.move rfl) rfl ?_
      refine WL.v (Runs.boolT (c := true) (Runs.lss rfl rfl) (by rw [decide_eq_true_eq]; omega)) rfl ?_
      refine WL.v (Runs.move rfl) rfl ?_
      refine WL.gon rfl rfl rfl ?_
      refine WL.v (Runs.move rfl) rfl ?_
      refine WL.gon rfl rfl rfl ?_
      refine WL.v (Runs.nilCheckP rfl) rfl ?_
      refine WL.gon rfl rfl rfl ?_
      refine WL.v (Runs.fld fld82_2 rfl) rfl ?_
      refine WL.gon rfl rfl rfl ?_
      refine WL.v (Runs.load1 Try.underlying26 rfl rfl (hL.ocell (i := i + 1) hq2 rfl)) rfl ?_
      refine WL.gon rfl rfl rfl ?_
      refine WL.v (Runs.boolT (c := true) (Runs.eql rfl rfl) rfl) rfl ?_
      refine WL.v (Runs.pick rfl rfl rfl) rfl ?_
      refine WL.nil (WN.thn ?_)
      refine WC.condT rfl (rfl) ?_
      refine WC.skip (WN.thn (WC.seq (WC.block (WC.reg ?_))))
      refine WL.v (Runs.move rfl) rfl ?_
      refine WL.v (Runs.move rfl) rfl ?_
      refine WL.call can37 rfl rfl (qnum_c _ (i := i + 1) (p := q) (e := 0) hL hq2 hl hq) ?_
      rintro _ w14 ⟨rfl, h14⟩
      refine ⟨_, rfl, ?_⟩
      simp only [List.set_cons_succ, List.set_set] at h14
      have hq3 := rdN_le (l := l) 0 hq
      have hvb := rdN_bnd l q 0
      refine WL.lit (vs := (([(((rdN l q 0).1 : Nat) : Int)] : List Int)).map Vi) h14 rfl Try.underlying22 inf3 rfl rfl rfl rfl rfl ?_
      intro lit43 w15 h15
      refine WL.app (ys := ([(((rdN l q 0).1 : Nat) : Int)] : List Int)) 1 h15 rfl rfl rfl rfl Try.underlying22 Try.underlying22 (.inr ⟨_, rfl⟩) inf3 rfl hro (Src.lit h15 0 rfl rfl rfl) rfl rfl (by first | omega | (simp []; done) | (simp []; omega)) (by first | omega | (simp []; done) | (simp []; omega)) ?_
      intro r16 v16 w17 hr16 h17
      simp only [lz, ls] at h17
      replace h17 := h17.drop 0
      simp only [ez, es'] at h17
      refine WL.v (Runs.assign rfl) rfl ?_
      refine WL.nil (WN.blk (WN.thn (WC.reg ?_)))
      refine WL.v (Runs.move rfl) rfl ?_
      refine WL.v (Runs.addn rfl rfl (by omega)) rfl ?_
      refine WL.v (Runs.assign rfl) rfl ?_
      refine WL.nil ?_
      refine WN.again (⟨k + 1, (rdN l q 0).2.1, (rdN l q 0).2.2, acc ++ [(((rdN l q 0).1 : Nat) : Int)], r16, v16⟩ : Nat × Nat × Int × List Int × Res × Value) (by show (rdN l p e).1 - (k + 1) < (rdN l p e).1 - k; omega) ⟨rfl, rfl, rfl, rfl, trivial⟩ ⟨by show k + 1 ≤ _; omega, hq3, hr16, h17, ?_⟩
      show (((rdN l q 0).2.2 = 0 ∧ _ ∧ _ = rdn l ((rdN l p e).1 - (k + 1)) _ _) ∨ _)
      by_cases h7 : (rdN l q 0).2.2 = 0
      · have h8 := num_rdN h7
        refine .inl ⟨h7, ?_, ?_⟩
        · rw [h8.2.2]; show (acc ++ [_]).length ≤ rnx l q; rw [List.length_append]; show acc.length + 1 ≤ _; unfold rnx; omega
        rw [hrd, rdn_s h8.2.1 (by omega), h8.2.2, Nat.sub_sub]
      · refine .inr ⟨h7, ?_⟩
        have h8 : rerr l q ≠ 0 := fun h9 => h7 (by unfold rdN; rw [if_neg (by simp), if_pos h9])
        have h9 : rdN l q 0 = (0, q, rerr l q) := by unfold rdN; rw [if_neg (by simp), if_neg h8]
        rw [hrd, rdn_x h8 (by omega), h9]
    · subst he2
      refine WC.reg ?_
      refine WL.v (Runs.move rfl) rfl ?_
      refine WL.v (Runs.move rfl) rfl ?_
      refine WL.v (Runs.boolT (c := false) (Runs.lss rfl rfl) (by rw [decide_eq_false_iff_not]; omega)) rfl ?_
      refine WL.v (Runs.move rfl) rfl ?_
      refine WL.goff rfl rfl rfl rfl ?_
      refine WL.goff rfl rfl rfl rfl ?_
      refine WL.goff rfl rfl rfl rfl ?_
      refine WL.goff rfl rfl rfl rfl ?_
      refine WL.goff rfl rfl rfl rfl ?_
      refine WL.v (Runs.pick rfl rfl rfl) rfl ?_
      refine WL.nil (WN.thn ?_)
      refine WC.condF rfl (rfl) ?_
      refine WC.exit (WX.thn (WX.cut (WX.hit (WN.thn (WC.seq ?_)))))
      refine WC.seq (WC.reg ?_)
      refine WL.v (Runs.move rfl) rfl ?_
      refine WL.v (Runs.nilCheckP rfl) rfl ?_
      refine WL.v (Runs.fld fld82_2 rfl) rfl ?_
      refine WL.v (Runs.load1 Try.underlying26 rfl rfl (hL.ocell (i := i + 1) hq2 rfl)) rfl ?_
      refine WL.v (Runs.boolT (c := false) (Runs.neq rfl rfl) rfl) rfl ?_
      refine WL.nil (WN.thn ?_)
      refine WC.condF rfl (rfl) ?_
      refine WC.skip (WN.thn (WC.seq (WC.reg ?_)))
      refine WL.v (Runs.move rfl) rfl ?_
      refine WL.v (Runs.assign rfl) rfl ?_
      refine WL.nil (WN.thn (WC.ret ?_))
      obtain rfl : k = (rdN l p e).1 := by omega
      rw [Nat.sub_self] at hrd
      refine ret1 rfl rfl ⟨r, _, rfl, ?_, ?_⟩
      · rw [hrd]; exact hro
      · rw [hrd]; exact hL
    · skip
      refine WC.reg ?_
      refine WL.v (Runs.move rfl) rfl ?_
      refine WL.v (Runs.move rfl) rfl ?_
      refine WL.v (Runs.boolT (c := true) (Runs.lss rfl rfl) (by rw [decide_eq_true_eq]; omega)) rfl ?_
      refine WL.v (Runs.move rfl) rfl ?_
      refine WL.gon rfl rfl rfl ?_
      refine WL.v (Runs.move rfl) rfl ?_
      refine WL.gon rfl rfl rfl ?_
      refine WL.v (Runs.nilCheckP rfl) rfl ?_
      refine WL.gon rfl rfl rfl ?_
      refine WL.v (Runs.fld fld82_2 rfl) rfl ?_
      refine WL.gon rfl rfl rfl ?_
      refine WL.v (Runs.load1 Try.underlying26 rfl rfl (hL.ocell (i := i + 1) hq2 rfl)) rfl ?_
      refine WL.gon rfl rfl rfl ?_
      refine WL.v (Runs.boolT (c := false) (Runs.eql rfl rfl) (decide_eq_false he2)) rfl ?_
      refine WL.v (Runs.pick rfl rfl rfl) rfl ?_
      refine WL.nil (WN.thn ?_)
      refine WC.condF rfl (rfl) ?_
      refine WC.exit (WX.thn (WX.cut (WX.hit (WN.thn (WC.seq ?_)))))
      refine WC.seq (WC.reg ?_)
      refine WL.v (Runs.move rfl) rfl ?_
      refine WL.v (Runs.nilCheckP rfl) rfl ?_
      refine WL.v (Runs.fld fld82_2 rfl) rfl ?_
      refine WL.v (Runs.load1 Try.underlying26 rfl rfl (hL.ocell (i := i + 1) hq2 rfl)) rfl ?_
      refine WL.v (Runs.boolT (c := true) (Runs.neq rfl rfl) (by rw [decide_eq_false he2]; rfl)) rfl ?_
      refine WL.nil (WN.thn ?_)
      refine WC.condT rfl (rfl) ?_
      refine WC.seq (WC.reg ?_)
      refine WL.v (Runs.assign rfl) rfl ?_
      refine WL.nil (WN.thn (WC.ret ?_))
      refine ret1 rfl rfl ⟨[], _, rfl, ?_, ?_⟩
      · rw [hrd]; exact Row.nil _ _
      · rw [hrd]; exact (hL.drop 0).nilRes
    · skip
      refine WC.reg ?_
      refine WL.v (Runs.move rfl) rfl ?_
      refine WL.v (Runs.move rfl) rfl ?_
      refine WL.v (Runs.boolT (c := false) (Runs.lss rfl rfl) (by rw [decide_eq_false_iff_not]; omega)) rfl ?_
      refine WL.v (Runs.move rfl) rfl ?_
      refine WL.goff rfl rfl rfl rfl ?_
      refine WL.goff rfl rfl rfl rfl ?_
      refine WL.goff rfl rfl rfl rfl ?_
      refine WL.goff rfl rfl rfl rfl ?_
      refine WL.goff rfl rfl rfl rfl ?_
      refine WL.v (Runs.pick rfl rfl rfl) rfl ?_
      refine WL.nil (WN.thn ?_)
      refine WC.condF rfl (rfl) ?_
      refine WC.exit (WX.thn (WX.cut (WX.hit (WN.thn (WC.seq ?_)))))
      refine WC.seq (WC.reg ?_)
      refine WL.v (Runs.move rfl) rfl ?_
      refine WL.v (Runs.nilCheckP rfl) rfl ?_
      refine WL.v (Runs.fld fld82_2 rfl) rfl ?_
      refine WL.v (Runs.load1 Try.underlying26 rfl rfl (hL.ocell (i := i + 1) hq2 rfl)) rfl ?_
      refine WL.v (Runs.boolT (c := true) (Runs.neq rfl rfl) (by rw [decide_eq_false he2]; rfl)) rfl ?_
      refine WL.nil (WN.thn ?_)
      refine WC.condT rfl (rfl) ?_
      refine WC.seq (WC.reg ?_)
      refine WL.v (Runs.assign rfl) rfl ?_
      refine WL.nil (WN.thn (WC.ret ?_))
      refine ret1 rfl rfl ⟨[], _, rfl, ?_, ?_⟩
      · rw [hrd]; exact Row.nil _ _
      · rw [hrd]; exact (hL.drop 0).nilRes
set_option maxRecDepth 100000 in
set_option maxHeartbeats 1000000 in
theorem same_c {W : World} {F : Snap} {cs : List Res} (w : World) {A B : Option Addr} {cap cap2 : Nat} {xs : List Int} (h : St W F cs w) (hA : RdS (Kd.one Vi) F A xs) (hB : RdS (Kd.one Vi) F B xs) (hn : xs.length ≤ 100000) : Calls Try.prog 45 #[.slice A xs.length cap, .slice B xs.length cap2] w fun e w' => e = .returned (.bool true) ∧ St W F cs w'  := by
  refine enter (P := Try.prog) (args := [.slice A xs.length cap, .slice B xs.length cap2]) Try.func45 rfl rfl rfl ?_
  refine WC.seq (WC.reg ?_)
  refine WL.v (Runs.assign rfl) rfl ?_
  refine WL.nil (WN.thn (WC.seq (WC.seq (WC.reg ?_))))
  refine WL.v (Runs.move rfl) rfl ?_
  refine WL.v (Runs.llen Try.underlying22 rfl rfl) rfl ?_
  refine WL.v (Runs.move rfl) rfl ?_
  refine WL.v (Runs.llen Try.underlying22 rfl rfl) rfl ?_
  refine WL.v (Runs.boolT (c := false) (Runs.neq rfl rfl) (by simp)) rfl ?_
  refine WL.nil (WN.thn ?_)
  refine WC.condF rfl (rfl) ?_
  refine WC.skip (WN.thn (WC.seq (WC.seq (WC.reg ?_))))
  refine WL.v (Runs.assign rfl) rfl ?_
  refine WL.nil (WN.thn (WC.block ?_))
  refine WC.loop (σ := Nat) (fun q_ => [(0, .slice A xs.length cap), (1, .slice B xs.length cap2), (5, .int .i64 (q_ : Int))]) (fun q_ w => q_ ≤ xs.length ∧ St W F cs w) (fun q_ => xs.length - q_) (0) (by repeat (first | exact trivial | refine ⟨rfl, ?_⟩)) (⟨by omega, h⟩) ?_
  rintro i w1 ⟨hi, hL⟩
  try dsimp only at hi hL
  refine WC.sub (s := [(0, .slice A xs.length cap), (1, .slice B xs.length cap2), (5, .int .i64 (i : Int))]) (by repeat (first | exact trivial | refine ⟨rfl, ?_⟩)) ?_
  refine WC.seq (WC.seq (WC.reg ?_))
  refine WL.v (Runs.move rfl) rfl ?_
  refine WL.v (Runs.move rfl) rfl ?_
  refine WL.v (Runs.llen Try.underlying22 rfl rfl) rfl ?_
  refine WL.v (Runs.lss rfl rfl) rfl ?_
  refine WL.nil (WN.thn ?_)
  refine WC.cond rfl (fun c2 => ?_) (fun c2 => ?_)
  · try simp only [dt, df, nt, nf, ba, il, ie] at c2
    first
    | (exfalso; omega)
    | skip
      refine WC.skip (WN.thn (WC.seq (WC.block (WC.seq ?_))))
      obtain ⟨a1, rfl, hra⟩ := rd1 hA (by omega)
      obtain ⟨b1, rfl, hrb⟩ := rd1 hB (by omega)
      refine WC.qreg (C := fun w_ => St W F _ w_) mixed (by kernel_rfl) (hL.drew) ?_
      refine WQ.val (fun w_ hC_ => Runs.move rfl) rfl ?_
      refine WQ.val (fun w_ hC_ => Runs.move rfl) rfl ?_
      refine WQ.val (fun w_ hC_ => Runs.lidxN Try.underlying22 inf3 rfl rfl (n := i) rfl (by omega)) rfl ?_
      refine WQ.val (fun w_ hC_ => Runs.loadR (f := Vi) (0 : Int) hC_ hra (n := i) (by omega) Try.underlying3 rfl rfl) rfl ?_
      refine WQ.val (fun w_ hC_ => Runs.move rfl) rfl ?_
      refine WQ.val (fun w_ hC_ => Runs.move rfl) rfl ?_
      refine WQ.val (fun w_ hC_ => Runs.lidxN Try.underlying22 inf3 rfl rfl (n := i) rfl (by omega)) rfl ?_
      refine WQ.val (fun w_ hC_ => Runs.loadR (f := Vi) (0 : Int) hC_ hrb (n := i) (by omega) Try.underlying3 rfl rfl) rfl ?_
      refine WQ.val (fun w_ hC_ => Runs.boolT (c := false) (Runs.neq rfl rfl) (by simp)) rfl ?_
      refine WQ.fin ?_
      intro w3 h3
      refine WN.thn ?_
      refine WC.condF rfl (rfl) ?_
      refine WC.skip (WN.blk (WN.thn (WC.reg ?_)))
      refine WL.v (Runs.move rfl) rfl ?_
      refine WL.v (Runs.addn rfl rfl (by omega)) rfl ?_
      refine WL.v (Runs.assign rfl) rfl ?_
      refine WL.nil ?_
      exact WN.again (i + 1) (by omega) ⟨rfl, rfl, rfl, trivial⟩ ⟨by omega, h3⟩
  · try simp only [dt, df, nt, nf, ba, il, ie] at c2
    first
    | (exfalso; omega)
    | skip
      refine WC.exit (WX.thn (WX.cut (WX.hit (WN.thn (WC.seq ?_)))))
      refine WC.reg ?_
      refine WL.v (Runs.assign rfl) rfl ?_
      refine WL.nil (WN.thn (WC.ret ?_))
      exact ret1 rfl rfl ⟨rfl, hL⟩
end Wir
end Go.Proofs.Ythejglgnoingfaa
