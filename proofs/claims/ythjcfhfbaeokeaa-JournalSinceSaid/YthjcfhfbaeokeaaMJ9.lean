/- The reference of chapter 08: Read, Repair, Since, Same. -/
import Derived.Test.YthjcfhfbaeokeaaMBaseAE
import Derived.Test.YthjcfhfbaeokeaaMJ8
namespace Go.Proofs.Ythjcfhfbaeokeaa
open Go Go.RowKit B
set_option linter.unusedVariables false
set_option linter.unusedSimpArgs false
namespace Jo
open Wir (Vi textB numB rdT rdEnd wtext_c)

theorem can18 : B.Can Try.prog 18 := ⟨_, Try.func18, by kernel_rfl, rfl⟩   -- roundhouse/roundhouseref08.Read
theorem can33 : B.Can Try.prog 33 := ⟨_, Try.func33, by kernel_rfl, rfl⟩   -- roundhouse/roundhouseref08.first
theorem eqE (w : World) (x y : Ent) : (Op.equalIn 10000 45 (entA x) (entA y)).run Try.prog w = .ok (decide (x.1 = y.1) && (decide (x.2 = y.2) && true)) w := by
  refine eqA_of (d := 9999) Try.underlying45 (by kernel_rfl) ?_
  exact eqf_int (d := 9998) rfl Try.underlying3 rfl rfl (eqf_str (d := 9998) rfl Try.underlying9 rfl rfl eqf_nil)
theorem ent_at {F : Snap} {A : Option Addr} {xs : List Ent} {n : Nat} (hR : RdS KEn F A xs) (hn : n < xs.length) : ∃ ad, A = some ad ∧ ∀ j v, (entC (xs.getD n (0, [])))[j]? = some v → cellF F (ad.add (n * 2 + j)) = some v := by
  obtain ⟨ad, c, hA, hc, hr⟩ := hR.at_ (i := n) (x := xs.getD n (0, [])) (by rw [List.getD_eq_getElem?_getD, List.getElem?_eq_getElem hn]; rfl)
  have hc : c = entC (xs.getD n (0, [])) := hc
  subst hc
  exact ⟨ad, hA, hr⟩
/-- where the last snapshot stands; 0: there is none -/
def lastF : Nat → Nat → List Ent → Nat
  | _, a, [] => a
  | i, a, x :: xs => lastF (i + 1) (if x.1 = 1 then i else a) xs
def lastI (xs : List Ent) : Nat := lastF 0 0 xs
theorem lastF_snoc : ∀ (xs : List Ent) (i a : Nat) (x : Ent), lastF i a (xs ++ [x]) = if x.1 = 1 then i + xs.length else lastF i a xs
  | [], i, a, x => by show (if x.1 = 1 then i else a) = _; rfl
  | y :: xs, i, a, x => by
    show lastF (i + 1) _ (xs ++ [x]) = _
    rw [lastF_snoc xs, List.length_cons]
    congr 1
    omega
theorem lastI_snoc (xs : List Ent) (x : Ent) : lastI (xs ++ [x]) = if x.1 = 1 then xs.length else lastI xs := by
  unfold lastI
  rw [lastF_snoc, Nat.zero_add]
theorem last_since_ : ∀ (n : Nat) (xs : List Ent), xs.length = n → lastI xs ≤ xs.length ∧ xs.drop (lastI xs) = sinceL xs
  | 0, xs, hn => by
    obtain rfl := List.eq_nil_of_length_eq_zero hn
    exact ⟨Nat.le_refl _, rfl⟩
  | n + 1, xs, hn => by
    rcases List.eq_nil_or_concat xs with rfl | ⟨ys, x, rfl⟩
    · cases hn
    · have ih := last_since_ n ys (by simpa using hn)
      rw [List.concat_eq_append, lastI_snoc, sinceL_snoc]
      by_cases h : x.1 = 1
      · rw [if_pos h, if_pos h]
        exact ⟨by rw [List.length_append]; omega, by rw [List.drop_append, List.drop_eq_nil_of_le (Nat.le_refl _), Nat.sub_self]; rfl⟩
      · rw [if_neg h, if_neg h]
        exact ⟨by rw [List.length_append]; omega, by rw [List.drop_append_of_le_length ih.1, ih.2]⟩
theorem last_since (xs : List Ent) : lastI xs ≤ xs.length ∧ xs.drop (lastI xs) = sinceL xs := last_since_ _ xs rfl
theorem take_ent {xs : List Ent} {k : Nat} (h : k < xs.length) : xs.take (k + 1) = xs.take k ++ [xs.getD k (0, [])] := by
  rw [List.take_add_one, List.getElem?_eq_getElem h, List.getD_eq_getElem?_getD, List.getElem?_eq_getElem h]; rfl
theorem isSome_no {α : Type} {o : Option α} (h : o.isSome = false) : o = none := by
  cases o with
  | none => rfl
  | some a => cases h
theorem readM_len (log : List UInt8) : ∀ {n q : Nat} {out : List Ent}, out.length ≤ q → (recsM log n q out).1.length ≤ (recsM log n q out).2
  | 0, q, out, h => h
  | n + 1, q, out, h => by
    rw [recsM]
    split
    · split
      · exact h
      · rename_i x hx
        have := recB_pos (first_pos hx).1
        exact readM_len log (by rw [List.length_append]; show out.length + 1 ≤ _; omega)
    · exact h
theorem readM_cnt (log : List UInt8) : (readM log).1.length ≤ log.length := Nat.le_trans (readM_len log (Nat.zero_le _)) (readM_le log)
set_option maxRecDepth 100000 in
set_option maxHeartbeats 4000000 in
theorem qread_c {W : World} {F : Snap} {cs : List Res} (w : World) (l : List UInt8) (h : St W F cs w) (hl : l.length ≤ 100000) : Calls Try.prog 18 #[.string (bs l)] w fun r w' => ∃ G A cap, Le F G ∧ r = .returned (.tuple #[.slice A (readM l).1.length cap, Vi ((readM l).2 : Nat)]) ∧ (readM l).1.length ≤ cap ∧ RdS KEn G A (readM l).1 ∧ St W G cs w'  := by
  refine enter (P := Try.prog) (args := [.string (bs l)]) Try.func18 rfl rfl rfl ?_
  refine WC.seq ?_
  refine WC.reg ?_
  refine WL.v (Runs.assign rfl) rfl ?_
  refine WL.v (Runs.assign rfl) rfl ?_
  refine WL.nil ?_
  refine WN.thn ?_
  refine WC.seq ?_
  refine WC.reg ?_
  refine WL.v (Runs.assign rfl) rfl ?_
  refine WL.nil ?_
  refine WN.thn ?_
  refine WC.seq ?_
  refine WC.reg ?_
  refine WL.v (Runs.assign rfl) rfl ?_
  refine WL.nil ?_
  refine WN.thn ?_
  refine WC.seq ?_
  refine WC.block ?_
  refine WC.loop (σ := Nat × Nat × List Ent × Res × Value) (fun q_ => [(0, .string (bs l)), (4, q_.2.2.2.2), (5, .int .i64 (q_.2.1 : Int))]) (fun q_ w => readM l = recsM l q_.1 q_.2.1 q_.2.2.1 ∧ l.length ≤ q_.2.1 + q_.1 ∧ q_.2.1 ≤ l.length ∧ q_.2.2.1.length ≤ q_.2.1 ∧ RowM 45 2 entC q_.2.2.2.1 q_.2.2.2.2 q_.2.2.1 ∧ St W F (q_.2.2.2.1 :: cs) w) (fun q_ => q_.1) (⟨l.length, 0, [], [], .slice none 0 0⟩) (by repeat (first | exact trivial | refine ⟨rfl, ?_⟩)) (⟨rfl, by omega, Nat.zero_le _, Nat.zero_le _, RowM.nil _ _ _, h.nilRes⟩) ?_
  rintro ⟨n, q, out, r, v⟩ w1 ⟨hrd, hn, hq, hlen, hro, hL⟩
  try dsimp only at hrd hn hq hlen hro hL
  refine WC.sub (s := [(0, .string (bs l)), (4, v), (5, .int .i64 (q : Int))]) (by repeat (first | exact trivial | refine ⟨rfl, ?_⟩)) ?_
  obtain ⟨B, capr, rfl, hcap⟩ := hro.val
  refine WC.seq ?_
  refine WC.seq ?_
  refine WC.reg ?_
  refine WL.v (Runs.move rfl) rfl ?_
  refine WL.v (Runs.move rfl) rfl ?_
  refine WL.v (Runs.intT (n := (l.length : Int)) (Runs.slen Try.underlying9 rfl rfl) rfl) rfl ?_
  refine WL.v (Runs.lss rfl rfl) rfl ?_
  refine WL.nil ?_
  refine WN.thn ?_
  refine WC.cond rfl (fun c2 => ?_) (fun c2 => ?_)
  · try simp only [decide_eq_true_eq, decide_eq_false_iff_not, Bool.not_eq_true', Bool.not_eq_false', Bool.and_eq_true, Int.not_lt, Int.not_le] at c2
    first
    | (exfalso; omega)
    | skip
      refine WC.skip ?_
      refine WN.thn ?_
      refine WC.block ?_
      refine WC.seq ?_
      refine WC.reg ?_
      refine WL.v (Runs.move rfl) rfl ?_
      refine WL.v (Runs.move rfl) rfl ?_
      refine WL.v (Runs.valT (u := .string (bs (l.drop q))) (Runs.lssl_lo Try.underlying9 rfl rfl (n := q) rfl (by omega)) rfl) rfl ?_
      refine WL.call can33 rfl rfl (qfirst_c _ (l.drop q) hL (by rw [List.length_drop]; omega)) ?_
      rintro _ w3 ⟨x, n9, rfl, hx9, h3⟩
      refine ⟨_, rfl, ?_⟩
      refine WL.v (Runs.move rfl) rfl ?_
      refine WL.v (Runs.extract rfl rfl) rfl ?_
      refine WL.v (Runs.extract rfl rfl) rfl ?_
      refine WL.v (Runs.extract rfl rfl) rfl ?_
      refine WL.alloc' rfl h3 inf45 ?_
      intro b6 w4 h4
      refine WL.storeAll h4 0 rfl rfl rfl inf45 rfl rfl rfl (Free.zero _) ?_
      intro  w5 h5
      try simp only [List.set_cons_zero, List.set_cons_succ, List.eraseIdx_cons_zero, List.eraseIdx_cons_succ] at h5
      refine WL.v (Runs.assign rfl) rfl ?_
      refine WL.v (Runs.assign rfl) rfl ?_
      refine WL.nil ?_
      refine WN.thn ?_
      refine WC.seq ?_
      refine WC.seq ?_
      refine WC.reg ?_
      refine WL.v (Runs.move rfl) rfl ?_
      refine WL.v (Runs.not rfl) rfl ?_
      refine WL.nil ?_
      refine WN.thn ?_
      refine WC.cond rfl (fun c6 => ?_) (fun c6 => ?_)
      · try simp only [decide_eq_true_eq, decide_eq_false_iff_not, Bool.not_eq_true', Bool.not_eq_false', Bool.and_eq_true, Int.not_lt, Int.not_le] at c6
        first
        | (exfalso; omega)
        | skip
          refine WC.seq ?_
          refine WC.reg ?_
          refine WL.v (Runs.move rfl) rfl ?_
          refine WL.v (Runs.move rfl) rfl ?_
          refine WL.v (Runs.assign rfl) rfl ?_
          refine WL.v (Runs.assign rfl) rfl ?_
          refine WL.nil ?_
          refine WN.thn ?_
          refine WC.ret ?_
          have e9 : readM l = (out, q) := hrd.trans (recsM_none (isSome_no (by simpa using c6)))
          refine ret2 rfl rfl rfl ?_
          rw [e9]
          obtain ⟨G2, h91, h92, h93⟩ := h5.freeze (i := 1) rfl
          exact ⟨G2, B, capr, h91, rfl, hcap, RowM.read (f := entC) (m := 2) (fun _ => rfl) hro rfl h92, h93.drop 0⟩
      · try simp only [decide_eq_true_eq, decide_eq_false_iff_not, Bool.not_eq_true', Bool.not_eq_false', Bool.and_eq_true, Int.not_lt, Int.not_le] at c6
        first
        | (exfalso; omega)
        | skip
          refine WC.skip ?_
          refine WN.thn ?_
          refine WC.seq ?_
          obtain ⟨y9, hy9⟩ := Option.isSome_iff_exists.1 (show (firstM (l.drop q)).isSome = true by simpa using c6)
          obtain ⟨rfl, hn9⟩ := hx9 y9 hy9
          have hpos := first_pos hy9
          have hp1 := recB_pos hpos.1
          have hst := recsM_some (out := out) hn (by omega) hy9
          refine WC.reg ?_
          refine WL.v (Runs.move rfl) rfl ?_
          refine WL.v (Runs.loadAll h5 0 rfl Try.underlying45 rfl inf45 rfl rfl) rfl ?_
          refine WL.buildSlice (vs := [entA x]) h5 rfl Try.underlying35 (inf45.elem rfl rfl) rfl rfl rfl (by decide) ?_
          intro lit27 w7 h7
          try simp only [List.set_cons_zero, List.set_cons_succ, List.eraseIdx_cons_zero, List.eraseIdx_cons_succ] at h7
          refine WL.appM (f := entC) (ys := [x]) 2 h7 rfl rfl rfl rfl Try.underlying35 Try.underlying35 (.inr ⟨_, rfl⟩) (inf45.elem rfl rfl) hro (Src.litM h7 0 rfl rfl rfl) rfl (by first | omega | (simp; done) | (simp; omega)) (by first | omega | (simp; done) | (simp; omega)) ?_
          intro r8 v8 w9 hr8 h9
          simp only [List.set_cons_zero, List.set_cons_succ] at h9
          replace h9 := h9.drop 0
          simp only [List.eraseIdx_cons_zero, List.eraseIdx_cons_succ] at h9
          obtain ⟨A8, cap8, rfl, hcap8⟩ := hr8.val
          refine WL.v (Runs.assign rfl) rfl ?_
          refine WL.nil ?_
          refine WN.thn ?_
          refine WC.reg ?_
          refine WL.v (Runs.move rfl) rfl ?_
          refine WL.v (Runs.move rfl) rfl ?_
          refine WL.v (Runs.intT (n := ((q + n9 : Nat) : Int)) (Runs.addn rfl rfl (by have := recB_len (k := x.1) (s := x.2); omega)) (by omega)) rfl ?_
          refine WL.v (Runs.assign rfl) rfl ?_
          refine WL.nil ?_
          refine WN.blk ?_
          have hlen2 : (recB x.1 x.2).length ≤ l.length - q := by have := hpos.2.2; rwa [List.length_drop] at this
          exact WN.again (⟨n - 1, q + n9, out ++ [x], _, _⟩ : Nat × Nat × List Ent × Res × Value) (by show n - 1 < n; omega) ⟨rfl, rfl, rfl, trivial⟩ ⟨by rw [hn9]; exact hrd.trans hst.2, by show l.length ≤ q + n9 + (n - 1); omega, by show q + n9 ≤ l.length; omega, by show (out ++ [x]).length ≤ q + n9; rw [List.length_append]; show out.length + 1 ≤ _; omega, hr8, h9.drop 0⟩
  · try simp only [decide_eq_true_eq, decide_eq_false_iff_not, Bool.not_eq_true', Bool.not_eq_false', Bool.and_eq_true, Int.not_lt, Int.not_le] at c2
    first
    | (exfalso; omega)
    | skip
      refine WC.exit ?_
      refine WX.thn ?_
      refine WX.cut ?_
      refine WX.hit ?_
      refine WN.thn ?_
      refine WC.seq ?_
      refine WC.reg ?_
      refine WL.v (Runs.move rfl) rfl ?_
      refine WL.v (Runs.move rfl) rfl ?_
      refine WL.v (Runs.assign rfl) rfl ?_
      refine WL.v (Runs.assign rfl) rfl ?_
      refine WL.nil ?_
      refine WN.thn ?_
      refine WC.ret ?_
      have e9 : readM l = (out, q) := hrd.trans (recsM_end (by omega))
      refine ret2 rfl rfl rfl ?_
      rw [e9]
      obtain ⟨G2, h91, h92, h93⟩ := hL.freeze (i := 0) rfl
      exact ⟨G2, B, capr, h91, rfl, hcap, RowM.read (f := entC) (m := 2) (fun _ => rfl) hro rfl h92, h93⟩
set_option maxRecDepth 100000 in
set_option maxHeartbeats 1000000 in
theorem qrepair_c {W : World} {F : Snap} {cs : List Res} (w : World) (l : List UInt8) (h : St W F cs w) (hl : l.length ≤ 100000) : Calls Try.prog 22 #[.string (bs l)] w fun r w' => ∃ G, Le F G ∧ r = .returned (.string (bs (l.take (readM l).2))) ∧ St W G cs w'  := by
  refine enter (P := Try.prog) (args := [.string (bs l)]) Try.func22 rfl rfl rfl ?_
  refine WC.seq ?_
  refine WC.reg ?_
  refine WL.v (Runs.assign rfl) rfl ?_
  refine WL.nil ?_
  refine WN.thn ?_
  refine WC.seq ?_
  refine WC.reg ?_
  refine WL.v (Runs.move rfl) rfl ?_
  refine WL.call can18 rfl rfl (qread_c _ l h hl) ?_
  rintro _ w1 ⟨G, A, cap, hG, rfl, hcap, hrd, h1⟩
  refine ⟨_, rfl, ?_⟩
  refine WL.v (Runs.move rfl) rfl ?_
  refine WL.v (Runs.extract rfl rfl) rfl ?_
  refine WL.v (Runs.extract rfl rfl) rfl ?_
  refine WL.v (Runs.assign rfl) rfl ?_
  refine WL.v (Runs.assign rfl) rfl ?_
  refine WL.nil ?_
  refine WN.thn ?_
  refine WC.seq ?_
  refine WC.reg ?_
  refine WL.v (Runs.move rfl) rfl ?_
  refine WL.v (Runs.move rfl) rfl ?_
  refine WL.v (Runs.lssl_hi Try.underlying9 rfl rfl (m := (readM l).2) rfl (readM_le l)) rfl ?_
  refine WL.v (Runs.assign rfl) rfl ?_
  refine WL.nil ?_
  refine WN.thn ?_
  refine WC.ret ?_
  exact ret1 rfl rfl ⟨G, hG, rfl, h1⟩
set_option maxRecDepth 100000 in
set_option maxHeartbeats 1000000 in
theorem qsince_c {W : World} {F : Snap} {cs : List Res} (w : World) (l : List UInt8) (h : St W F cs w) (hl : l.length ≤ 100000) : Calls Try.prog 24 #[.string (bs l)] w fun r w' => ∃ G A cap, Le F G ∧ r = .returned (.slice A (sinceL (readM l).1).length cap) ∧ RdS KEn G A (sinceL (readM l).1) ∧ St W G cs w'  := by
  refine enter (P := Try.prog) (args := [.string (bs l)]) Try.func24 rfl rfl rfl ?_
  refine WC.seq ?_
  refine WC.reg ?_
  refine WL.v (Runs.assign rfl) rfl ?_
  refine WL.nil ?_
  refine WN.thn ?_
  refine WC.seq ?_
  refine WC.reg ?_
  refine WL.v (Runs.move rfl) rfl ?_
  refine WL.call can18 rfl rfl (qread_c _ l h hl) ?_
  rintro _ w1 ⟨G, A4, cap4, hG, rfl, hcap4, hrd4, h1⟩
  refine ⟨_, rfl, ?_⟩
  refine WL.v (Runs.move rfl) rfl ?_
  refine WL.v (Runs.extract rfl rfl) rfl ?_
  refine WL.v (Runs.extract rfl rfl) rfl ?_
  refine WL.v (Runs.assign rfl) rfl ?_
  refine WL.v (Runs.assign rfl) rfl ?_
  refine WL.nil ?_
  refine WN.thn ?_
  refine WC.seq ?_
  refine WC.reg ?_
  refine WL.v (Runs.assign rfl) rfl ?_
  refine WL.nil ?_
  refine WN.thn ?_
  refine WC.seq ?_
  refine WC.seq ?_
  refine WC.reg ?_
  refine WL.v (Runs.assign rfl) rfl ?_
  refine WL.nil ?_
  refine WN.thn ?_
  refine WC.block ?_
  refine WC.loop (σ := Nat × Nat) (fun q_ => [(3, .slice A4 (readM l).1.length cap4), (5, .int .i64 (q_.2 : Int)), (6, .int .i64 (q_.1 : Int))]) (fun q_ w => q_.1 ≤ (readM l).1.length ∧ q_.2 = lastI ((readM l).1.take q_.1) ∧ St W G cs w) (fun q_ => (readM l).1.length - q_.1) (⟨0, 0⟩) (by repeat (first | exact trivial | refine ⟨rfl, ?_⟩)) (⟨Nat.zero_le _, rfl, h1⟩) ?_
  rintro ⟨i, p⟩ w2 ⟨hi, hp, hL⟩
  try dsimp only at hi hp hL
  refine WC.sub (s := [(3, .slice A4 (readM l).1.length cap4), (5, .int .i64 (p : Int)), (6, .int .i64 (i : Int))]) (by repeat (first | exact trivial | refine ⟨rfl, ?_⟩)) ?_
  refine WC.seq ?_
  refine WC.seq ?_
  have hcnt := readM_cnt l
  refine WC.reg ?_
  refine WL.v (Runs.move rfl) rfl ?_
  refine WL.v (Runs.move rfl) rfl ?_
  refine WL.v (Runs.intT (n := ((readM l).1.length : Int)) (Runs.llen Try.underlying35 rfl rfl) rfl) rfl ?_
  refine WL.v (Runs.lss rfl rfl) rfl ?_
  refine WL.nil ?_
  refine WN.thn ?_
  refine WC.cond rfl (fun c3 => ?_) (fun c3 => ?_)
  · try simp only [decide_eq_true_eq, decide_eq_false_iff_not, Bool.not_eq_true', Bool.not_eq_false', Bool.and_eq_true, Int.not_lt, Int.not_le] at c3
    first
    | (exfalso; omega)
    | skip
      refine WC.skip ?_
      refine WN.thn ?_
      refine WC.seq ?_
      refine WC.block ?_
      refine WC.seq ?_
      obtain ⟨a4, rfl, hen⟩ := ent_at hrd4 (n := i) (by omega)
      refine WC.reg ?_
      refine WL.v (Runs.move rfl) rfl ?_
      refine WL.v (Runs.move rfl) rfl ?_
      refine WL.v (Runs.lidxK Try.underlying35 inf45 rfl rfl (n := i) rfl (by omega)) rfl ?_
      refine WL.v (Runs.fld fld45_0 rfl) rfl ?_
      refine WL.v (Runs.load1 Try.underlying3 rfl rfl (by rw [add_add]; exact hL.cell (hen 0 _ rfl))) rfl ?_
      refine WL.v (Runs.eql rfl rfl) rfl ?_
      refine WL.nil ?_
      refine WN.thn ?_
      refine WC.cond rfl (fun c4 => ?_) (fun c4 => ?_)
      · try simp only [decide_eq_true_eq, decide_eq_false_iff_not, Bool.not_eq_true', Bool.not_eq_false', Bool.and_eq_true, Int.not_lt, Int.not_le] at c4
        first
        | (exfalso; omega)
        | skip
          refine WC.reg ?_
          refine WL.v (Runs.move rfl) rfl ?_
          refine WL.v (Runs.assign rfl) rfl ?_
          refine WL.nil ?_
          refine WN.blk ?_
          refine WN.thn ?_
          refine WC.reg ?_
          refine WL.v (Runs.move rfl) rfl ?_
          refine WL.v (Runs.addn rfl rfl (by omega)) rfl ?_
          refine WL.v (Runs.assign rfl) rfl ?_
          refine WL.nil ?_
          exact WN.again (⟨i + 1, i⟩ : Nat × Nat) (by show (readM l).1.length - (i + 1) < (readM l).1.length - i; omega) ⟨rfl, rfl, rfl, trivial⟩ ⟨by show i + 1 ≤ _; omega, (by
            show _ = lastI ((readM l).1.take (i + 1))
            rw [take_ent (by omega), lastI_snoc, if_pos c4, List.length_take, Nat.min_eq_left hi]), hL⟩
      · try simp only [decide_eq_true_eq, decide_eq_false_iff_not, Bool.not_eq_true', Bool.not_eq_false', Bool.and_eq_true, Int.not_lt, Int.not_le] at c4
        first
        | (exfalso; omega)
        | skip
          refine WC.skip ?_
          refine WN.blk ?_
          refine WN.thn ?_
          refine WC.reg ?_
          refine WL.v (Runs.move rfl) rfl ?_
          refine WL.v (Runs.addn rfl rfl (by omega)) rfl ?_
          refine WL.v (Runs.assign rfl) rfl ?_
          refine WL.nil ?_
          exact WN.again (⟨i + 1, p⟩ : Nat × Nat) (by show (readM l).1.length - (i + 1) < (readM l).1.length - i; omega) ⟨rfl, rfl, rfl, trivial⟩ ⟨by show i + 1 ≤ _; omega, (by
            show _ = lastI ((readM l).1.take (i + 1))
            rw [take_ent (by omega), lastI_snoc, if_neg c4]; exact hp), hL⟩
  · try simp only [decide_eq_true_eq, decide_eq_false_iff_not, Bool.not_eq_true', Bool.not_eq_false', Bool.and_eq_true, Int.not_lt, Int.not_le] at c3
    first
    | (exfalso; omega)
    | skip
      refine WC.exit ?_
      refine WX.thn ?_
      refine WX.cut ?_
      refine WX.hit ?_
      refine WN.thn ?_
      refine WC.seq ?_
      have hls := last_since (readM l).1
      have hii : i = (readM l).1.length := by omega
      subst hii
      rw [List.take_of_length_le (Nat.le_refl _)] at hp
      refine WC.reg ?_
      refine WL.v (Runs.move rfl) rfl ?_
      refine WL.v (Runs.move rfl) rfl ?_
      refine WL.v (Runs.lsl_lo Try.underlying35 inf45 rfl rfl (n := (lastI (readM l).1)) (by omega) hls.1) rfl ?_
      refine WL.v (Runs.assign rfl) rfl ?_
      refine WL.nil ?_
      refine WN.thn ?_
      refine WC.ret ?_
      have hdr := hrd4.drop (lastI (readM l).1) (cap := cap4) (fun e => by omega)
      rw [hls.2] at hdr
      refine ret1 rfl rfl ⟨G, _, cap4 - lastI (readM l).1, hG, ?_, hdr, hL⟩
      rw [← hls.2, List.length_drop]
      rfl
end Jo
end Go.Proofs.Ythjcfhfbaeokeaa
