/- Walks of package wire: lists and messages as bytes. -/
import Derived.Test.YtfiknofmniiehaaW7
namespace Go.Proofs.Ytfiknofmniiehaa
open Go Go.RowKit B
set_option linter.unusedVariables false
set_option linter.unusedSimpArgs false
namespace Wir

theorem inf24 : Inf Try.prog 24 (.agg #[.int .i64 0, .int .i64 0, .int .i64 0, .int .i64 0, .int .i64 0, .int .i64 0, .int .i64 0, .string ⟨#[]⟩]) 8 72 := by unfold Inf; kernel_rfl
theorem can12 : B.Can Try.prog 12 := ⟨_, Try.func12, by kernel_rfl, rfl⟩   -- roundhouse/wire.Text
theorem can32 : B.Can Try.prog 32 := ⟨_, Try.func32, by kernel_rfl, rfl⟩   -- (*strings.Builder).WriteString
theorem can33 : B.Can Try.prog 33 := ⟨_, Try.func33, by kernel_rfl, rfl⟩   -- (*strings.Builder).String
theorem can34 : B.Can Try.prog 34 := ⟨_, Try.func34, by kernel_rfl, rfl⟩   -- roundhouse/wire.message
def okL (xs : List Int) : Prop := ∀ x ∈ xs, mayN x
instance (xs : List Int) : Decidable (okL xs) := inferInstanceAs (Decidable (∀ x ∈ xs, mayN x))
def listB (xs : List Int) : List UInt8 := if 4096 < xs.length then [] else if okL xs then numB (xs.length : Int) ++ xs.flatMap numB else []
theorem flat_len (xs : List Int) : (xs.flatMap numB).length ≤ 7 * xs.length := by
  induction xs with
  | nil => simp
  | cons x xs ih => have := numB_len x; rw [List.flatMap_cons, List.length_append, List.length_cons]; omega
theorem flat_take {xs : List Int} {k : Nat} (h : k < xs.length) : (xs.take (k + 1)).flatMap numB = (xs.take k).flatMap numB ++ numB (xs.getD k 0) := by
  have e : xs.take (k + 1) = xs.take k ++ [xs.getD k 0] := by
    rw [List.take_add_one, List.getElem?_eq_getElem h, List.getD_eq_getElem?_getD, List.getElem?_eq_getElem h]; rfl
  rw [e, List.flatMap_append]
  simp
theorem numB_ne {n : Int} (h : mayN n) : numB n ≠ [] := by
  unfold numB numN
  rw [if_pos h]
  simp
def numsM (m : M) : List Int := [m.k, m.f + 1, m.t + 1, m.j, m.ep, m.st, m.ar]
def encB (m : M) : List UInt8 := if mayM m then (numsM m).flatMap numB ++ textB m.tx else []
theorem nums_at (m : M) {k : Nat} (hk : k < 7) : (#[Vi m.k, Vi (m.f + 1), Vi (m.t + 1), Vi m.j, Vi m.ep, Vi m.st, Vi m.ar])[k]? = some (Vi ((numsM m).getD k 0)) := by
  have : k = 0 ∨ k = 1 ∨ k = 2 ∨ k = 3 ∨ k = 4 ∨ k = 5 ∨ k = 6 := by omega
  rcases this with rfl | rfl | rfl | rfl | rfl | rfl | rfl <;> rfl
theorem text_len {l : List UInt8} (h : l.length ≤ 100000) : (textB l).length ≤ 200000 := by
  unfold textB
  split
  · simp
  · have := numB_len (l.length : Int)
    rw [List.length_append]; omega
set_option maxRecDepth 100000 in
set_option maxHeartbeats 1000000 in
theorem wlist_c {W : World} {F : Snap} {cs : List Res} (w : World) {A : Option Addr} {cap : Nat} {xs : List Int} (h : St W F cs w) (hR : RdS (Kd.one Vi) F A xs) (hn : xs.length ≤ 100000) : Calls Try.prog 14 #[.slice A xs.length cap] w fun r w' => r = .returned (.string (bs (listB xs))) ∧ St W F cs w'  := by
  refine enter (P := Try.prog) (args := [.slice A xs.length cap]) Try.func14 rfl rfl rfl ?_
  refine WC.seq ?_
  refine WC.reg ?_
  refine WL.v (Runs.assign rfl) rfl ?_
  refine WL.nil ?_
  refine WN.thn ?_
  refine WC.seq ?_
  refine WC.seq ?_
  refine WC.reg ?_
  refine WL.v (Runs.move rfl) rfl ?_
  refine WL.v (Runs.llen Try.underlying22 rfl rfl) rfl ?_
  refine WL.v (Runs.gtr rfl rfl) rfl ?_
  refine WL.nil ?_
  refine WN.thn ?_
  refine WC.cond rfl (fun c1 => ?_) (fun c1 => ?_)
  · try simp only [decide_eq_true_eq, decide_eq_false_iff_not, Bool.not_eq_true', Bool.not_eq_false', Bool.and_eq_true, Int.not_lt, Int.not_le] at c1
    first
    | (exfalso; omega)
    | skip
      refine WC.seq ?_
      refine WC.reg ?_
      refine WL.v (Runs.assign rfl) rfl ?_
      refine WL.nil ?_
      refine WN.thn ?_
      refine WC.ret ?_
      refine ret1 rfl rfl ⟨?_, h⟩
      unfold listB
      rw [if_pos (by omega)]; rfl
  · try simp only [decide_eq_true_eq, decide_eq_false_iff_not, Bool.not_eq_true', Bool.not_eq_false', Bool.and_eq_true, Int.not_lt, Int.not_le] at c1
    first
    | (exfalso; omega)
    | skip
      refine WC.skip ?_
      refine WN.thn ?_
      refine WC.seq ?_
      refine WC.reg ?_
      refine WL.alloc' rfl h inf53 ?_
      intro b3 w2 h2
      refine WL.nil ?_
      refine WN.thn ?_
      refine WC.seq ?_
      have hB0 : St W F ([(b3, .cells #[.pointer none, .slice none 0 0] 53 (0, 0))] :: [] :: cs) w2 := (h2.nilRes).perm (List.Perm.swap _ _ _)
      refine WC.reg ?_
      refine WL.v (Runs.move rfl) rfl ?_
      refine WL.v (Runs.llen Try.underlying22 rfl rfl) rfl ?_
      refine WL.call can10 rfl rfl (wnum_c _ _ hB0) ?_
      rintro _ w3 ⟨rfl, h3⟩
      refine ⟨_, rfl, ?_⟩
      refine WL.call can32 rfl rfl (wstr_c _ _ h3 (.inl rfl) (Row.nil _ _) (by have := numB_len (xs.length : Int); simp; omega)) ?_
      rintro _ w4 ⟨r1, v1, rfl, hr1, h4⟩
      refine ⟨_, rfl, ?_⟩
      rw [List.nil_append] at hr1
      refine WL.nil ?_
      refine WN.thn ?_
      refine WC.seq ?_
      refine WC.seq ?_
      refine WC.reg ?_
      refine WL.v (Runs.move rfl) rfl ?_
      refine WL.v (Runs.llen Try.underlying22 rfl rfl) rfl ?_
      refine WL.v (Runs.move rfl) rfl ?_
      refine WL.nil ?_
      refine WN.thn ?_
      refine WC.block ?_
      refine WC.loop (σ := Nat × Res × Value) (fun q_ => [(3, .pointer (some ⟨b3, 0, none⟩)), (13, .slice A xs.length cap), (14, .int .i64 (xs.length : Int)), (15, .int .i64 (q_.1 : Int))]) (fun q_ w => q_.1 ≤ xs.length ∧ (∀ j, j < q_.1 → mayN (xs.getD j 0)) ∧ Row 5 V8 q_.2.1 q_.2.2 (numB (xs.length : Int) ++ (xs.take q_.1).flatMap numB) ∧ St W F ([(b3, .cells #[.pointer (some ⟨b3, 0, none⟩), q_.2.2] 53 (0, 0))] :: q_.2.1 :: cs) w) (fun q_ => xs.length - q_.1) (⟨0, r1, v1⟩) (by repeat (first | exact trivial | refine ⟨rfl, ?_⟩)) (⟨by omega, fun j hj => absurd hj (Nat.not_lt_zero _), by simpa using hr1, h4⟩) ?_
      rintro ⟨k, r, v⟩ w5 ⟨hk, hok, hro, hL⟩
      try dsimp only at hk hok hro hL
      refine WC.sub (s := [(3, .pointer (some ⟨b3, 0, none⟩)), (13, .slice A xs.length cap), (14, .int .i64 (xs.length : Int)), (15, .int .i64 (k : Int))]) (by repeat (first | exact trivial | refine ⟨rfl, ?_⟩)) ?_
      have hfl := flat_len (xs.take k)
      rw [List.length_take] at hfl
      refine WC.seq ?_
      refine WC.reg ?_
      refine WL.v (Runs.lss rfl rfl) rfl ?_
      refine WL.nil ?_
      refine WN.thn ?_
      refine WC.seq ?_
      refine WC.cond rfl (fun c6 => ?_) (fun c6 => ?_)
      · try simp only [decide_eq_true_eq, decide_eq_false_iff_not, Bool.not_eq_true', Bool.not_eq_false', Bool.and_eq_true, Int.not_lt, Int.not_le] at c6
        first
        | (exfalso; omega)
        | skip
          refine WC.skip ?_
          refine WN.thn ?_
          refine WC.seq ?_
          refine WC.block ?_
          refine WC.seq ?_
          obtain ⟨ad, rfl, hrd⟩ := rd1 hR (by omega)
          refine WC.reg ?_
          refine WL.v (Runs.lidxN Try.underlying22 inf3 rfl rfl (n := k) rfl (by omega)) rfl ?_
          refine WL.v (Runs.loadR (f := Vi) (0 : Int) hL hrd (n := k) (by omega) Try.underlying3 rfl rfl) rfl ?_
          refine WL.v (Runs.assign rfl) rfl ?_
          refine WL.nil ?_
          refine WN.thn ?_
          refine WC.seq ?_
          refine WC.seq ?_
          by_cases hmy : mayN (xs.getD k 0)
          · skip
            refine WC.reg ?_
            refine WL.v (Runs.move rfl) rfl ?_
            refine WL.call can30 rfl rfl (may_y _ _ hL hmy) ?_
            rintro _ w7 ⟨rfl, h7⟩
            refine ⟨_, rfl, ?_⟩
            refine WL.v (Runs.not rfl) rfl ?_
            refine WL.nil ?_
            refine WN.thn ?_
            refine WC.condF rfl (rfl) ?_
            refine WC.skip ?_
            refine WN.thn ?_
            refine WC.reg ?_
            refine WL.v (Runs.move rfl) rfl ?_
            refine WL.call can10 rfl rfl (wnum_c _ _ h7) ?_
            rintro _ w8 ⟨rfl, h8⟩
            refine ⟨_, rfl, ?_⟩
            refine WL.call can32 rfl rfl (wstr_c _ _ h8 (.inr rfl) hro (by have := numB_len (xs.length : Int); have := numB_len (xs.getD k 0); rw [List.length_append]; omega)) ?_
            rintro _ w9 ⟨r2, v2, rfl, hr2, h9⟩
            refine ⟨_, rfl, ?_⟩
            refine WL.nil ?_
            refine WN.blk ?_
            refine WN.thn ?_
            refine WC.reg ?_
            refine WL.v (Runs.addn rfl rfl (by omega)) rfl ?_
            refine WL.v (Runs.move rfl) rfl ?_
            refine WL.nil ?_
            refine WN.again (⟨k + 1, r2, v2⟩ : Nat × Res × Value) (by show xs.length - (k + 1) < xs.length - k; omega) ⟨rfl, rfl, rfl, rfl, trivial⟩ ⟨by show k + 1 ≤ _; omega, fun j hj => ?_, ?_, h9⟩
            · have hj : j < k + 1 := hj
              by_cases e : j = k
              · subst e; exact hmy
              · exact hok j (by omega)
            · show Row _ _ _ _ (_ ++ (xs.take (k + 1)).flatMap numB)
              rw [flat_take (by omega), ← List.append_assoc]
              exact hr2
          · skip
            refine WC.reg ?_
            refine WL.v (Runs.move rfl) rfl ?_
            refine WL.call can30 rfl rfl (may_n _ _ hL hmy) ?_
            rintro _ w10 ⟨rfl, h10⟩
            refine ⟨_, rfl, ?_⟩
            refine WL.v (Runs.not rfl) rfl ?_
            refine WL.nil ?_
            refine WN.thn ?_
            refine WC.condT rfl (rfl) ?_
            refine WC.seq ?_
            refine WC.reg ?_
            refine WL.v (Runs.assign rfl) rfl ?_
            refine WL.nil ?_
            refine WN.thn ?_
            refine WC.ret ?_
            refine ret1 rfl rfl ⟨?_, (h10.drop 0).drop 0⟩
            unfold listB
            rw [if_neg (by omega), if_neg (fun hh => hmy (hh _ (by
              rw [List.getD_eq_getElem?_getD, List.getElem?_eq_getElem (by omega)]; exact List.getElem_mem _)))]; rfl
      · try simp only [decide_eq_true_eq, decide_eq_false_iff_not, Bool.not_eq_true', Bool.not_eq_false', Bool.and_eq_true, Int.not_lt, Int.not_le] at c6
        first
        | (exfalso; omega)
        | skip
          refine WC.exit ?_
          refine WX.thn ?_
          refine WX.cut ?_
          refine WX.hit ?_
          refine WN.thn ?_
          refine WC.seq ?_
          obtain rfl : k = xs.length := by omega
          rw [List.take_of_length_le (Nat.le_refl _)] at *
          refine WC.reg ?_
          refine WL.call can33 rfl rfl (str_c _ hL hro (fun e => numB_ne (n := (xs.length : Int)) ⟨by omega, by omega⟩ (List.append_eq_nil_iff.1 e).1) (by have := numB_len (xs.length : Int); rw [List.length_append]; omega)) ?_
          rintro _ w11 ⟨rfl, h11⟩
          refine ⟨_, rfl, ?_⟩
          refine WL.v (Runs.assign rfl) rfl ?_
          refine WL.nil ?_
          refine WN.thn ?_
          refine WC.ret ?_
          have hall : okL xs := fun x hx => by
            obtain ⟨j, hj, e⟩ := List.getElem_of_mem hx
            have := hok j hj
            rwa [List.getD_eq_getElem?_getD, List.getElem?_eq_getElem hj, Option.getD_some, e] at this
          refine ret1 rfl rfl ⟨?_, h11⟩
          unfold listB
          rw [if_neg (by omega), if_pos hall]
set_option maxRecDepth 100000 in
set_option maxHeartbeats 4000000 in
theorem enc_c {W : World} {F : Snap} {cs : List Res} (w : World) (m : M) (h : St W F cs w) (hl : m.tx.length ≤ 100000) : Calls Try.prog 16 #[m.val] w fun r w' => r = .returned (.string (bs (encB m))) ∧ St W F cs w'  := by
  refine enter (P := Try.prog) (args := [.agg #[Vi m.k, Vi m.f, Vi m.t, Vi m.j, Vi m.ep, Vi m.st, Vi m.ar, .string (bs m.tx)]]) Try.func16 rfl rfl rfl ?_
  refine WC.seq ?_
  refine WC.reg ?_
  refine WL.box rfl h rfl ?_
  intro b1 w1 h1
  refine WL.v (Runs.assign rfl) rfl ?_
  refine WL.nil ?_
  refine WN.thn ?_
  refine WC.seq ?_
  refine WC.seq ?_
  by_cases hmy : mayM m
  · skip
    refine WC.reg ?_
    refine WL.v (Runs.loadAll h1 0 rfl Try.underlying24 rfl inf24 rfl rfl) rfl ?_
    refine WL.call can34 rfl rfl (message_c _ m h1) ?_
    rintro _ w2 ⟨rfl, h2⟩
    refine ⟨_, rfl, ?_⟩
    refine WL.v (Runs.not rfl) rfl ?_
    refine WL.nil ?_
    refine WN.thn ?_
    refine WC.condF rfl ((by rw [decide_eq_true hmy]; rfl)) ?_
    refine WC.skip ?_
    refine WN.thn ?_
    refine WC.seq ?_
    refine WC.reg ?_
    refine WL.alloc' rfl h2 inf53 ?_
    intro b3 w3 h3
    refine WL.nil ?_
    refine WN.thn ?_
    refine WC.seq ?_
    refine WC.seq ?_
    have hB0 : St W F ([(b3, .cells #[.pointer none, .slice none 0 0] 53 (0, 0))] :: [] :: [(b1, .cells #[Vi m.k, Vi m.f, Vi m.t, Vi m.j, Vi m.ep, Vi m.st, Vi m.ar, .string (bs m.tx)] 24 (0, 0))] :: cs) w3 := (h3.nilRes).perm (List.Perm.swap _ _ _)
    have hmy2 := hmy
    obtain ⟨q0, q1, q2, q3, q4, q5, q6, q7, q8⟩ := hmy2
    refine WC.reg ?_
    refine WL.v (Runs.fld fld24_0 rfl) rfl ?_
    refine WL.v (Runs.load1 Try.underlying3 rfl rfl (hB0.ocell (i := 2) rfl rfl)) rfl ?_
    refine WL.v (Runs.fld fld24_1 rfl) rfl ?_
    refine WL.v (Runs.load1 Try.underlying3 rfl rfl (hB0.ocell (i := 2) rfl rfl)) rfl ?_
    refine WL.v (Runs.addn rfl rfl (by omega)) rfl ?_
    refine WL.v (Runs.fld fld24_2 rfl) rfl ?_
    refine WL.v (Runs.load1 Try.underlying3 rfl rfl (hB0.ocell (i := 2) rfl rfl)) rfl ?_
    refine WL.v (Runs.addn rfl rfl (by omega)) rfl ?_
    refine WL.v (Runs.fld fld24_3 rfl) rfl ?_
    refine WL.v (Runs.load1 Try.underlying3 rfl rfl (hB0.ocell (i := 2) rfl rfl)) rfl ?_
    refine WL.v (Runs.fld fld24_4 rfl) rfl ?_
    refine WL.v (Runs.load1 Try.underlying3 rfl rfl (hB0.ocell (i := 2) rfl rfl)) rfl ?_
    refine WL.v (Runs.fld fld24_5 rfl) rfl ?_
    refine WL.v (Runs.load1 Try.underlying3 rfl rfl (hB0.ocell (i := 2) rfl rfl)) rfl ?_
    refine WL.v (Runs.fld fld24_6 rfl) rfl ?_
    refine WL.v (Runs.load1 Try.underlying3 rfl rfl (hB0.ocell (i := 2) rfl rfl)) rfl ?_
    refine WL.v (Runs.build (vs := [(0, Vi m.k), (1, Vi (m.f + 1)), (2, Vi (m.t + 1)), (3, Vi m.j), (4, Vi m.ep), (5, Vi m.st), (6, Vi m.ar)]) (cells := #[Vi m.k, Vi (m.f + 1), Vi (m.t + 1), Vi m.j, Vi m.ep, Vi m.st, Vi m.ar]) rfl (by kernel_rfl)) rfl ?_
    refine WL.v (Runs.move rfl) rfl ?_
    refine WL.nil ?_
    refine WN.thn ?_
    refine WC.block ?_
    refine WC.loop (σ := Nat × Res × Value × Value) (fun q_ => [(1, .pointer (some ⟨b1, 0, none⟩)), (3, .pointer (some ⟨b3, 0, none⟩)), (25, .agg #[Vi m.k, Vi (m.f + 1), Vi (m.t + 1), Vi m.j, Vi m.ep, Vi m.st, Vi m.ar]), (26, .int .i64 (q_.1 : Int))]) (fun q_ w => q_.1 ≤ 7 ∧ (q_.2.2.2 = .pointer none ∨ q_.2.2.2 = .pointer (some ⟨b3, 0, none⟩)) ∧ Row 5 V8 q_.2.1 q_.2.2.1 (((numsM m).take q_.1).flatMap numB) ∧ St W F ([(b3, .cells #[q_.2.2.2, q_.2.2.1] 53 (0, 0))] :: q_.2.1 :: [(b1, .cells #[Vi m.k, Vi m.f, Vi m.t, Vi m.j, Vi m.ep, Vi m.st, Vi m.ar, .string (bs m.tx)] 24 (0, 0))] :: cs) w) (fun q_ => 7 - q_.1) (⟨0, [], .slice none 0 0, .pointer none⟩) (by repeat (first | exact trivial | refine ⟨rfl, ?_⟩)) (⟨by omega, .inl rfl, Row.nil _ _, hB0⟩) ?_
    rintro ⟨k, r, v, pp⟩ w4 ⟨hk, hpp, hro, hL⟩
    try dsimp only at hk hpp hro hL
    refine WC.sub (s := [(1, .pointer (some ⟨b1, 0, none⟩)), (3, .pointer (some ⟨b3, 0, none⟩)), (25, .agg #[Vi m.k, Vi (m.f + 1), Vi (m.t + 1), Vi m.j, Vi m.ep, Vi m.st, Vi m.ar]), (26, .int .i64 (k : Int))]) (by repeat (first | exact trivial | refine ⟨rfl, ?_⟩)) ?_
    have hfl := flat_len ((numsM m).take k)
    rw [List.length_take, show (numsM m).length = 7 from rfl] at hfl
    refine WC.seq ?_
    refine WC.reg ?_
    refine WL.v (Runs.lss rfl rfl) rfl ?_
    refine WL.nil ?_
    refine WN.thn ?_
    refine WC.seq ?_
    refine WC.cond rfl (fun c5 => ?_) (fun c5 => ?_)
    · try simp only [decide_eq_true_eq, decide_eq_false_iff_not, Bool.not_eq_true', Bool.not_eq_false', Bool.and_eq_true, Int.not_lt, Int.not_le] at c5
      first
      | (exfalso; omega)
      | skip
        refine WC.skip ?_
        refine WN.thn ?_
        refine WC.seq ?_
        refine WC.block ?_
        refine WC.seq ?_
        refine WC.reg ?_
        refine WL.v (Runs.intT (n := (numsM m).getD k 0) (Runs.aggIdx Try.underlying59 Try.underlying3 rfl inf3 rfl rfl (n := k) rfl (by omega) (u := Vi ((numsM m).getD k 0)) (nums_at m (by omega))) rfl) rfl ?_
        refine WL.v (Runs.assign rfl) rfl ?_
        refine WL.nil ?_
        refine WN.thn ?_
        refine WC.reg ?_
        refine WL.v (Runs.move rfl) rfl ?_
        refine WL.call can10 rfl rfl (wnum_c _ _ hL) ?_
        rintro _ w6 ⟨rfl, h6⟩
        refine ⟨_, rfl, ?_⟩
        refine WL.call can32 rfl rfl (wstr_c _ _ h6 hpp hro (by have := numB_len ((numsM m).getD k 0); omega)) ?_
        rintro _ w7 ⟨r2, v2, rfl, hr2, h7⟩
        refine ⟨_, rfl, ?_⟩
        refine WL.nil ?_
        refine WN.blk ?_
        refine WN.thn ?_
        refine WC.reg ?_
        refine WL.v (Runs.addn rfl rfl (by omega)) rfl ?_
        refine WL.v (Runs.move rfl) rfl ?_
        refine WL.nil ?_
        refine WN.again (⟨k + 1, r2, v2, .pointer (some ⟨b3, 0, none⟩)⟩ : Nat × Res × Value × Value) (by show 7 - (k + 1) < 7 - k; omega) ⟨rfl, rfl, rfl, rfl, trivial⟩ ⟨by show k + 1 ≤ _; omega, .inr rfl, ?_, h7⟩
        show Row _ _ _ _ (((numsM m).take (k + 1)).flatMap numB)
        rw [flat_take (by show k < 7; omega)]
        exact hr2
    · try simp only [decide_eq_true_eq, decide_eq_false_iff_not, Bool.not_eq_true', Bool.not_eq_false', Bool.and_eq_true, Int.not_lt, Int.not_le] at c5
      first
      | (exfalso; omega)
      | skip
        refine WC.exit ?_
        refine WX.thn ?_
        refine WX.cut ?_
        refine WX.hit ?_
        refine WN.thn ?_
        refine WC.seq ?_
        obtain rfl : k = 7 := by omega
        rw [show (numsM m).take 7 = numsM m from rfl] at *
        have hne : (numsM m).flatMap numB ≠ [] := fun e => numB_ne (n := m.k) ⟨hmy.1, by have := hmy.2.1; omega⟩ (List.append_eq_nil_iff.1 e).1
        obtain ⟨G, gl, g0, S0⟩ := hL.freeze (i := 2) rfl
        have hm7 : cellF G ⟨b1, 7, none⟩ = some (.string (bs m.tx)) := by unfold cellF; simp only [g0 _ List.mem_cons_self]; rfl
        replace S0 : St W G ([(b3, .cells #[pp, v] 53 (0, 0))] :: r :: cs) w4 := S0
        refine WC.eregF S0 (fun s_ => ([] : List Nat).any (Nat.beq s_)) mixed (by kernel_rfl) (fun hx => ?_)
        intro w8 h8
        refine WE.pure (g := none) hx 1 (by rfl) trivial (by kernel_rfl) (by kernel_rfl) (by kernel_rfl) (by kernel_rfl) (fun w_ => Runs.fld fld24_7 rfl) rfl ?_
        refine WE.val (g := none) 12 hx 2 (by rfl) trivial (by kernel_rfl) (by kernel_rfl) (by kernel_rfl) (by kernel_rfl) (fun w_ hE_ => Exists.elim hE_ (fun cs_ hC_ => Runs.load1 Try.underlying9 rfl rfl (hC_.cell hm7))) rfl ?_
        refine WE.op (.inr (EC.mk h8 (Le.refl _))) (i := 0) (by rfl) (by kernel_rfl) ?_
        refine WL.call can33 rfl rfl (str_c _ h8 hro hne (by omega)) ?_
        rintro _ w9 ⟨rfl, h9⟩
        refine ⟨_, rfl, ?_⟩
        refine WL.nil ?_
        refine WE.next ?_
        refine WE.op (.inr (EC.mk h9 (Le.refl _))) (i := 3) (by rfl) (by kernel_rfl) ?_
        refine WL.call can12 rfl rfl (wtext_c _ _ h9 hl) ?_
        rintro _ w10 ⟨rfl, h10⟩
        refine ⟨_, rfl, ?_⟩
        refine WL.nil ?_
        refine WE.next ?_
        refine WE.pure (g := none) hx 4 (by rfl) trivial (by kernel_rfl) (by kernel_rfl) (by kernel_rfl) (by kernel_rfl) (fun w_ => Runs.lsadd rfl rfl (by have := text_len hl; omega)) rfl ?_
        refine WE.pure (g := none) hx 5 (by rfl) trivial (by kernel_rfl) (by kernel_rfl) (by kernel_rfl) (by kernel_rfl) (fun w_ => Runs.assign rfl) rfl ?_
        refine WE.fin (.inr (EC.mk h10 (Le.refl _))) (by kernel_rfl) ?_
        refine WN.thn ?_
        refine WC.ret ?_
        refine ret1 rfl rfl ⟨?_, h10.weak gl⟩
        unfold encB
        rw [if_pos hmy]
  · skip
    refine WC.reg ?_
    refine WL.v (Runs.loadAll h1 0 rfl Try.underlying24 rfl inf24 rfl rfl) rfl ?_
    refine WL.call can34 rfl rfl (message_c _ m h1) ?_
    rintro _ w11 ⟨rfl, h11⟩
    refine ⟨_, rfl, ?_⟩
    refine WL.v (Runs.not rfl) rfl ?_
    refine WL.nil ?_
    refine WN.thn ?_
    refine WC.condT rfl ((by rw [decide_eq_false hmy]; rfl)) ?_
    refine WC.seq ?_
    refine WC.reg ?_
    refine WL.v (Runs.assign rfl) rfl ?_
    refine WL.nil ?_
    refine WN.thn ?_
    refine WC.ret ?_
    refine ret1 rfl rfl ⟨?_, h11.drop 0⟩
    unfold encB
    rw [if_neg hmy]; rfl
end Wir
end Go.Proofs.Ytfiknofmniiehaa
