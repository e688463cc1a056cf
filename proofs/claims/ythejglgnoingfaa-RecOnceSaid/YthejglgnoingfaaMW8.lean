/- Walks of package wire: lists and messages as bytes. -/
import Derived.Test.YthejglgnoingfaaMW7
namespace Go.Proofs.Ythejglgnoingfaa
open Go Go.RowKit B
set_option linter.unusedVariables false
set_option linter.unusedSimpArgs false
namespace Wir

theorem can41 : B.Can Try.prog 41 := ⟨_, Try.func41, by kernel_rfl, rfl⟩   -- roundhouse/wire.Num
theorem can67 : B.Can Try.prog 67 := ⟨_, Try.func67, by kernel_rfl, rfl⟩   -- (*strings.Builder).WriteString
theorem can68 : B.Can Try.prog 68 := ⟨_, Try.func68, by kernel_rfl, rfl⟩   -- (*strings.Builder).String
def okL (xs : List Int) : Prop := ∀ x ∈ xs, mayN x
instance (xs : List Int) : Decidable (okL xs) := inferInstanceAs (Decidable (∀ x ∈ xs, mayN x))
def listB (xs : List Int) : List UInt8 := if 4096 < xs.length then [] else if okL xs then numB (xs.length : Int) ++ xs.flatMap numB else []
theorem flat_len (xs : List Int) : (xs.flatMap numB).length ≤ 7 * xs.length := by
  induction xs with
  | nil => simp
  | cons x xs ih => have := numB_len x; rw [List.flatMap_cons, List.length_append, List.length_cons]; omega
theorem flat_take {xs : List Int} {k : Nat} (h : k < xs.length) : (xs.take (k + 1)).flatMap numB = (xs.take k).flatMap numB ++ numB (xs.getD k 0) := by
  have e : xs.take (k + 1) = xs.take k ++ [xs.getD k 0] := by
    rw [List.take_add_one, List.getElem?_eq_getElem h, List.getD_eq_getElem?_getD, List.getElem?_eq_getElem h]; rfl
  rw [e, List.flatMap_append]
  simp
theorem numB_ne {n : Int} (h : mayN n) : numB n ≠ [] := by
  unfold numB numN
  rw [if_pos h]
  simp
set_option maxRecDepth 100000 in
set_option maxHeartbeats 1000000 in
theorem wlist_c {W : World} {F : Snap} {cs : List Res} (w : World) {A : Option Addr} {cap : Nat} {xs : List Int} (h : St W F cs w) (hR : RdS (Kd.one Vi) F A xs) (hn : xs.length ≤ 100000) : Calls Try.prog 42 #[.slice A xs.length cap] w fun r w' => r = .returned (.string (bs (listB xs))) ∧ St W F cs w'  := by
  refine enter (P := Try.prog) (args := [.slice A xs.length cap]) Try.func42 rfl rfl rfl ?_
  refine WC.seq (WC.reg ?_)
  refine WL.v (Runs.assign rfl) rfl ?_
  refine WL.nil (WN.thn (WC.seq (WC.seq (WC.reg ?_))))
  refine WL.v (Runs.move rfl) rfl ?_
  refine WL.v (Runs.llen Try.underlying22 rfl rfl) rfl ?_
  refine WL.v (Runs.gtr rfl rfl) rfl ?_
  refine WL.nil (WN.thn ?_)
  refine WC.cond rfl (fun c1 => ?_) (fun c1 => ?_)
  · try simp only [dt, df, nt, nf, ba, il, ie] at c1
    first
    | (exfalso; omega)
    | skip
      refine WC.seq (WC.reg ?_)
      refine WL.v (Runs.assign rfl) rfl ?_
      refine WL.nil (WN.thn (WC.ret ?_))
      refine ret1 rfl rfl ⟨?_, h⟩
      unfold listB
      rw [if_pos (by omega)]; rfl
  · try simp only [dt, df, nt, nf, ba, il, ie] at c1
    first
    | (exfalso; omega)
    | skip
      refine WC.skip (WN.thn (WC.seq (WC.reg ?_)))
      refine WL.alloc' rfl h inf115 ?_
      intro b3 w2 h2
      refine WL.nil (WN.thn (WC.seq ?_))
      have hB0 : St W F ([(b3, .cells #[.pointer none, .slice none 0 0] 115 (0, 0))] :: [] :: cs) w2 := (h2.nilRes).perm (List.Perm.swap _ _ _)
      refine WC.reg ?_
      refine WL.v (Runs.move rfl) rfl ?_
      refine WL.v (Runs.llen Try.underlying22 rfl rfl) rfl ?_
      refine WL.call can41 rfl rfl (wnum_c _ _ hB0) ?_
      rintro _ w3 ⟨rfl, h3⟩
      refine ⟨_, rfl, ?_⟩
      refine WL.call can67 rfl rfl (wstr_c _ _ h3 (.inl rfl) (Row.nil _ _) (by have := numB_len (xs.length : Int); simp; omega)) ?_
      rintro _ w4 ⟨r1, v1, rfl, hr1, h4⟩
      refine ⟨_, rfl, ?_⟩
      rw [List.nil_append] at hr1
      refine WL.nil (WN.thn (WC.seq (WC.seq (WC.reg ?_))))
      refine WL.v (Runs.move rfl) rfl ?_
      refine WL.v (Runs.llen Try.underlying22 rfl rfl) rfl ?_
      refine WL.v (Runs.move rfl) rfl ?_
      refine WL.nil (WN.thn (WC.block ?_))
      refine WC.loop (σ := Nat × Res × Value) (fun q_ => [(3, .pointer (some ⟨b3, 0, none⟩)), (13, .slice A xs.length cap), (14, .int .i64 (xs.length : Int)), (15, .int .i64 (q_.1 : Int))]) (fun q_ w => q_.1 ≤ xs.length ∧ (∀ j, j < q_.1 → mayN (xs.getD j 0)) ∧ Row 5 V8 q_.2.1 q_.2.2 (numB (xs.length : Int) ++ (xs.take q_.1).flatMap numB) ∧ St W F ([(b3, .cells #[.pointer (some ⟨b3, 0, none⟩), q_.2.2] 115 (0, 0))] :: q_.2.1 :: cs) w) (fun q_ => xs.length - q_.1) (⟨0, r1, v1⟩) (by repeat (first | exact trivial | refine ⟨rfl, ?_⟩)) (⟨by omega, fun j hj => absurd hj (Nat.not_lt_zero _), by simpa using hr1, h4⟩) ?_
      rintro ⟨k, r, v⟩ w5 ⟨hk, hok, hro, hL⟩
      try dsimp only at hk hok hro hL
      refine WC.sub (s := [(3, .pointer (some ⟨b3, 0, none⟩)), (13, .slice A xs.length cap), (14, .int .i64 (xs.length : Int)), (15, .int .i64 (k : Int))]) (by repeat (first | exact trivial | refine ⟨rfl, ?_⟩)) ?_
      have hfl := flat_len (xs.take k)
      rw [List.length_take] at hfl
      refine WC.seq (WC.reg ?_)
      refine WL.v (Runs.lss rfl rfl) rfl ?_
      refine WL.nil (WN.thn (WC.seq ?_))
      refine WC.cond rfl (fun c6 => ?_) (fun c6 => ?_)
      · try simp only [dt, df, nt, nf, ba, il, ie] at c6
        first
        | (exfalso; omega)
        | skip
          refine WC.skip (WN.thn (WC.seq (WC.block (WC.seq ?_))))
          obtain ⟨ad, rfl, hrd⟩ := rd1 hR (by omega)
          refine WC.reg ?_
          refine WL.v (Runs.lidxN Try.underlying22 inf3 rfl rfl (n := k) rfl (by omega)) rfl ?_
          refine WL.v (Runs.loadR (f := Vi) (0 : Int) hL hrd (n := k) (by omega) Try.underlying3 rfl rfl) rfl ?_
          refine WL.v (Runs.assign rfl) rfl ?_
          refine WL.nil (WN.thn (WC.seq (WC.seq ?_)))
          by_cases hmy : mayN (xs.getD k 0)
          · skip
            refine WC.reg ?_
            refine WL.v (Runs.move rfl) rfl ?_
            refine WL.call can66 rfl rfl (may_y _ _ hL hmy) ?_
            rintro _ w7 ⟨rfl, h7⟩
            refine ⟨_, rfl, ?_⟩
            refine WL.v (Runs.not rfl) rfl ?_
            refine WL.nil (WN.thn ?_)
            refine WC.condF rfl (rfl) ?_
            refine WC.skip (WN.thn (WC.reg ?_))
            refine WL.v (Runs.move rfl) rfl ?_
            refine WL.call can41 rfl rfl (wnum_c _ _ h7) ?_
            rintro _ w8 ⟨rfl, h8⟩
            refine ⟨_, rfl, ?_⟩
            refine WL.call can67 rfl rfl (wstr_c _ _ h8 (.inr rfl) hro (by have := numB_len (xs.length : Int); have := numB_len (xs.getD k 0); rw [List.length_append]; omega)) ?_
            rintro _ w9 ⟨r2, v2, rfl, hr2, h9⟩
            refine ⟨_, rfl, ?_⟩
            refine WL.nil (WN.blk (WN.thn (WC.reg ?_)))
            refine WL.v (Runs.addn rfl rfl (by omega)) rfl ?_
            refine WL.v (Runs.move rfl) rfl ?_
            refine WL.nil ?_
            refine WN.again (⟨k + 1, r2, v2⟩ : Nat × Res × Value) (by show xs.length - (k + 1) < xs.length - k; omega) ⟨rfl, rfl, rfl, rfl, trivial⟩ ⟨by show k + 1 ≤ _; omega, fun j hj => ?_, ?_, h9⟩
            · have hj : j < k + 1 := hj
              by_cases e : j = k
              · subst e; exact hmy
              · exact hok j (by omega)
            · show Row _ _ _ _ (_ ++ (xs.take (k + 1)).flatMap numB)
              rw [flat_take (by omega), ← List.append_assoc]
              exact hr2
          · skip
            refine WC.reg ?_
            refine WL.v (Runs.move rfl) rfl ?_
            refine WL.call can66 rfl rfl (may_n _ _ hL hmy) ?_
            rintro _ w10 ⟨rfl, h10⟩
            refine ⟨_, rfl, ?_⟩
            refine WL.v (Runs.not rfl) rfl ?_
            refine WL.nil (WN.thn ?_)
            refine WC.condT rfl (rfl) ?_
            refine WC.seq (WC.reg ?_)
            refine WL.v (Runs.assign rfl) rfl ?_
            refine WL.nil (WN.thn (WC.ret ?_))
            refine ret1 rfl rfl ⟨?_, (h10.drop 0).drop 0⟩
            unfold listB
            rw [if_neg (by omega), if_neg (fun hh => hmy (hh _ (by
              rw [List.getD_eq_getElem?_getD, List.getElem?_eq_getElem (by omega)]; exact List.getElem_mem _)))]; rfl
      · try simp only [dt, df, nt, nf, ba, il, ie] at c6
        first
        | (exfalso; omega)
        | skip
          refine WC.exit (WX.thn (WX.cut (WX.hit (WN.thn (WC.seq ?_)))))
          obtain rfl : k = xs.length := by omega
          rw [List.take_of_length_le (Nat.le_refl _)] at *
          refine WC.reg ?_
          refine WL.call can68 rfl rfl (str_c _ hL hro (fun e => numB_ne (n := (xs.length : Int)) ⟨by omega, by omega⟩ (List.append_eq_nil_iff.1 e).1) (by have := numB_len (xs.length : Int); rw [List.length_append]; omega)) ?_
          rintro _ w11 ⟨rfl, h11⟩
          refine ⟨_, rfl, ?_⟩
          refine WL.v (Runs.assign rfl) rfl ?_
          refine WL.nil (WN.thn (WC.ret ?_))
          have hall : okL xs := fun x hx => by
            obtain ⟨j, hj, e⟩ := List.getElem_of_mem hx
            have := hok j hj
            rwa [List.getD_eq_getElem?_getD, List.getElem?_eq_getElem hj, Option.getD_some, e] at this
          refine ret1 rfl rfl ⟨?_, h11⟩
          unfold listB
          rw [if_neg (by omega), if_pos hall]
end Wir
end Go.Proofs.Ythejglgnoingfaa
