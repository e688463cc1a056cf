/- Joined texts: W8 .. X1. -/
import Derived.Test.YtifdpllfbaogcaaGreatM3
import Derived.KernelRfl
set_option linter.unusedVariables false
set_option linter.unusedSimpArgs false
set_option maxRecDepth 100000
set_option maxHeartbeats 32000000
namespace Go.Proofs.YtifdpllfbaogcaaGreat
open Go Go.RowKit B
namespace Wir
theorem inf42 : Inf Tryz.prog 42 (.agg #[.int .i64 0, .int .i64 0, .int .i64 0, .int .i64 0, .int .i64 0, .int .i64 0, .int .i64 0, .string ⟨#[]⟩]) 8 72 := by unfold Inf; kernel_rfl
theorem can74 : B.Can Tryz.prog 74 := ⟨_, Tryz.func74, by kernel_rfl, rfl⟩
theorem can75 : B.Can Tryz.prog 75 := ⟨_, Tryz.func75, by kernel_rfl, rfl⟩
theorem can77 : B.Can Tryz.prog 77 := ⟨_, Tryz.func77, by kernel_rfl, rfl⟩
theorem can78 : B.Can Tryz.prog 78 := ⟨_, Tryz.func78, by kernel_rfl, rfl⟩
def okL (xs : List Int) : Prop := ∀ x ∈ xs, mayN x
instance (xs : List Int) : Decidable (okL xs) := inferInstanceAs (Decidable (∀ x ∈ xs, mayN x))
def listB (xs : List Int) : List UInt8 := if 4096 < xs.length then [] else if okL xs then numB (xs.length : Int) ++ xs.flatMap numB else []
theorem flat_len (xs : List Int) : (xs.flatMap numB).length ≤ 7 * xs.length := by
 induction xs with
 |nil => simp
 |cons x xs ih => have := numB_len x; rw [List.flatMap_cons, List.length_append, List.length_cons]; omega
theorem flat_take {xs : List Int} {k : Nat} (h : k < xs.length) : (xs.take (k + 1)).flatMap numB = (xs.take k).flatMap numB ++ numB (xs.getD k 0) := by
 have e : xs.take (k + 1) = xs.take k ++ [xs.getD k 0] := by
  rw [List.take_add_one, List.getElem?_eq_getElem h, List.getD_eq_getElem?_getD, List.getElem?_eq_getElem h]; rfl
 rw [e, List.flatMap_append]
 simp
theorem numB_ne {n : Int} (h : mayN n) : numB n ≠ [] := by
 unfold numB numN
 rw [if_pos h]
 simp
def numsM (m : M) : List Int := [m.k, m.f + 1, m.t + 1, m.j, m.ep, m.st, m.ar]
def encB (m : M) : List UInt8 := if mayM m then (numsM m).flatMap numB ++ textB m.tx else []
theorem nums_at (m : M) {k : Nat} (hk : k < 7) : (#[Vi m.k, Vi (m.f + 1), Vi (m.t + 1), Vi m.j, Vi m.ep, Vi m.st, Vi m.ar])[k]? = some (Vi ((numsM m).getD k 0)) := by
 have : k = 0 ∨ k = 1 ∨ k = 2 ∨ k = 3 ∨ k = 4 ∨ k = 5 ∨ k = 6 := by omega
 rcases this with rfl | rfl | rfl | rfl | rfl | rfl | rfl <;> rfl
theorem text_len {l : List UInt8} (h : l.length ≤ 100000) : (textB l).length ≤ 200000 := by
 unfold textB
 split
 ·simp
 ·have := numB_len (l.length : Int)
  rw [List.length_append]; omega
theorem wlist_c {W : World} {F : Snap} {cs : List Res} (w : World) {A : Option Addr} {cap : Nat} {xs : List Int} (h : St W F cs w) (hR : RdS (Kd.one Vi) F A xs) (hn : xs.length ≤ 100000) : Calls Tryz.prog 176 #[.slice A xs.length cap] w fun r w' => r = .returned (.string (bs (listB xs))) ∧ St W F cs w'  := by
 refine enter (P := Tryz.prog) (args := [.slice A xs.length cap]) Tryz.func176 rfl rfl rfl ?_
 refine WC.seq (WC.reg ?_)
 refine WL.e 1 rfl ?_
 refine WL.nil (WN.thn (WC.seq (WC.seq (WC.reg ?_))))
 refine WL.e 1 rfl ?_
 refine WL.v (Runs.llen Tryz.underlying33 rfl rfl) rfl ?_
 refine WL.v (Runs.gtr rfl rfl) rfl ?_
 refine WL.nil (WN.thn ?_)
 refine WC.cond rfl (fun c1 => ?_) (fun c1 => ?_)
 ·try simp only [dt, df, nt, nf, ba, il, ie] at c1
  first
  |(exfalso; omega)
  |skip
   refine WC.seq (WC.reg ?_)
   refine WL.e 1 rfl ?_
   refine WL.nil (WN.thn (WC.ret ?_))
   refine ret1 rfl rfl ⟨?_, h⟩
   unfold listB
   rw [if_pos (by omega)]; rfl
 ·try simp only [dt, df, nt, nf, ba, il, ie] at c1
  first
  |(exfalso; omega)
  |skip
   refine WC.skip (WN.thn (WC.seq (WC.reg ?_)))
   refine WL.alloc' rfl h inf122 ?_
   intro b3 w2 h2
   refine WL.nil (WN.thn (WC.seq ?_))
   have hB0 : St W F ([(b3, .cells #[.pointer none, .slice none 0 0] 122 (0, 0))] :: [] :: cs) w2 := (h2.nilRes).perm (List.Perm.swap _ _ _)
   refine WC.reg ?_
   refine WL.e 1 rfl ?_
   refine WL.v (Runs.llen Tryz.underlying33 rfl rfl) rfl ?_
   refine WL.call can76 rfl rfl (wnum_c _ _ hB0) ?_
   rintro _ w3 ⟨rfl, h3⟩
   refine ⟨_, rfl, ?_⟩
   refine WL.call can75 rfl rfl (wstr_c _ _ h3 (.inl rfl) (Row.nil _ _) (by have := numB_len (xs.length : Int); simp; omega)) ?_
   rintro _ w4 ⟨r1, v1, rfl, hr1, h4⟩
   refine ⟨_, rfl, ?_⟩
   rw [List.nil_append] at hr1
   refine WL.nil (WN.thn (WC.seq (WC.seq (WC.reg ?_))))
   refine WL.e 1 rfl ?_
   refine WL.v (Runs.llen Tryz.underlying33 rfl rfl) rfl ?_
   refine WL.e 1 rfl ?_
   refine WL.nil (WN.thn (WC.block ?_))
   refine WC.loop (σ := Nat × Res × Value) (fun q_ => [(3, .pointer (some ⟨b3, 0, none⟩)), (13, .slice A xs.length cap), (14, .int .i64 (xs.length : Int)), (15, .int .i64 (q_.1 : Int))]) (fun q_ w => q_.1 ≤ xs.length ∧ (∀ j, j < q_.1 → mayN (xs.getD j 0)) ∧ Row 5 V8 q_.2.1 q_.2.2 (numB (xs.length : Int) ++ (xs.take q_.1).flatMap numB) ∧ St W F ([(b3, .cells #[.pointer (some ⟨b3, 0, none⟩), q_.2.2] 122 (0, 0))] :: q_.2.1 :: cs) w) (fun q_ => xs.length - q_.1) (⟨0, r1, v1⟩) (by repeat (first | exact trivial | refine ⟨rfl, ?_⟩)) (⟨by omega, fun j hj => absurd hj (Nat.not_lt_zero _), by simpa using hr1, h4⟩) ?_
   rintro ⟨k, r, v⟩ w5 ⟨hk, hok, hro, hL⟩
   try dsimp only at hk hok hro hL
   refine WC.sub (s := [(3, .pointer (some ⟨b3, 0, none⟩)), (13, .slice A xs.length cap), (14, .int .i64 (xs.length : Int)), (15, .int .i64 (k : Int))]) (by repeat (first | exact trivial | refine ⟨rfl, ?_⟩)) ?_
   have hfl := flat_len (xs.take k)
   rw [List.length_take] at hfl
   refine WC.seq (WC.reg ?_)
   refine WL.v (Runs.lss rfl rfl) rfl ?_
   refine WL.nil (WN.thn (WC.seq ?_))
   refine WC.cond rfl (fun c6 => ?_) (fun c6 => ?_)
   ·try simp only [dt, df, nt, nf, ba, il, ie] at c6
    first
    |(exfalso; omega)
    |skip
     refine WC.skip (WN.thn (WC.seq (WC.block (WC.seq ?_))))
     obtain ⟨ad, rfl, hrd⟩ := rd1 hR (by omega)
     refine WC.reg ?_
     refine WL.v (Runs.lidxN Tryz.underlying33 inf3 rfl rfl (n := k) rfl (by omega)) rfl ?_
     refine WL.v (Runs.loadR (f := Vi) (0 : Int) hL hrd (n := k) (by omega) Tryz.underlying3 rfl rfl) rfl ?_
     refine WL.e 1 rfl ?_
     refine WL.nil (WN.thn (WC.seq (WC.seq ?_)))
     by_cases hmy : mayN (xs.getD k 0)
     ·skip
      refine WC.reg ?_
      refine WL.e 1 rfl ?_
      refine WL.call can120 rfl rfl (may_y _ _ hL hmy) ?_
      rintro _ w7 ⟨rfl, h7⟩
      refine ⟨_, rfl, ?_⟩
      refine WL.e 1 rfl ?_
      refine WL.nil (WN.thn ?_)
      refine WC.condF rfl (rfl) ?_
      refine WC.skip (WN.thn (WC.reg ?_))
      refine WL.e 1 rfl ?_
      refine WL.call can76 rfl rfl (wnum_c _ _ h7) ?_
      rintro _ w8 ⟨rfl, h8⟩
      refine ⟨_, rfl, ?_⟩
      refine WL.call can75 rfl rfl (wstr_c _ _ h8 (.inr rfl) hro (by have := numB_len (xs.length : Int); have := numB_len (xs.getD k 0); rw [List.length_append]; omega)) ?_
      rintro _ w9 ⟨r2, v2, rfl, hr2, h9⟩
      refine ⟨_, rfl, ?_⟩
      refine WL.nil (WN.blk (WN.thn (WC.reg ?_)))
      refine WL.v (Runs.addn rfl rfl (by omega)) rfl ?_
      refine WL.e 1 rfl ?_
      refine WL.nil ?_
      refine WN.again (⟨k + 1, r2, v2⟩ : Nat × Res × Value) (by show xs.length - (k + 1) < xs.length - k; omega) ⟨rfl, rfl, rfl, rfl, trivial⟩ ⟨by show k + 1 ≤ _; omega, fun j hj => ?_, ?_, h9⟩
      ·have hj : j < k + 1 := hj
       by_cases e : j = k
       ·subst e; exact hmy
       ·exact hok j (by omega)
      ·show Row _ _ _ _ (_ ++ (xs.take (k + 1)).flatMap numB)
       rw [flat_take (by omega), ← List.append_assoc]
       exact hr2
     ·skip
      refine WC.reg ?_
      refine WL.e 1 rfl ?_
      refine WL.call can120 rfl rfl (may_n _ _ hL hmy) ?_
      rintro _ w10 ⟨rfl, h10⟩
      refine ⟨_, rfl, ?_⟩
      refine WL.e 1 rfl ?_
      refine WL.nil (WN.thn ?_)
      refine WC.condT rfl (rfl) ?_
      refine WC.seq (WC.reg ?_)
      refine WL.e 1 rfl ?_
      refine WL.nil (WN.thn (WC.ret ?_))
      refine ret1 rfl rfl ⟨?_, (h10.drop 0).drop 0⟩
      unfold listB
      rw [if_neg (by omega), if_neg (fun hh => hmy (hh _ (by
       rw [List.getD_eq_getElem?_getD, List.getElem?_eq_getElem (by omega)]; exact List.getElem_mem _)))]; rfl
   ·try simp only [dt, df, nt, nf, ba, il, ie] at c6
    first
    |(exfalso; omega)
    |skip
     refine WC.exit (WX.thn (WX.cut (WX.hit (WN.thn (WC.seq ?_)))))
     obtain rfl : k = xs.length := by omega
     rw [List.take_of_length_le (Nat.le_refl _)] at *
     refine WC.reg ?_
     refine WL.call can77 rfl rfl (str_c _ hL hro (fun e => numB_ne (n := (xs.length : Int)) ⟨by omega, by omega⟩ (List.append_eq_nil_iff.1 e).1) (by have := numB_len (xs.length : Int); rw [List.length_append]; omega)) ?_
     rintro _ w11 ⟨rfl, h11⟩
     refine ⟨_, rfl, ?_⟩
     refine WL.e 1 rfl ?_
     refine WL.nil (WN.thn (WC.ret ?_))
     have hall : okL xs := fun x hx => by
      obtain ⟨j, hj, e⟩ := List.getElem_of_mem hx
      have := hok j hj
      rwa [List.getD_eq_getElem?_getD, List.getElem?_eq_getElem hj, Option.getD_some, e] at this
     refine ret1 rfl rfl ⟨?_, h11⟩
     unfold listB
     rw [if_neg (by omega), if_pos hall]
theorem enc_c {W : World} {F : Snap} {cs : List Res} (w : World) (m : M) (h : St W F cs w) (hl : m.tx.length ≤ 100000) : Calls Tryz.prog 33 #[m.val] w fun r w' => r = .returned (.string (bs (encB m))) ∧ St W F cs w'  := by
 refine enter (P := Tryz.prog) (args := [.agg #[Vi m.k, Vi m.f, Vi m.t, Vi m.j, Vi m.ep, Vi m.st, Vi m.ar, .string (bs m.tx)]]) Tryz.func33 rfl rfl rfl ?_
 refine WC.seq (WC.reg ?_)
 refine WL.box rfl h rfl ?_
 intro b1 w1 h1
 refine WL.e 1 rfl ?_
 refine WL.nil (WN.thn (WC.seq (WC.seq ?_)))
 by_cases hmy : mayM m
 ·skip
  refine WC.reg ?_
  refine WL.v (Runs.loadAll h1 0 rfl Tryz.underlying42 rfl inf42 rfl rfl) rfl ?_
  refine WL.call can74 rfl rfl (message_c _ m h1) ?_
  rintro _ w2 ⟨rfl, h2⟩
  refine ⟨_, rfl, ?_⟩
  refine WL.e 1 rfl ?_
  refine WL.nil (WN.thn ?_)
  refine WC.condF rfl ((by rw [decide_eq_true hmy]; rfl)) ?_
  refine WC.skip (WN.thn (WC.seq (WC.reg ?_)))
  refine WL.alloc' rfl h2 inf122 ?_
  intro b3 w3 h3
  refine WL.nil (WN.thn (WC.seq (WC.seq ?_)))
  have hB0 : St W F ([(b3, .cells #[.pointer none, .slice none 0 0] 122 (0, 0))] :: [] :: [(b1, .cells #[Vi m.k, Vi m.f, Vi m.t, Vi m.j, Vi m.ep, Vi m.st, Vi m.ar, .string (bs m.tx)] 42 (0, 0))] :: cs) w3 := (h3.nilRes).perm (List.Perm.swap _ _ _)
  have hmy2 := hmy
  obtain ⟨q0, q1, q2, q3, q4, q5, q6, q7, q8⟩ := hmy2
  refine WC.reg ?_
  refine WL.e 1 rfl ?_
  refine WL.v (Runs.load1 Tryz.underlying3 rfl rfl (hB0.ocell (i := 2) rfl rfl)) rfl ?_
  refine WL.e 1 rfl ?_
  refine WL.v (Runs.load1 Tryz.underlying3 rfl rfl (hB0.ocell (i := 2) rfl rfl)) rfl ?_
  refine WL.v (Runs.addn rfl rfl (by omega)) rfl ?_
  refine WL.e 1 rfl ?_
  refine WL.v (Runs.load1 Tryz.underlying3 rfl rfl (hB0.ocell (i := 2) rfl rfl)) rfl ?_
  refine WL.v (Runs.addn rfl rfl (by omega)) rfl ?_
  refine WL.e 1 rfl ?_
  refine WL.v (Runs.load1 Tryz.underlying3 rfl rfl (hB0.ocell (i := 2) rfl rfl)) rfl ?_
  refine WL.e 1 rfl ?_
  refine WL.v (Runs.load1 Tryz.underlying3 rfl rfl (hB0.ocell (i := 2) rfl rfl)) rfl ?_
  refine WL.e 1 rfl ?_
  refine WL.v (Runs.load1 Tryz.underlying3 rfl rfl (hB0.ocell (i := 2) rfl rfl)) rfl ?_
  refine WL.e 1 rfl ?_
  refine WL.v (Runs.load1 Tryz.underlying3 rfl rfl (hB0.ocell (i := 2) rfl rfl)) rfl ?_
  refine WL.v (Runs.build (vs := [(0, Vi m.k), (1, Vi (m.f + 1)), (2, Vi (m.t + 1)), (3, Vi m.j), (4, Vi m.ep), (5, Vi m.st), (6, Vi m.ar)]) (cells := #[Vi m.k, Vi (m.f + 1), Vi (m.t + 1), Vi m.j, Vi m.ep, Vi m.st, Vi m.ar]) rfl (by kernel_rfl)) rfl ?_
  refine WL.e 1 rfl ?_
  refine WL.nil (WN.thn (WC.block ?_))
  refine WC.loop (σ := Nat × Res × Value × Value) (fun q_ => [(1, .pointer (some ⟨b1, 0, none⟩)), (3, .pointer (some ⟨b3, 0, none⟩)), (25, .agg #[Vi m.k, Vi (m.f + 1), Vi (m.t + 1), Vi m.j, Vi m.ep, Vi m.st, Vi m.ar]), (26, .int .i64 (q_.1 : Int))]) (fun q_ w => q_.1 ≤ 7 ∧ (q_.2.2.2 = .pointer none ∨ q_.2.2.2 = .pointer (some ⟨b3, 0, none⟩)) ∧ Row 5 V8 q_.2.1 q_.2.2.1 (((numsM m).take q_.1).flatMap numB) ∧ St W F ([(b3, .cells #[q_.2.2.2, q_.2.2.1] 122 (0, 0))] :: q_.2.1 :: [(b1, .cells #[Vi m.k, Vi m.f, Vi m.t, Vi m.j, Vi m.ep, Vi m.st, Vi m.ar, .string (bs m.tx)] 42 (0, 0))] :: cs) w) (fun q_ => 7 - q_.1) (⟨0, [], .slice none 0 0, .pointer none⟩) (by repeat (first | exact trivial | refine ⟨rfl, ?_⟩)) (⟨by omega, .inl rfl, Row.nil _ _, hB0⟩) ?_
  rintro ⟨k, r, v, pp⟩ w4 ⟨hk, hpp, hro, hL⟩
  try dsimp only at hk hpp hro hL
  refine WC.sub (s := [(1, .pointer (some ⟨b1, 0, none⟩)), (3, .pointer (some ⟨b3, 0, none⟩)), (25, .agg #[Vi m.k, Vi (m.f + 1), Vi (m.t + 1), Vi m.j, Vi m.ep, Vi m.st, Vi m.ar]), (26, .int .i64 (k : Int))]) (by repeat (first | exact trivial | refine ⟨rfl, ?_⟩)) ?_
  have hfl := flat_len ((numsM m).take k)
  rw [List.length_take, show (numsM m).length = 7 from rfl] at hfl
  refine WC.seq (WC.reg ?_)
  refine WL.v (Runs.lss rfl rfl) rfl ?_
  refine WL.nil (WN.thn (WC.seq ?_))
  refine WC.cond rfl (fun c5 => ?_) (fun c5 => ?_)
  ·try simp only [dt, df, nt, nf, ba, il, ie] at c5
   first
   |(exfalso; omega)
   |skip
    refine WC.skip (WN.thn (WC.seq (WC.block (WC.seq (WC.reg ?_)))))
    refine WL.v (Runs.intT (n := (numsM m).getD k 0) (Runs.aggIdx Tryz.underlying123 Tryz.underlying3 rfl inf3 rfl rfl (n := k) rfl (by omega) (u := Vi ((numsM m).getD k 0)) (nums_at m (by omega))) rfl) rfl ?_
    refine WL.e 1 rfl ?_
    refine WL.nil (WN.thn (WC.reg ?_))
    refine WL.e 1 rfl ?_
    refine WL.call can76 rfl rfl (wnum_c _ _ hL) ?_
    rintro _ w6 ⟨rfl, h6⟩
    refine ⟨_, rfl, ?_⟩
    refine WL.call can75 rfl rfl (wstr_c _ _ h6 hpp hro (by have := numB_len ((numsM m).getD k 0); omega)) ?_
    rintro _ w7 ⟨r2, v2, rfl, hr2, h7⟩
    refine ⟨_, rfl, ?_⟩
    refine WL.nil (WN.blk (WN.thn (WC.reg ?_)))
    refine WL.v (Runs.addn rfl rfl (by omega)) rfl ?_
    refine WL.e 1 rfl ?_
    refine WL.nil ?_
    refine WN.again (⟨k + 1, r2, v2, .pointer (some ⟨b3, 0, none⟩)⟩ : Nat × Res × Value × Value) (by show 7 - (k + 1) < 7 - k; omega) ⟨rfl, rfl, rfl, rfl, trivial⟩ ⟨by show k + 1 ≤ _; omega, .inr rfl, ?_, h7⟩
    show Row _ _ _ _ (((numsM m).take (k + 1)).flatMap numB)
    rw [flat_take (by show k < 7; omega)]
    exact hr2
  ·try simp only [dt, df, nt, nf, ba, il, ie] at c5
   first
   |(exfalso; omega)
   |skip
    refine WC.exit (WX.thn (WX.cut (WX.hit (WN.thn (WC.seq ?_)))))
    obtain rfl : k = 7 := by omega
    rw [show (numsM m).take 7 = numsM m from rfl] at *
    have hne : (numsM m).flatMap numB ≠ [] := fun e => numB_ne (n := m.k) ⟨hmy.1, by have := hmy.2.1; omega⟩ (List.append_eq_nil_iff.1 e).1
    obtain ⟨G, gl, g0, S0⟩ := hL.freeze (i := 2) rfl
    have hm7 : cellF G ⟨b1, 7, none⟩ = some (.string (bs m.tx)) := by unfold cellF; simp only [g0 _ List.mem_cons_self]; rfl
    replace S0 : St W G ([(b3, .cells #[pp, v] 122 (0, 0))] :: r :: cs) w4 := S0
    refine WC.eregF S0 (fun s_ => ([] : List Nat).any (Nat.beq s_)) mixed (by kernel_rfl) (fun hx => ?_)
    intro w8 h8
    refine WE.p0 hx 1 (by rfl) (fun w_ => Runs.fld fld42_7 rfl) rfl ?_
    refine WE.v0 12 hx 2 (by rfl) (fun w_ hE_ => Exists.elim hE_ (fun cs_ hC_ => Runs.load1 Tryz.underlying9 rfl rfl (hC_.cell hm7))) rfl ?_
    refine WE.op (.inr (EC.mk h8 (Le.refl _))) (i := 0) (by rfl) (by kernel_rfl) ?_
    refine WL.call can77 rfl rfl (str_c _ h8 hro hne (by omega)) ?_
    rintro _ w9 ⟨rfl, h9⟩
    refine ⟨_, rfl, ?_⟩
    refine WL.nil (WE.next ?_)
    refine WE.op (.inr (EC.mk h9 (Le.refl _))) (i := 3) (by rfl) (by kernel_rfl) ?_
    refine WL.call can78 rfl rfl (wtext_c _ _ h9 hl) ?_
    rintro _ w10 ⟨rfl, h10⟩
    refine ⟨_, rfl, ?_⟩
    refine WL.nil (WE.next ?_)
    refine WE.p0 hx 4 (by rfl) (fun w_ => Runs.lsadd rfl rfl (by have := text_len hl; omega)) rfl ?_
    refine WE.p0 hx 5 (by rfl) (fun w_ => Runs.assign rfl) rfl ?_
    refine WE.fin (.inr (EC.mk h10 (Le.refl _))) (by kernel_rfl) ?_
    refine WN.thn (WC.ret ?_)
    refine ret1 rfl rfl ⟨?_, h10.weak gl⟩
    unfold encB
    rw [if_pos hmy]
 ·skip
  refine WC.reg ?_
  refine WL.v (Runs.loadAll h1 0 rfl Tryz.underlying42 rfl inf42 rfl rfl) rfl ?_
  refine WL.call can74 rfl rfl (message_c _ m h1) ?_
  rintro _ w11 ⟨rfl, h11⟩
  refine ⟨_, rfl, ?_⟩
  refine WL.e 1 rfl ?_
  refine WL.nil (WN.thn ?_)
  refine WC.condT rfl ((by rw [decide_eq_false hmy]; rfl)) ?_
  refine WC.seq (WC.reg ?_)
  refine WL.e 1 rfl ?_
  refine WL.nil (WN.thn (WC.ret ?_))
  refine ret1 rfl rfl ⟨?_, h11.drop 0⟩
  unfold encB
  rw [if_neg hmy]; rfl
end Wir
end Go.Proofs.YtifdpllfbaogcaaGreat
namespace Go.Proofs.YtifdpllfbaogcaaGreat
open Go Go.RowKit B
namespace Wir
theorem can81 : B.Can Tryz.prog 81 := ⟨_, Tryz.func81, by kernel_rfl, rfl⟩
theorem can82 : B.Can Tryz.prog 82 := ⟨_, Tryz.func82, by kernel_rfl, rfl⟩
theorem can83 : B.Can Tryz.prog 83 := ⟨_, Tryz.func83, by kernel_rfl, rfl⟩
theorem can84 : B.Can Tryz.prog 84 := ⟨_, Tryz.func84, by kernel_rfl, rfl⟩
theorem rdN_bnd (l : List UInt8) (p : Nat) (e : Int) : (rdN l p e).1 ≤ 1099511627776 := by
 unfold rdN
 split
 ·simp
 ·split
  ·rename_i h
   show rval l p ≤ _
   unfold rerr at h
   unfold rval
   split at h
   ·cases h
   ·split at h
    ·cases h
    ·split at h
     ·cases h
     ·split at h
      ·cases h
      ·rename_i h4
       omega
  ·simp
theorem readN_c {W : World} {F : Snap} {cs : List Res} (w : World) {rb p : Nat} {e : Int} {l : List UInt8} (h : St W F ([(rb, .cells #[.string (bs l), Vi (p), Vi (e)] 161 (0, 0))] :: cs) w) (hl : l.length ≤ 9223372036854775807) (hp : p ≤ l.length) : Calls Tryz.prog 82 #[.pointer (some ⟨rb, 0, none⟩)] w fun r w' => r = .returned (Vi ((rdN l p e).1 : Nat)) ∧ St W F ([(rb, .cells #[.string (bs l), Vi (((rdN l p e).2.1 : Nat)), Vi ((rdN l p e).2.2)] 161 (0, 0))] :: cs) w' := by
 by_cases he : e = 0
 ·subst he
  exact readN_on w h (i := 0) rfl hl hp
 ·have e1 : rdN l p e = (0, p, e) := by unfold rdN; rw [if_pos he]
  rw [e1]
  exact readN_off w h (i := 0) rfl he
theorem readT_c {W : World} {F : Snap} {cs : List Res} (w : World) {rb p : Nat} {e : Int} {l : List UInt8} (h : St W F ([(rb, .cells #[.string (bs l), Vi (p), Vi (e)] 161 (0, 0))] :: cs) w) (hl : l.length ≤ 9223372036854775807) (hp : p ≤ l.length) : Calls Tryz.prog 83 #[.pointer (some ⟨rb, 0, none⟩)] w fun r w' => r = .returned (.string (bs (rdT l p e).1)) ∧ St W F ([(rb, .cells #[.string (bs l), Vi (((rdT l p e).2.1 : Nat)), Vi ((rdT l p e).2.2)] 161 (0, 0))] :: cs) w' := by
 by_cases he : e = 0
 ·subst he
  exact readT_on w h (i := 0) rfl hl hp
 ·have e1 : rdT l p e = ([], p, e) := by unfold rdT; rw [if_pos he]
  rw [e1]
  exact readT_off w h (i := 0) rfl he
def D0 (l : List UInt8) : Nat × Nat × Int := rdN l 0 0
def D1 (l : List UInt8) : Nat × Nat × Int := rdN l (D0 l).2.1 (D0 l).2.2
def D2 (l : List UInt8) : Nat × Nat × Int := rdN l (D1 l).2.1 (D1 l).2.2
def D3 (l : List UInt8) : Nat × Nat × Int := rdN l (D2 l).2.1 (D2 l).2.2
def D4 (l : List UInt8) : Nat × Nat × Int := rdN l (D3 l).2.1 (D3 l).2.2
def D5 (l : List UInt8) : Nat × Nat × Int := rdN l (D4 l).2.1 (D4 l).2.2
def D6 (l : List UInt8) : Nat × Nat × Int := rdN l (D5 l).2.1 (D5 l).2.2
def DT (l : List UInt8) := rdT l (D6 l).2.1 (D6 l).2.2
def decM (l : List UInt8) : M := ⟨(D0 l).1, ((D1 l).1 : Int) - 1, ((D2 l).1 : Int) - 1, (D3 l).1, (D4 l).1, (D5 l).1, (D6 l).1, (DT l).1⟩
def decE (l : List UInt8) : Int := (rdEnd l (DT l).2.1 (DT l).2.2).1
def M0 : M := ⟨0, 0, 0, 0, 0, 0, 0, []⟩
def decB (l : List UInt8) : M × Int := if decE l ≠ 0 then (M0, decE l) else if mayM (decM l) then (decM l, 0) else (M0, 5)
theorem dec_c {W : World} {F : Snap} {cs : List Res} (w : World) (l : List UInt8) (h : St W F cs w) (hl : l.length ≤ 9223372036854775807) : Calls Tryz.prog 38 #[.string (bs l)] w fun r w' => r = .returned (.tuple #[(decB l).1.val, Vi (decB l).2]) ∧ St W F cs w'  := by
 refine enter (P := Tryz.prog) (args := [.string (bs l)]) Tryz.func38 rfl rfl rfl ?_
 refine WC.seq (WC.reg ?_)
 refine WL.alloc' rfl h inf42 ?_
 intro b2 w1 h1
 refine WL.e 1 rfl ?_
 refine WL.nil (WN.thn (WC.seq (WC.reg ?_)))
 refine WL.e 1 rfl ?_
 refine WL.call can81 rfl rfl (read_c _ l h1) ?_
 rintro _ w2 ⟨rb, rfl, h2⟩
 refine ⟨_, rfl, ?_⟩
 refine WL.e 1 rfl ?_
 refine WL.nil (WN.thn (WC.seq (WC.reg ?_)))
 refine WL.e 1 rfl ?_
 refine WL.call can82 rfl rfl (readN_c _ (p := 0) (e := 0) h2 hl (by omega)) ?_
 rintro _ w3 ⟨rfl, h3⟩
 refine ⟨_, rfl, ?_⟩
 replace h3 : St W F ([(rb, .cells #[.string (bs l), Vi (((D0 l).2.1 : Nat)), Vi ((D0 l).2.2)] 161 (0, 0))] :: [(b2, .cells #[Vi 0, Vi 0, Vi 0, Vi 0, Vi 0, Vi 0, Vi 0, .string ⟨#[]⟩] 42 (0, 0))] :: cs) w3 := h3
 have hp0 : (D0 l).2.1 ≤ l.length := rdN_le _ (by omega)
 have hb0 : (D0 l).1 ≤ 1099511627776 := rdN_bnd _ _ _
 refine WL.e 1 rfl ?_
 refine WL.call can82 rfl rfl (readN_c _ (p := (D0 l).2.1) (e := (D0 l).2.2) h3 hl hp0) ?_
 rintro _ w4 ⟨rfl, h4⟩
 refine ⟨_, rfl, ?_⟩
 replace h4 : St W F ([(rb, .cells #[.string (bs l), Vi (((D1 l).2.1 : Nat)), Vi ((D1 l).2.2)] 161 (0, 0))] :: [(b2, .cells #[Vi 0, Vi 0, Vi 0, Vi 0, Vi 0, Vi 0, Vi 0, .string ⟨#[]⟩] 42 (0, 0))] :: cs) w4 := h4
 have hp1 : (D1 l).2.1 ≤ l.length := rdN_le _ hp0
 have hb1 : (D1 l).1 ≤ 1099511627776 := rdN_bnd _ _ _
 refine WL.v (Runs.subn (m := ((D1 l).1 : Int)) rfl rfl (by omega)) rfl ?_
 refine WL.e 1 rfl ?_
 refine WL.call can82 rfl rfl (readN_c _ (p := (D1 l).2.1) (e := (D1 l).2.2) h4 hl hp1) ?_
 rintro _ w5 ⟨rfl, h5⟩
 refine ⟨_, rfl, ?_⟩
 replace h5 : St W F ([(rb, .cells #[.string (bs l), Vi (((D2 l).2.1 : Nat)), Vi ((D2 l).2.2)] 161 (0, 0))] :: [(b2, .cells #[Vi 0, Vi 0, Vi 0, Vi 0, Vi 0, Vi 0, Vi 0, .string ⟨#[]⟩] 42 (0, 0))] :: cs) w5 := h5
 have hp2 : (D2 l).2.1 ≤ l.length := rdN_le _ hp1
 have hb2 : (D2 l).1 ≤ 1099511627776 := rdN_bnd _ _ _
 refine WL.v (Runs.subn (m := ((D2 l).1 : Int)) rfl rfl (by omega)) rfl ?_
 refine WL.e 1 rfl ?_
 refine WL.call can82 rfl rfl (readN_c _ (p := (D2 l).2.1) (e := (D2 l).2.2) h5 hl hp2) ?_
 rintro _ w6 ⟨rfl, h6⟩
 refine ⟨_, rfl, ?_⟩
 replace h6 : St W F ([(rb, .cells #[.string (bs l), Vi (((D3 l).2.1 : Nat)), Vi ((D3 l).2.2)] 161 (0, 0))] :: [(b2, .cells #[Vi 0, Vi 0, Vi 0, Vi 0, Vi 0, Vi 0, Vi 0, .string ⟨#[]⟩] 42 (0, 0))] :: cs) w6 := h6
 have hp3 : (D3 l).2.1 ≤ l.length := rdN_le _ hp2
 have hb3 : (D3 l).1 ≤ 1099511627776 := rdN_bnd _ _ _
 refine WL.e 1 rfl ?_
 refine WL.call can82 rfl rfl (readN_c _ (p := (D3 l).2.1) (e := (D3 l).2.2) h6 hl hp3) ?_
 rintro _ w7 ⟨rfl, h7⟩
 refine ⟨_, rfl, ?_⟩
 replace h7 : St W F ([(rb, .cells #[.string (bs l), Vi (((D4 l).2.1 : Nat)), Vi ((D4 l).2.2)] 161 (0, 0))] :: [(b2, .cells #[Vi 0, Vi 0, Vi 0, Vi 0, Vi 0, Vi 0, Vi 0, .string ⟨#[]⟩] 42 (0, 0))] :: cs) w7 := h7
 have hp4 : (D4 l).2.1 ≤ l.length := rdN_le _ hp3
 have hb4 : (D4 l).1 ≤ 1099511627776 := rdN_bnd _ _ _
 refine WL.e 1 rfl ?_
 refine WL.call can82 rfl rfl (readN_c _ (p := (D4 l).2.1) (e := (D4 l).2.2) h7 hl hp4) ?_
 rintro _ w8 ⟨rfl, h8⟩
 refine ⟨_, rfl, ?_⟩
 replace h8 : St W F ([(rb, .cells #[.string (bs l), Vi (((D5 l).2.1 : Nat)), Vi ((D5 l).2.2)] 161 (0, 0))] :: [(b2, .cells #[Vi 0, Vi 0, Vi 0, Vi 0, Vi 0, Vi 0, Vi 0, .string ⟨#[]⟩] 42 (0, 0))] :: cs) w8 := h8
 have hp5 : (D5 l).2.1 ≤ l.length := rdN_le _ hp4
 have hb5 : (D5 l).1 ≤ 1099511627776 := rdN_bnd _ _ _
 refine WL.e 1 rfl ?_
 refine WL.call can82 rfl rfl (readN_c _ (p := (D5 l).2.1) (e := (D5 l).2.2) h8 hl hp5) ?_
 rintro _ w9 ⟨rfl, h9⟩
 refine ⟨_, rfl, ?_⟩
 replace h9 : St W F ([(rb, .cells #[.string (bs l), Vi (((D6 l).2.1 : Nat)), Vi ((D6 l).2.2)] 161 (0, 0))] :: [(b2, .cells #[Vi 0, Vi 0, Vi 0, Vi 0, Vi 0, Vi 0, Vi 0, .string ⟨#[]⟩] 42 (0, 0))] :: cs) w9 := h9
 have hp6 : (D6 l).2.1 ≤ l.length := rdN_le _ hp5
 have hb6 : (D6 l).1 ≤ 1099511627776 := rdN_bnd _ _ _
 refine WL.e 1 rfl ?_
 refine WL.call can83 rfl rfl (readT_c _ (p := (D6 l).2.1) (e := (D6 l).2.2) h9 hl hp6) ?_
 rintro _ w10 ⟨rfl, h10⟩
 refine ⟨_, rfl, ?_⟩
 replace h10 : St W F ([(rb, .cells #[.string (bs l), Vi (((DT l).2.1 : Nat)), Vi ((DT l).2.2)] 161 (0, 0))] :: [(b2, .cells #[Vi 0, Vi 0, Vi 0, Vi 0, Vi 0, Vi 0, Vi 0, .string ⟨#[]⟩] 42 (0, 0))] :: cs) w10 := h10
 refine WL.v (Runs.build (cells := #[Vi ((D0 l).1 : Nat), Vi (((D1 l).1 : Int) - 1), Vi (((D2 l).1 : Int) - 1), Vi ((D3 l).1 : Nat), Vi ((D4 l).1 : Nat), Vi ((D5 l).1 : Nat), Vi ((D6 l).1 : Nat), .string (bs (DT l).1)]) rfl (by kernel_rfl)) rfl ?_
 refine WL.alloc' rfl h10 inf42 ?_
 intro b5 w11 h11
 refine WL.storeAll h11 0 rfl rfl rfl inf42 rfl rfl rfl (Free.zero _) ?_
 intro  w12 h12
 try simp only [lz, ls, ez, es'] at h12
 refine WL.nil (WN.thn (WC.seq (WC.seq (WC.reg ?_))))
 refine WL.e 1 rfl ?_
 refine WL.call can84 rfl rfl (rend_c _ (p := (DT l).2.1) (e := (DT l).2.2) h12 (i := 1) rfl) ?_
 rintro _ w13 ⟨rfl, h13⟩
 refine ⟨_, rfl, ?_⟩
 refine WL.e 5 rfl ?_
 refine WL.nil (WN.thn (WC.seq ?_))
 by_cases hde : decE l = 0
 ·skip
  refine WC.reg ?_
  refine WL.e 1 rfl ?_
  refine WL.v (Runs.boolT (c := false) (Runs.neq rfl rfl) (by show (!decide (decE l = 0)) = false; rw [decide_eq_true hde]; rfl)) rfl ?_
  refine WL.nil (WN.thn ?_)
  refine WC.condF rfl (rfl) ?_
  refine WC.skip (WN.thn (WC.seq (WC.seq ?_)))
  by_cases hmy : mayM (decM l)
  ·skip
   refine WC.reg ?_
   refine WL.v (Runs.loadAll h13 0 rfl Tryz.underlying42 rfl inf42 rfl rfl) rfl ?_
   refine WL.call can74 rfl rfl (message_c _ (decM l) h13) ?_
   rintro _ w14 ⟨rfl, h14⟩
   refine ⟨_, rfl, ?_⟩
   refine WL.e 1 rfl ?_
   refine WL.nil (WN.thn ?_)
   refine WC.condF rfl ((by rw [decide_eq_true hmy]; rfl)) ?_
   refine WC.skip (WN.thn (WC.seq (WC.reg ?_)))
   refine WL.v (Runs.loadAll h14 0 rfl Tryz.underlying42 rfl inf42 rfl rfl) rfl ?_
   refine WL.storeAll h14 2 rfl rfl rfl inf42 rfl rfl rfl (Free.zero _) ?_
   intro  w15 h15
   try simp only [lz, ls, ez, es'] at h15
   refine WL.e 1 rfl ?_
   refine WL.nil (WN.thn (WC.ret ?_))
   exact retB rfl (v := .agg #[Vi ((D0 l).1 : Nat), Vi (((D1 l).1 : Int) - 1), Vi (((D2 l).1 : Int) - 1), Vi ((D3 l).1 : Nat), Vi ((D4 l).1 : Nat), Vi ((D5 l).1 : Nat), Vi ((D6 l).1 : Nat), .string (bs (DT l).1)]) ⟨_, rfl, run_loadVarA (vs := [Vi ((D0 l).1 : Nat), Vi (((D1 l).1 : Int) - 1), Vi (((D2 l).1 : Int) - 1), Vi ((D3 l).1 : Nat), Vi ((D4 l).1 : Nat), Vi ((D5 l).1 : Nat), Vi ((D6 l).1 : Nat), .string (bs (DT l).1)]) Tryz.underlying42 rfl inf42 rfl (fun j v hv => by rw [add_mk, Nat.zero_add]; exact h15.ocell (i := 2) rfl (by simpa using hv))⟩ (show lk _ _ = _ from rfl) ⟨by unfold decB; rw [if_neg (by rw [hde]; simp), if_pos hmy]; rfl, ((h15.drop 0).drop 0).drop 0⟩
  ·skip
   refine WC.reg ?_
   refine WL.v (Runs.loadAll h13 0 rfl Tryz.underlying42 rfl inf42 rfl rfl) rfl ?_
   refine WL.call can74 rfl rfl (message_c _ (decM l) h13) ?_
   rintro _ w16 ⟨rfl, h16⟩
   refine ⟨_, rfl, ?_⟩
   refine WL.e 1 rfl ?_
   refine WL.nil (WN.thn ?_)
   refine WC.condT rfl ((by rw [decide_eq_false hmy]; rfl)) ?_
   refine WC.seq (WC.reg ?_)
   refine WL.v (Runs.build (vs := []) (cells := #[Vi 0, Vi 0, Vi 0, Vi 0, Vi 0, Vi 0, Vi 0, .string ⟨#[]⟩]) rfl (by kernel_rfl)) rfl ?_
   refine WL.storeAll h16 2 rfl rfl rfl inf42 rfl rfl rfl (Free.zero _) ?_
   intro  w17 h17
   try simp only [lz, ls, ez, es'] at h17
   refine WL.e 1 rfl ?_
   refine WL.nil (WN.thn (WC.ret ?_))
   exact retB rfl (v := .agg #[Vi 0, Vi 0, Vi 0, Vi 0, Vi 0, Vi 0, Vi 0, .string ⟨#[]⟩]) ⟨_, rfl, run_loadVarA (vs := [Vi 0, Vi 0, Vi 0, Vi 0, Vi 0, Vi 0, Vi 0, .string ⟨#[]⟩]) Tryz.underlying42 rfl inf42 rfl (fun j v hv => by rw [add_mk, Nat.zero_add]; exact h17.ocell (i := 2) rfl (by simpa using hv))⟩ (show lk _ _ = _ from rfl) ⟨by unfold decB; rw [if_neg (by rw [hde]; simp), if_neg hmy]; rfl, ((h17.drop 0).drop 0).drop 0⟩
 ·skip
  refine WC.reg ?_
  refine WL.e 1 rfl ?_
  refine WL.v (Runs.boolT (c := true) (Runs.neq rfl rfl) (by show (!decide (decE l = 0)) = true; rw [decide_eq_false hde]; rfl)) rfl ?_
  refine WL.nil (WN.thn ?_)
  refine WC.condT rfl (rfl) ?_
  refine WC.seq (WC.reg ?_)
  refine WL.v (Runs.build (vs := []) (cells := #[Vi 0, Vi 0, Vi 0, Vi 0, Vi 0, Vi 0, Vi 0, .string ⟨#[]⟩]) rfl (by kernel_rfl)) rfl ?_
  refine WL.e 1 rfl ?_
  refine WL.storeAll h13 2 rfl rfl rfl inf42 rfl rfl rfl (Free.zero _) ?_
  intro  w18 h18
  try simp only [lz, ls, ez, es'] at h18
  refine WL.e 1 rfl ?_
  refine WL.nil (WN.thn (WC.ret ?_))
  exact retB rfl (v := .agg #[Vi 0, Vi 0, Vi 0, Vi 0, Vi 0, Vi 0, Vi 0, .string ⟨#[]⟩]) ⟨_, rfl, run_loadVarA (vs := [Vi 0, Vi 0, Vi 0, Vi 0, Vi 0, Vi 0, Vi 0, .string ⟨#[]⟩]) Tryz.underlying42 rfl inf42 rfl (fun j v hv => by rw [add_mk, Nat.zero_add]; exact h18.ocell (i := 2) rfl (by simpa using hv))⟩ (show lk _ _ = _ from rfl) ⟨by unfold decB; rw [if_pos hde]; rfl, ((h18.drop 0).drop 0).drop 0⟩
end Wir
end Go.Proofs.YtifdpllfbaogcaaGreat
namespace Go.Proofs.YtifdpllfbaogcaaGreat
open Go Go.RowKit B
namespace Wir
theorem n0 : numB 0 = [0] := by simp [numB, numN, mayN, hi_0]
theorem n2 : numB 2 = [1, 2] := by simp [numB, numN, mayN, hi_s, hi_0]
theorem n4 : numB 4 = [1, 4] := by simp [numB, numN, mayN, hi_s, hi_0]
theorem n1 : numB 1 = [1, 1] := by simp [numB, numN, mayN, hi_s, hi_0]
theorem eqM (w : World) (m n : M) : (Op.equalIn 10000 42 m.val n.val).run Tryz.prog w = .ok (decide (m.k = n.k) && (decide (m.f = n.f) && (decide (m.t = n.t) && (decide (m.j = n.j) && (decide (m.ep = n.ep) && (decide (m.st = n.st) && (decide (m.ar = n.ar) && (decide (m.tx = n.tx) && true)))))))) w := by
 unfold M.val
 refine eqA_of (d := 9999) Tryz.underlying42 (by kernel_rfl) ?_
 exact eqf_int (d := 9998) rfl Tryz.underlying3 rfl rfl (eqf_int (d := 9998) rfl Tryz.underlying3 rfl rfl (eqf_int (d := 9998) rfl Tryz.underlying3 rfl rfl (eqf_int (d := 9998) rfl Tryz.underlying3 rfl rfl (eqf_int (d := 9998) rfl Tryz.underlying3 rfl rfl (eqf_int (d := 9998) rfl Tryz.underlying3 rfl rfl (eqf_int (d := 9998) rfl Tryz.underlying3 rfl rfl (eqf_str (d := 9998) rfl Tryz.underlying9 rfl rfl eqf_nil)))))))
end Wir
end Go.Proofs.YtifdpllfbaogcaaGreat
namespace Go.Proofs.YtifdpllfbaogcaaGreat
open Go Go.RowKit B
namespace Wir
theorem valN_hi : ∀ (n : Nat), valN (hi n) = n := by
 intro n
 induction n using Nat.strongRecOn with
 |_ n ih =>
  by_cases h : n = 0
  ·subst h; rw [hi_0]; rfl
  ·rw [hi_s h, valN_snoc, ih (n / 256) (by omega), UInt8.toNat_ofNat']
   omega
theorem hi_ne {n : Nat} (h : n ≠ 0) : hi n ≠ [] := by rw [hi_s h]; simp
theorem hi_head : ∀ (n : Nat), n ≠ 0 → (hi n).getD 0 0 ≠ 0 := by
 intro n
 induction n using Nat.strongRecOn with
 |_ n ih =>
  intro h
  rw [hi_s h]
  by_cases h2 : n / 256 = 0
  ·rw [h2, hi_0]
   intro e
   have := congrArg UInt8.toNat e
   simp at this
   omega
  ·have h3 := ih (n / 256) (by omega) h2
   cases e : hi (n / 256) with
   |nil => exact absurd e (hi_ne h2)
   |cons a t => rw [e] at h3; simpa using h3
theorem numN_len (n : Nat) (h : n ≤ 1099511627776) : (UInt8.ofNat (hi n).length).toNat = (hi n).length := by
 have := hi_six h
 rw [UInt8.toNat_ofNat']; omega
theorem rdN_num (pre rest : List UInt8) {n : Nat} (h : n ≤ 1099511627776) : rdN (pre ++ (numN n ++ rest)) pre.length 0 = (n, (pre ++ numN n).length, 0) := by
 have h6 := hi_six h
 have e1 : szB (pre ++ (numN n ++ rest)) pre.length = (hi n).length := by
  unfold szB numN
  rw [List.getD_eq_getElem?_getD, List.getElem?_append_right (Nat.le_refl _), Nat.sub_self]
  exact numN_len n h
 have e2 : dig (pre ++ (numN n ++ rest)) pre.length = hi n := by
  unfold dig
  rw [e1]
  unfold numN
  rw [List.drop_append, List.drop_eq_nil_of_le (by omega), List.nil_append, show pre.length + 1 - pre.length = 1 by omega]
  show ((hi n) ++ rest).take _ = _
  rw [List.take_left' rfl]
 have e3 : rerr (pre ++ (numN n ++ rest)) pre.length = 0 := by
  unfold rerr
  rw [e1, e2, valN_hi]
  rw [if_neg (by simp [numN]), if_neg (by omega), if_neg (by simp [numN]; omega), if_neg]
  rintro (h1 | ⟨h1, h2⟩)
  ·omega
  ·refine hi_head n ?_ h2
   intro e; subst e; rw [hi_0] at h1; simp at h1
 unfold rdN
 rw [if_neg (by simp), if_pos e3]
 unfold rval rnx
 rw [e1, e2, valN_hi]
 simp only [Prod.mk.injEq, true_and, and_true]
 simp [numN]; omega
theorem rdT_text (pre : List UInt8) {t : List UInt8} (h : t.length ≤ 4096) : rdT (pre ++ textB t) pre.length 0 = (t, (pre ++ textB t).length, 0) := by
 have et : textB t = numN t.length ++ t := by
  unfold textB numB
  rw [if_neg (by omega), if_pos ⟨by omega, by omega⟩]; rfl
 rw [et]
 have hr := rdN_num pre t (n := t.length) (by omega)
 unfold rdN at hr
 rw [if_neg (by simp)] at hr
 have he : rerr (pre ++ (numN t.length ++ t)) pre.length = 0 := by
  by_cases h0 : rerr (pre ++ (numN t.length ++ t)) pre.length = 0
  ·exact h0
  ·rw [if_neg h0] at hr
   simp only [Prod.mk.injEq] at hr
   exact absurd hr.2.2 h0
 rw [if_pos he] at hr
 simp only [Prod.mk.injEq, and_true] at hr
 obtain ⟨hv, hx⟩ := hr
 have hc : cerr (pre ++ (numN t.length ++ t)) pre.length 4096 = 0 := by
  unfold cerr
  rw [if_neg (by rw [he]; simp), hv, if_neg (by omega)]
 unfold rdT
 rw [if_neg (by simp), if_neg (by rw [hc]; simp), hv, hx, if_neg (by simp; omega)]
 simp only [Prod.mk.injEq, and_true]
 refine ⟨?_, by simp; omega⟩
 rw [← List.append_assoc, List.drop_left' rfl, List.take_of_length_le (Nat.le_refl _)]
theorem numB_y {n : Int} (h : mayN n) : numB n = numN n.toNat := if_pos h
theorem tn {n : Int} (h : mayN n) : n.toNat ≤ 1099511627776 ∧ ((n.toNat : Nat) : Int) = n := by have := h.1; have := h.2; omega
theorem encB_y {m : M} (h : mayM m) : encB m = numN m.k.toNat ++ (numN (m.f + 1).toNat ++ (numN (m.t + 1).toNat ++ (numN m.j.toNat ++ (numN m.ep.toNat ++ (numN m.st.toNat ++ (numN m.ar.toNat ++ textB m.tx)))))) := by
 unfold encB
 rw [if_pos h]
 obtain ⟨q0, q1, q2, q3, q4, q5, q6, q7, q8⟩ := h
 show (numB m.k ++ (numB (m.f + 1) ++ (numB (m.t + 1) ++ (numB m.j ++ (numB m.ep ++ (numB m.st ++ (numB m.ar ++ []))))))) ++ textB m.tx = _
 rw [numB_y (n := m.k) ⟨q0, by omega⟩, numB_y (n := m.f + 1) ⟨by omega, by omega⟩, numB_y (n := m.t + 1) ⟨by omega, by omega⟩, numB_y q4, numB_y q5, numB_y q6, numB_y q7]
 simp
theorem decB_enc {m : M} (h : mayM m) : decB (encB m) = (m, 0) := by
 have h' := h
 obtain ⟨q0, q1, q2, q3, q4, q5, q6, q7, q8⟩ := h'
 have t0 := tn (n := m.k) ⟨q0, by omega⟩
 have t1 := tn (n := m.f + 1) ⟨by omega, by omega⟩
 have t2 := tn (n := m.t + 1) ⟨by omega, by omega⟩
 have t3 := tn q4
 have t4 := tn q5
 have t5 := tn q6
 have t6 := tn q7
 have e := encB_y h
 generalize hl : encB m = l at e
 have d0 : D0 l = (m.k.toNat, (numN m.k.toNat).length, 0) := by
  unfold D0; rw [e]; exact rdN_num [] _ t0.1
 have d1 : D1 l = ((m.f + 1).toNat, (numN m.k.toNat ++ numN (m.f + 1).toNat).length, 0) := by
  unfold D1; rw [d0, e]; exact rdN_num _ _ t1.1
 have d2 : D2 l = ((m.t + 1).toNat, ((numN m.k.toNat ++ numN (m.f + 1).toNat) ++ numN (m.t + 1).toNat).length, 0) := by
  unfold D2; rw [d1, e, ← List.append_assoc]; exact rdN_num _ _ t2.1
 have d3 : D3 l = (m.j.toNat, (((numN m.k.toNat ++ numN (m.f + 1).toNat) ++ numN (m.t + 1).toNat) ++ numN m.j.toNat).length, 0) := by
  unfold D3; rw [d2, e, ← List.append_assoc, ← List.append_assoc]; exact rdN_num _ _ t3.1
 have d4 : D4 l = (m.ep.toNat, ((((numN m.k.toNat ++ numN (m.f + 1).toNat) ++ numN (m.t + 1).toNat) ++ numN m.j.toNat) ++ numN m.ep.toNat).length, 0) := by
  unfold D4; rw [d3, e, ← List.append_assoc, ← List.append_assoc, ← List.append_assoc]; exact rdN_num _ _ t4.1
 have d5 : D5 l = (m.st.toNat, (((((numN m.k.toNat ++ numN (m.f + 1).toNat) ++ numN (m.t + 1).toNat) ++ numN m.j.toNat) ++ numN m.ep.toNat) ++ numN m.st.toNat).length, 0) := by
  unfold D5; rw [d4, e, ← List.append_assoc, ← List.append_assoc, ← List.append_assoc, ← List.append_assoc]; exact rdN_num _ _ t5.1
 have d6 : D6 l = (m.ar.toNat, ((((((numN m.k.toNat ++ numN (m.f + 1).toNat) ++ numN (m.t + 1).toNat) ++ numN m.j.toNat) ++ numN m.ep.toNat) ++ numN m.st.toNat) ++ numN m.ar.toNat).length, 0) := by
  unfold D6; rw [d5, e, ← List.append_assoc, ← List.append_assoc, ← List.append_assoc, ← List.append_assoc, ← List.append_assoc]; exact rdN_num _ _ t6.1
 have e' : l = ((((((numN m.k.toNat ++ numN (m.f + 1).toNat) ++ numN (m.t + 1).toNat) ++ numN m.j.toNat) ++ numN m.ep.toNat) ++ numN m.st.toNat) ++ numN m.ar.toNat) ++ textB m.tx := by rw [e]; simp
 have dT : DT l = (m.tx, l.length, 0) := by
  unfold DT; rw [d6]
  conv => lhs; rw [e']
  conv => rhs; rw [e']
  exact rdT_text _ (by omega)
 have hE : decE l = 0 := by
  unfold decE rdEnd
  rw [dT, if_neg (by simp)]
 have hM : decM l = m := by
  unfold decM
  rw [d0, d1, d2, d3, d4, d5, d6, dT]
  cases m
  simp only [M.mk.injEq] at *
  refine ⟨t0.2, by omega, by omega, t3.2, t4.2, t5.2, t6.2, trivial⟩
 unfold decB
 rw [if_neg (by rw [hE]; simp), hM, if_pos h]
theorem num_rdN {l : List UInt8} {p : Nat} {e : Int} (h : (rdN l p e).2.2 = 0) : e = 0 ∧ rerr l p = 0 ∧ rdN l p e = (rval l p, rnx l p, 0) := by
 unfold rdN at h ⊢
 by_cases he : e = 0
 ·rw [if_neg (by rw [he]; simp)] at h ⊢
  by_cases hr : rerr l p = 0
  ·exact ⟨he, hr, if_pos hr⟩
  ·rw [if_neg hr] at h
   exact absurd h hr
 ·rw [if_pos he] at h
  exact absurd h he
end Wir
end Go.Proofs.YtifdpllfbaogcaaGreat
namespace Go.Proofs.YtifdpllfbaogcaaGreat
open Go Go.RowKit B
namespace Wir
theorem can37 : B.Can Tryz.prog 37 := ⟨_, Tryz.func37, by kernel_rfl, rfl⟩
theorem can80 : B.Can Tryz.prog 80 := ⟨_, Tryz.func80, by kernel_rfl, rfl⟩
theorem can104 : B.Can Tryz.prog 104 := ⟨_, Tryz.func104, by kernel_rfl, rfl⟩
theorem can122 : B.Can Tryz.prog 122 := ⟨_, Tryz.func122, by kernel_rfl, rfl⟩
theorem conj11 (P0 P1 P2 P3 P4 P5 P6 P7 P8 P9 P10 : Prop) : (¬ P0) ∨ (P0 ∧ ¬ P1) ∨ (P0 ∧ P1 ∧ ¬ P2) ∨ (P0 ∧ P1 ∧ P2 ∧ ¬ P3) ∨ (P0 ∧ P1 ∧ P2 ∧ P3 ∧ ¬ P4) ∨ (P0 ∧ P1 ∧ P2 ∧ P3 ∧ P4 ∧ ¬ P5) ∨ (P0 ∧ P1 ∧ P2 ∧ P3 ∧ P4 ∧ P5 ∧ ¬ P6) ∨ (P0 ∧ P1 ∧ P2 ∧ P3 ∧ P4 ∧ P5 ∧ P6 ∧ ¬ P7) ∨ (P0 ∧ P1 ∧ P2 ∧ P3 ∧ P4 ∧ P5 ∧ P6 ∧ P7 ∧ ¬ P8) ∨ (P0 ∧ P1 ∧ P2 ∧ P3 ∧ P4 ∧ P5 ∧ P6 ∧ P7 ∧ P8 ∧ ¬ P9) ∨ (P0 ∧ P1 ∧ P2 ∧ P3 ∧ P4 ∧ P5 ∧ P6 ∧ P7 ∧ P8 ∧ P9 ∧ ¬ P10) ∨ (P0 ∧ P1 ∧ P2 ∧ P3 ∧ P4 ∧ P5 ∧ P6 ∧ P7 ∧ P8 ∧ P9 ∧ P10) := by
 by_cases h0 : P0
 rotate_left
 ·exact .inl h0
 by_cases h1 : P1
 rotate_left
 ·exact .inr (.inl ⟨h0, h1⟩)
 by_cases h2 : P2
 rotate_left
 ·exact .inr (.inr (.inl ⟨h0, h1, h2⟩))
 by_cases h3 : P3
 rotate_left
 ·exact .inr (.inr (.inr (.inl ⟨h0, h1, h2, h3⟩)))
 by_cases h4 : P4
 rotate_left
 ·exact .inr (.inr (.inr (.inr (.inl ⟨h0, h1, h2, h3, h4⟩))))
 by_cases h5 : P5
 rotate_left
 ·exact .inr (.inr (.inr (.inr (.inr (.inl ⟨h0, h1, h2, h3, h4, h5⟩)))))
 by_cases h6 : P6
 rotate_left
 ·exact .inr (.inr (.inr (.inr (.inr (.inr (.inl ⟨h0, h1, h2, h3, h4, h5, h6⟩))))))
 by_cases h7 : P7
 rotate_left
 ·exact .inr (.inr (.inr (.inr (.inr (.inr (.inr (.inl ⟨h0, h1, h2, h3, h4, h5, h6, h7⟩)))))))
 by_cases h8 : P8
 rotate_left
 ·exact .inr (.inr (.inr (.inr (.inr (.inr (.inr (.inr (.inl ⟨h0, h1, h2, h3, h4, h5, h6, h7, h8⟩))))))))
 by_cases h9 : P9
 rotate_left
 ·exact .inr (.inr (.inr (.inr (.inr (.inr (.inr (.inr (.inr (.inl ⟨h0, h1, h2, h3, h4, h5, h6, h7, h8, h9⟩)))))))))
 by_cases h10 : P10
 rotate_left
 ·exact .inr (.inr (.inr (.inr (.inr (.inr (.inr (.inr (.inr (.inr (.inl ⟨h0, h1, h2, h3, h4, h5, h6, h7, h8, h9, h10⟩))))))))))
 exact .inr (.inr (.inr (.inr (.inr (.inr (.inr (.inr (.inr (.inr (.inr ⟨h0, h1, h2, h3, h4, h5, h6, h7, h8, h9, h10⟩))))))))))
theorem one_el {c b : UInt8} {j : Nat} (h : [c][j]? = some b) : (([c] : List UInt8).map V8).toArray[j]? = some (V8 b) := by
 rcases j with _ | j
 ·have : c = b := by simpa using h
  subst this; rfl
 ·simp at h
theorem numB_nil {n : Int} : numB n ≠ [] ↔ mayN n := by
 constructor
 ·intro h
  by_cases hn : mayN n
  ·exact hn
  ·exact absurd (by unfold numB; rw [if_neg hn]) h
 ·exact numB_ne
theorem may_eq (m : M) : (0 ≤ m.k ∧ m.k ≤ 9 ∧ -1 ≤ m.f ∧ m.f ≤ 15 ∧ -1 ≤ m.t ∧ m.t ≤ 15 ∧ numB m.j ≠ [] ∧ numB m.ep ≠ [] ∧ numB m.st ≠ [] ∧ numB m.ar ≠ [] ∧ (m.tx.length : Int) ≤ 4096) ↔ mayM m := by
 simp only [numB_nil]
 unfold mayM
 constructor
 ·rintro ⟨q0, q1, q2, q3, q4, q5, q6, q7, q8, q9, q10⟩
  exact ⟨q0, by omega, ⟨q2, by omega⟩, ⟨q4, by omega⟩, q6, q7, q8, q9, q10⟩
 ·rintro ⟨q0, q1, q2, q3, q4, q5, q6, q7, q8⟩
  exact ⟨q0, by omega, q2.1, by omega, q3.1, by omega, q4, q5, q6, q7, q8⟩
theorem high_c {W : World} {F : Snap} {cs : List Res} (w : World) (m : Nat) (h : St W F cs w) (hm : m ≤ 1099511627776) : Calls Tryz.prog 122 #[Vi (m : Int)] w fun r w' => r = .returned (.string (bs (hi m))) ∧ St W F cs w'  := by
 refine enter (P := Tryz.prog) (args := [Vi (m : Int)]) Tryz.func122 rfl rfl rfl ?_
 refine WC.seq (WC.reg ?_)
 refine WL.e 1 rfl ?_
 refine WL.nil (WN.thn (WC.seq (WC.reg ?_)))
 refine WL.e 1 rfl ?_
 refine WL.nil (WN.thn (WC.seq (WC.block ?_)))
 refine WC.loop (σ := Nat × List UInt8) (fun q_ => [(0, Vi (q_.1 : Int)), (3, .string (bs q_.2))]) (fun q_ w => q_.1 ≤ m ∧ hi m = hi q_.1 ++ q_.2 ∧ q_.2.length ≤ (hi m).length ∧ St W F cs w) (fun q_ => q_.1) (⟨m, []⟩) (by repeat (first | exact trivial | refine ⟨rfl, ?_⟩)) (⟨Nat.le_refl _, by simp, by simp, h⟩) ?_
 rintro ⟨n, s⟩ w1 ⟨hn, he, hs, hL⟩
 try dsimp only at hn he hs hL
 refine WC.sub (s := [(0, Vi (n : Int)), (3, .string (bs s))]) (by repeat (first | exact trivial | refine ⟨rfl, ?_⟩)) ?_
 refine WC.seq (WC.seq (WC.reg ?_))
 refine WL.e 1 rfl ?_
 refine WL.v (Runs.gtr rfl rfl) rfl ?_
 refine WL.nil (WN.thn ?_)
 refine WC.cond rfl (fun c2 => ?_) (fun c2 => ?_)
 ·try simp only [dt, df, nt, nf, ba, il, ie] at c2
  first
  |(exfalso; omega)
  |skip
   refine WC.skip (WN.thn (WC.block (WC.seq (WC.reg ?_))))
   refine WL.e 1 rfl ?_
   refine WL.v (Runs.remn (m := (n : Int)) (n := 256) rfl rfl (by omega) (by omega)) rfl ?_
   refine WL.v (Runs.ito8 Tryz.underlying3 Tryz.underlying5 (m := n % 256) rfl (by omega)) rfl ?_
   refine WL.lit (vs := (([UInt8.ofNat (n % 256)] : List UInt8)).map V8) hL rfl Tryz.underlying120 inf5 rfl rfl rfl rfl rfl ?_
   intro lit9 w3 h3
   refine WL.v (Runs.valT (u := .string (bs [UInt8.ofNat (n % 256)])) (Runs.b2s Tryz.underlying120 Tryz.underlying5 Tryz.underlying9 rfl rfl (bs := [UInt8.ofNat (n % 256)]) (.inr ⟨_, rfl, fun j b hb => by rw [add_mk, Nat.zero_add]; exact h3.ocell (i := 0) rfl (one_el hb)⟩)) rfl) rfl ?_
   refine WL.e 1 rfl ?_
   refine WL.v (Runs.lsadd (a := [UInt8.ofNat (n % 256)]) (b := s) rfl rfl (by have := hi_six hm; simp; omega)) rfl ?_
   refine WL.e 1 rfl ?_
   refine WL.nil (WN.thn (WC.reg ?_))
   refine WL.e 1 rfl ?_
   refine WL.v (Runs.intT (n := ((n / 256 : Nat) : Int)) (Runs.quon (m := (n : Int)) (n := 256) rfl rfl (by omega) (by omega)) (by omega)) rfl ?_
   refine WL.e 1 rfl ?_
   refine WL.nil (WN.blk ?_)
   refine WN.again (⟨n / 256, UInt8.ofNat (n % 256) :: s⟩ : Nat × List UInt8) (by show n / 256 < n; omega) ⟨rfl, rfl, trivial⟩ ⟨by show n / 256 ≤ m; omega, ?_, ?_, h3.drop 0⟩
   ·show hi m = hi (n / 256) ++ (UInt8.ofNat (n % 256) :: s)
    rw [he, hi_s (n := n) (by omega), show UInt8.ofNat (n % 256) = UInt8.ofNat n from UInt8.toNat_inj.1 (by rw [UInt8.toNat_ofNat', UInt8.toNat_ofNat']; omega)]
    simp
   ·show (UInt8.ofNat (n % 256) :: s).length ≤ _
    rw [he, hi_s (n := n) (by omega)]
    simp
 ·try simp only [dt, df, nt, nf, ba, il, ie] at c2
  first
  |(exfalso; omega)
  |skip
   refine WC.exit (WX.thn (WX.cut (WX.hit (WN.thn (WC.seq ?_)))))
   refine WC.reg ?_
   refine WL.e 2 rfl ?_
   refine WL.nil (WN.thn (WC.ret ?_))
   obtain rfl : n = 0 := by omega
   refine ret1 rfl rfl ⟨?_, hL⟩
   rw [he, hi_0]; rfl
theorem rnum_no {W : World} {F : Snap} {cs : List Res} (w : World) (n : Int) (h : St W F cs w) (hn : ¬ mayN n) : Calls Tryz.prog 80 #[Vi n] w fun r w' => r = .returned (.string (bs (numB n))) ∧ St W F cs w'  := by
 refine enter (P := Tryz.prog) (args := [Vi n]) Tryz.func80 rfl rfl rfl ?_
 refine WC.seq (WC.reg ?_)
 refine WL.e 1 rfl ?_
 refine WL.nil (WN.thn (WC.seq (WC.seq ?_)))
 have hcase : n < 0 ∨ (0 ≤ n ∧ 1099511627776 < n) := by unfold mayN at hn; omega
 rcases hcase with hA | hB
 ·skip
  refine WC.reg ?_
  refine WL.e 1 rfl ?_
  refine WL.v (Runs.boolT (c := true) (Runs.lss rfl rfl) (by rw [decide_eq_true_eq]; omega)) rfl ?_
  refine WL.e 4 rfl ?_
  refine WL.nil (WN.thn ?_)
  refine WC.condT rfl (rfl) ?_
  refine WC.seq (WC.reg ?_)
  refine WL.e 1 rfl ?_
  refine WL.nil (WN.thn (WC.ret ?_))
  refine ret1 rfl rfl ⟨?_, h⟩
  rw [numB, if_neg hn]; rfl
 ·skip
  refine WC.reg ?_
  refine WL.e 1 rfl ?_
  refine WL.v (Runs.boolT (c := false) (Runs.lss rfl rfl) (by rw [decide_eq_false_iff_not]; omega)) rfl ?_
  refine WL.e 2 rfl ?_
  refine WL.gon rfl rfl rfl ?_
  refine WL.v (Runs.boolT (c := true) (Runs.gtr rfl rfl) (by rw [decide_eq_true_eq]; omega)) rfl ?_
  refine WL.e 1 rfl ?_
  refine WL.nil (WN.thn ?_)
  refine WC.condT rfl (rfl) ?_
  refine WC.seq (WC.reg ?_)
  refine WL.e 1 rfl ?_
  refine WL.nil (WN.thn (WC.ret ?_))
  refine ret1 rfl rfl ⟨?_, h⟩
  rw [numB, if_neg hn]; rfl
theorem rnum_y {W : World} {F : Snap} {cs : List Res} (w : World) (m : Nat) (h : St W F cs w) (hm : m ≤ 1099511627776) : Calls Tryz.prog 80 #[Vi (m : Int)] w fun r w' => r = .returned (.string (bs (numN m))) ∧ St W F cs w'  := by
 refine enter (P := Tryz.prog) (args := [Vi (m : Int)]) Tryz.func80 rfl rfl rfl ?_
 refine WC.seq (WC.reg ?_)
 refine WL.e 1 rfl ?_
 refine WL.nil (WN.thn (WC.seq (WC.seq (WC.reg ?_))))
 refine WL.e 1 rfl ?_
 refine WL.v (Runs.boolT (c := false) (Runs.lss rfl rfl) (by rw [decide_eq_false_iff_not]; omega)) rfl ?_
 refine WL.e 2 rfl ?_
 refine WL.gon rfl rfl rfl ?_
 refine WL.v (Runs.boolT (c := false) (Runs.gtr rfl rfl) (by rw [decide_eq_false_iff_not]; omega)) rfl ?_
 refine WL.e 1 rfl ?_
 refine WL.nil (WN.thn ?_)
 refine WC.condF rfl (rfl) ?_
 refine WC.skip (WN.thn (WC.seq (WC.reg ?_)))
 refine WL.e 1 rfl ?_
 refine WL.call can122 rfl rfl (high_c _ m h hm) ?_
 rintro _ w1 ⟨rfl, h1⟩
 refine ⟨_, rfl, ?_⟩
 refine WL.e 1 rfl ?_
 refine WL.nil (WN.thn (WC.seq (WC.reg ?_)))
 refine WL.e 1 rfl ?_
 refine WL.v (Runs.intT (n := ((hi m).length : Int)) (Runs.slen Tryz.underlying9 rfl rfl) rfl) rfl ?_
 refine WL.v (Runs.ito8 Tryz.underlying3 Tryz.underlying5 (m := (hi m).length) rfl rfl) rfl ?_
 refine WL.lit (vs := (([UInt8.ofNat (hi m).length] : List UInt8)).map V8) h1 rfl Tryz.underlying120 inf5 rfl rfl rfl rfl rfl ?_
 intro lit15 w2 h2
 refine WL.v (Runs.valT (u := .string (bs [UInt8.ofNat (hi m).length])) (Runs.b2s Tryz.underlying120 Tryz.underlying5 Tryz.underlying9 rfl rfl (bs := [UInt8.ofNat (hi m).length]) (.inr ⟨_, rfl, fun j b hb => by rw [add_mk, Nat.zero_add]; exact h2.ocell (i := 0) rfl (one_el hb)⟩)) rfl) rfl ?_
 refine WL.e 1 rfl ?_
 refine WL.v (Runs.lsadd (a := [UInt8.ofNat (hi m).length]) (b := hi m) rfl rfl (by have := hi_six hm; simp; omega)) rfl ?_
 refine WL.e 1 rfl ?_
 refine WL.nil (WN.thn (WC.ret ?_))
 exact ret1 rfl rfl ⟨rfl, h2.drop 0⟩
theorem rnum_c {W : World} {F : Snap} {cs : List Res} (w : World) (n : Int) (h : St W F cs w) : Calls Tryz.prog 80 #[Vi n] w fun r w' => r = .returned (.string (bs (numB n))) ∧ St W F cs w' := by
 by_cases hn : mayN n
 ·have e : n = ((n.toNat : Nat) : Int) := by have := hn.1; omega
  have h2 := hn.2
  rw [numB, if_pos hn]
  have := rnum_y w n.toNat h (by omega)
  rwa [← e] at this
 ·exact rnum_no w n h hn
theorem rtext_c {W : World} {F : Snap} {cs : List Res} (w : World) (l : List UInt8) (h : St W F cs w) (hl : l.length ≤ 100000) : Calls Tryz.prog 104 #[.string (bs l)] w fun r w' => r = .returned (.string (bs (textB l))) ∧ St W F cs w'  := by
 refine enter (P := Tryz.prog) (args := [.string (bs l)]) Tryz.func104 rfl rfl rfl ?_
 refine WC.seq (WC.reg ?_)
 refine WL.e 1 rfl ?_
 refine WL.nil (WN.thn (WC.seq (WC.seq (WC.reg ?_))))
 refine WL.e 1 rfl ?_
 refine WL.v (Runs.intT (n := (l.length : Int)) (Runs.slen Tryz.underlying9 rfl rfl) rfl) rfl ?_
 refine WL.v (Runs.gtr rfl rfl) rfl ?_
 refine WL.nil (WN.thn ?_)
 refine WC.cond rfl (fun c1 => ?_) (fun c1 => ?_)
 ·try simp only [dt, df, nt, nf, ba, il, ie] at c1
  first
  |(exfalso; omega)
  |skip
   refine WC.seq (WC.reg ?_)
   refine WL.e 1 rfl ?_
   refine WL.nil (WN.thn (WC.ret ?_))
   refine ret1 rfl rfl ⟨?_, h⟩
   unfold textB
   rw [if_pos (by omega)]; rfl
 ·try simp only [dt, df, nt, nf, ba, il, ie] at c1
  first
  |(exfalso; omega)
  |skip
   refine WC.skip (WN.thn (WC.seq (WC.reg ?_)))
   refine WL.e 1 rfl ?_
   refine WL.v (Runs.intT (n := (l.length : Int)) (Runs.slen Tryz.underlying9 rfl rfl) rfl) rfl ?_
   refine WL.call can80 rfl rfl (rnum_c _ _ h) ?_
   rintro _ w2 ⟨rfl, h2⟩
   refine ⟨_, rfl, ?_⟩
   refine WL.e 1 rfl ?_
   refine WL.v (Runs.lsadd rfl rfl (by have := numB_len (l.length : Int); omega)) rfl ?_
   refine WL.e 1 rfl ?_
   refine WL.nil (WN.thn (WC.ret ?_))
   refine ret1 rfl rfl ⟨?_, h2⟩
   unfold textB
   rw [if_neg (by omega)]
theorem rmay_c {W : World} {F : Snap} {cs : List Res} (w : World) (m : M) (h : St W F cs w) : Calls Tryz.prog 37 #[m.val] w fun r w' => r = .returned (.bool (decide (mayM m))) ∧ St W F cs w'  := by
 refine enter (P := Tryz.prog) (args := [.agg #[Vi m.k, Vi m.f, Vi m.t, Vi m.j, Vi m.ep, Vi m.st, Vi m.ar, .string (bs m.tx)]]) Tryz.func37 rfl rfl rfl ?_
 refine WC.seq (WC.reg ?_)
 refine WL.box rfl h rfl ?_
 intro b1 w1 h1
 refine WL.e 1 rfl ?_
 refine WL.nil (WN.thn (WC.seq ?_))
 rcases conj11 (0 ≤ m.k) (m.k ≤ 9) (-1 ≤ m.f) (m.f ≤ 15) (-1 ≤ m.t) (m.t ≤ 15) (numB m.j ≠ []) (numB m.ep ≠ []) (numB m.st ≠ []) (numB m.ar ≠ []) ((m.tx.length : Int) ≤ 4096) with q0 | ⟨q0, q1⟩ | ⟨q0, q1, q2⟩ | ⟨q0, q1, q2, q3⟩ | ⟨q0, q1, q2, q3, q4⟩ | ⟨q0, q1, q2, q3, q4, q5⟩ | ⟨q0, q1, q2, q3, q4, q5, q6⟩ | ⟨q0, q1, q2, q3, q4, q5, q6, q7⟩ | ⟨q0, q1, q2, q3, q4, q5, q6, q7, q8⟩ | ⟨q0, q1, q2, q3, q4, q5, q6, q7, q8, q9⟩ | ⟨q0, q1, q2, q3, q4, q5, q6, q7, q8, q9, q10⟩ | ⟨q0, q1, q2, q3, q4, q5, q6, q7, q8, q9, q10⟩
 ·skip
  refine WC.reg ?_
  refine WL.e 1 rfl ?_
  refine WL.v (Runs.load1 Tryz.underlying3 rfl rfl (h1.ocell (i := 0) rfl rfl)) rfl ?_
  refine WL.v (Runs.boolT (c := false) (Runs.geq rfl rfl) (decide_eq_false q0)) rfl ?_
  refine WL.e 56 rfl ?_
  refine WL.nil (WN.thn (WC.ret ?_))
  refine ret1 rfl rfl ⟨?_, h1.drop 0⟩
  rw [decide_eq_false (fun hm => q0 ((may_eq m).2 hm).1)]; rfl
 ·skip
  refine WC.reg ?_
  refine WL.e 1 rfl ?_
  refine WL.v (Runs.load1 Tryz.underlying3 rfl rfl (h1.ocell (i := 0) rfl rfl)) rfl ?_
  refine WL.v (Runs.boolT (c := true) (Runs.geq rfl rfl) (decide_eq_true q0)) rfl ?_
  refine WL.e 2 rfl ?_
  refine WL.gon rfl rfl rfl ?_
  refine WL.v (Runs.load1 Tryz.underlying3 rfl rfl (h1.ocell (i := 0) rfl rfl)) rfl ?_
  refine WL.gon rfl rfl rfl ?_
  refine WL.v (Runs.boolT (c := false) (Runs.leq rfl rfl) (decide_eq_false q1)) rfl ?_
  refine WL.e 52 rfl ?_
  refine WL.nil (WN.thn (WC.ret ?_))
  refine ret1 rfl rfl ⟨?_, h1.drop 0⟩
  rw [decide_eq_false (fun hm => q1 ((may_eq m).2 hm).2.1)]; rfl
 ·skip
  refine WC.reg ?_
  refine WL.e 1 rfl ?_
  refine WL.v (Runs.load1 Tryz.underlying3 rfl rfl (h1.ocell (i := 0) rfl rfl)) rfl ?_
  refine WL.v (Runs.boolT (c := true) (Runs.geq rfl rfl) (decide_eq_true q0)) rfl ?_
  refine WL.e 2 rfl ?_
  refine WL.gon rfl rfl rfl ?_
  refine WL.v (Runs.load1 Tryz.underlying3 rfl rfl (h1.ocell (i := 0) rfl rfl)) rfl ?_
  refine WL.gon rfl rfl rfl ?_
  refine WL.v (Runs.boolT (c := true) (Runs.leq rfl rfl) (decide_eq_true q1)) rfl ?_
  refine WL.e 3 rfl ?_
  refine WL.gon rfl rfl rfl ?_
  refine WL.v (Runs.load1 Tryz.underlying3 rfl rfl (h1.ocell (i := 0) rfl rfl)) rfl ?_
  refine WL.gon rfl rfl rfl ?_
  refine WL.v (Runs.boolT (c := false) (Runs.geq rfl rfl) (decide_eq_false q2)) rfl ?_
  refine WL.e 47 rfl ?_
  refine WL.nil (WN.thn (WC.ret ?_))
  refine ret1 rfl rfl ⟨?_, h1.drop 0⟩
  rw [decide_eq_false (fun hm => q2 ((may_eq m).2 hm).2.2.1)]; rfl
 ·skip
  refine WC.reg ?_
  refine WL.e 1 rfl ?_
  refine WL.v (Runs.load1 Tryz.underlying3 rfl rfl (h1.ocell (i := 0) rfl rfl)) rfl ?_
  refine WL.v (Runs.boolT (c := true) (Runs.geq rfl rfl) (decide_eq_true q0)) rfl ?_
  refine WL.e 2 rfl ?_
  refine WL.gon rfl rfl rfl ?_
  refine WL.v (Runs.load1 Tryz.underlying3 rfl rfl (h1.ocell (i := 0) rfl rfl)) rfl ?_
  refine WL.gon rfl rfl rfl ?_
  refine WL.v (Runs.boolT (c := true) (Runs.leq rfl rfl) (decide_eq_true q1)) rfl ?_
  refine WL.e 3 rfl ?_
  refine WL.gon rfl rfl rfl ?_
  refine WL.v (Runs.load1 Tryz.underlying3 rfl rfl (h1.ocell (i := 0) rfl rfl)) rfl ?_
  refine WL.gon rfl rfl rfl ?_
  refine WL.v (Runs.boolT (c := true) (Runs.geq rfl rfl) (decide_eq_true q2)) rfl ?_
  refine WL.e 3 rfl ?_
  refine WL.gon rfl rfl rfl ?_
  refine WL.v (Runs.load1 Tryz.underlying3 rfl rfl (h1.ocell (i := 0) rfl rfl)) rfl ?_
  refine WL.gon rfl rfl rfl ?_
  refine WL.v (Runs.boolT (c := false) (Runs.leq rfl rfl) (decide_eq_false q3)) rfl ?_
  refine WL.e 42 rfl ?_
  refine WL.nil (WN.thn (WC.ret ?_))
  refine ret1 rfl rfl ⟨?_, h1.drop 0⟩
  rw [decide_eq_false (fun hm => q3 ((may_eq m).2 hm).2.2.2.1)]; rfl
 ·skip
  refine WC.reg ?_
  refine WL.e 1 rfl ?_
  refine WL.v (Runs.load1 Tryz.underlying3 rfl rfl (h1.ocell (i := 0) rfl rfl)) rfl ?_
  refine WL.v (Runs.boolT (c := true) (Runs.geq rfl rfl) (decide_eq_true q0)) rfl ?_
  refine WL.e 2 rfl ?_
  refine WL.gon rfl rfl rfl ?_
  refine WL.v (Runs.load1 Tryz.underlying3 rfl rfl (h1.ocell (i := 0) rfl rfl)) rfl ?_
  refine WL.gon rfl rfl rfl ?_
  refine WL.v (Runs.boolT (c := true) (Runs.leq rfl rfl) (decide_eq_true q1)) rfl ?_
  refine WL.e 3 rfl ?_
  refine WL.gon rfl rfl rfl ?_
  refine WL.v (Runs.load1 Tryz.underlying3 rfl rfl (h1.ocell (i := 0) rfl rfl)) rfl ?_
  refine WL.gon rfl rfl rfl ?_
  refine WL.v (Runs.boolT (c := true) (Runs.geq rfl rfl) (decide_eq_true q2)) rfl ?_
  refine WL.e 3 rfl ?_
  refine WL.gon rfl rfl rfl ?_
  refine WL.v (Runs.load1 Tryz.underlying3 rfl rfl (h1.ocell (i := 0) rfl rfl)) rfl ?_
  refine WL.gon rfl rfl rfl ?_
  refine WL.v (Runs.boolT (c := true) (Runs.leq rfl rfl) (decide_eq_true q3)) rfl ?_
  refine WL.e 3 rfl ?_
  refine WL.gon rfl rfl rfl ?_
  refine WL.v (Runs.load1 Tryz.underlying3 rfl rfl (h1.ocell (i := 0) rfl rfl)) rfl ?_
  refine WL.gon rfl rfl rfl ?_
  refine WL.v (Runs.boolT (c := false) (Runs.geq rfl rfl) (decide_eq_false q4)) rfl ?_
  refine WL.e 37 rfl ?_
  refine WL.nil (WN.thn (WC.ret ?_))
  refine ret1 rfl rfl ⟨?_, h1.drop 0⟩
  rw [decide_eq_false (fun hm => q4 ((may_eq m).2 hm).2.2.2.2.1)]; rfl
 ·skip
  refine WC.reg ?_
  refine WL.e 1 rfl ?_
  refine WL.v (Runs.load1 Tryz.underlying3 rfl rfl (h1.ocell (i := 0) rfl rfl)) rfl ?_
  refine WL.v (Runs.boolT (c := true) (Runs.geq rfl rfl) (decide_eq_true q0)) rfl ?_
  refine WL.e 2 rfl ?_
  refine WL.gon rfl rfl rfl ?_
  refine WL.v (Runs.load1 Tryz.underlying3 rfl rfl (h1.ocell (i := 0) rfl rfl)) rfl ?_
  refine WL.gon rfl rfl rfl ?_
  refine WL.v (Runs.boolT (c := true) (Runs.leq rfl rfl) (decide_eq_true q1)) rfl ?_
  refine WL.e 3 rfl ?_
  refine WL.gon rfl rfl rfl ?_
  refine WL.v (Runs.load1 Tryz.underlying3 rfl rfl (h1.ocell (i := 0) rfl rfl)) rfl ?_
  refine WL.gon rfl rfl rfl ?_
  refine WL.v (Runs.boolT (c := true) (Runs.geq rfl rfl) (decide_eq_true q2)) rfl ?_
  refine WL.e 3 rfl ?_
  refine WL.gon rfl rfl rfl ?_
  refine WL.v (Runs.load1 Tryz.underlying3 rfl rfl (h1.ocell (i := 0) rfl rfl)) rfl ?_
  refine WL.gon rfl rfl rfl ?_
  refine WL.v (Runs.boolT (c := true) (Runs.leq rfl rfl) (decide_eq_true q3)) rfl ?_
  refine WL.e 3 rfl ?_
  refine WL.gon rfl rfl rfl ?_
  refine WL.v (Runs.load1 Tryz.underlying3 rfl rfl (h1.ocell (i := 0) rfl rfl)) rfl ?_
  refine WL.gon rfl rfl rfl ?_
  refine WL.v (Runs.boolT (c := true) (Runs.geq rfl rfl) (decide_eq_true q4)) rfl ?_
  refine WL.e 3 rfl ?_
  refine WL.gon rfl rfl rfl ?_
  refine WL.v (Runs.load1 Tryz.underlying3 rfl rfl (h1.ocell (i := 0) rfl rfl)) rfl ?_
  refine WL.gon rfl rfl rfl ?_
  refine WL.v (Runs.boolT (c := false) (Runs.leq rfl rfl) (decide_eq_false q5)) rfl ?_
  refine WL.e 32 rfl ?_
  refine WL.nil (WN.thn (WC.ret ?_))
  refine ret1 rfl rfl ⟨?_, h1.drop 0⟩
  rw [decide_eq_false (fun hm => q5 ((may_eq m).2 hm).2.2.2.2.2.1)]; rfl
 ·skip
  refine WC.reg ?_
  refine WL.e 1 rfl ?_
  refine WL.v (Runs.load1 Tryz.underlying3 rfl rfl (h1.ocell (i := 0) rfl rfl)) rfl ?_
  refine WL.v (Runs.boolT (c := true) (Runs.geq rfl rfl) (decide_eq_true q0)) rfl ?_
  refine WL.e 2 rfl ?_
  refine WL.gon rfl rfl rfl ?_
  refine WL.v (Runs.load1 Tryz.underlying3 rfl rfl (h1.ocell (i := 0) rfl rfl)) rfl ?_
  refine WL.gon rfl rfl rfl ?_
  refine WL.v (Runs.boolT (c := true) (Runs.leq rfl rfl) (decide_eq_true q1)) rfl ?_
  refine WL.e 3 rfl ?_
  refine WL.gon rfl rfl rfl ?_
  refine WL.v (Runs.load1 Tryz.underlying3 rfl rfl (h1.ocell (i := 0) rfl rfl)) rfl ?_
  refine WL.gon rfl rfl rfl ?_
  refine WL.v (Runs.boolT (c := true) (Runs.geq rfl rfl) (decide_eq_true q2)) rfl ?_
  refine WL.e 3 rfl ?_
  refine WL.gon rfl rfl rfl ?_
  refine WL.v (Runs.load1 Tryz.underlying3 rfl rfl (h1.ocell (i := 0) rfl rfl)) rfl ?_
  refine WL.gon rfl rfl rfl ?_
  refine WL.v (Runs.boolT (c := true) (Runs.leq rfl rfl) (decide_eq_true q3)) rfl ?_
  refine WL.e 3 rfl ?_
  refine WL.gon rfl rfl rfl ?_
  refine WL.v (Runs.load1 Tryz.underlying3 rfl rfl (h1.ocell (i := 0) rfl rfl)) rfl ?_
  refine WL.gon rfl rfl rfl ?_
  refine WL.v (Runs.boolT (c := true) (Runs.geq rfl rfl) (decide_eq_true q4)) rfl ?_
  refine WL.e 3 rfl ?_
  refine WL.gon rfl rfl rfl ?_
  refine WL.v (Runs.load1 Tryz.underlying3 rfl rfl (h1.ocell (i := 0) rfl rfl)) rfl ?_
  refine WL.gon rfl rfl rfl ?_
  refine WL.v (Runs.boolT (c := true) (Runs.leq rfl rfl) (decide_eq_true q5)) rfl ?_
  refine WL.e 3 rfl ?_
  refine WL.gon rfl rfl rfl ?_
  refine WL.v (Runs.load1 Tryz.underlying3 rfl rfl (h1.ocell (i := 0) rfl rfl)) rfl ?_
  refine WL.gon rfl rfl rfl ?_
  refine WL.call can80 rfl rfl (rnum_c _ _ h1) ?_
  rintro _ w2 ⟨rfl, h2⟩
  refine ⟨_, rfl, ?_⟩
  refine WL.gon rfl rfl rfl ?_
  refine WL.v (Runs.boolT (c := false) (Runs.lsneq (b := []) rfl rfl) (by rw [decide_eq_true (Classical.not_not.1 q6)]; rfl)) rfl ?_
  refine WL.e 26 rfl ?_
  refine WL.nil (WN.thn (WC.ret ?_))
  refine ret1 rfl rfl ⟨?_, h2.drop 0⟩
  rw [decide_eq_false (fun hm => q6 ((may_eq m).2 hm).2.2.2.2.2.2.1)]; rfl
 ·skip
  refine WC.reg ?_
  refine WL.e 1 rfl ?_
  refine WL.v (Runs.load1 Tryz.underlying3 rfl rfl (h1.ocell (i := 0) rfl rfl)) rfl ?_
  refine WL.v (Runs.boolT (c := true) (Runs.geq rfl rfl) (decide_eq_true q0)) rfl ?_
  refine WL.e 2 rfl ?_
  refine WL.gon rfl rfl rfl ?_
  refine WL.v (Runs.load1 Tryz.underlying3 rfl rfl (h1.ocell (i := 0) rfl rfl)) rfl ?_
  refine WL.gon rfl rfl rfl ?_
  refine WL.v (Runs.boolT (c := true) (Runs.leq rfl rfl) (decide_eq_true q1)) rfl ?_
  refine WL.e 3 rfl ?_
  refine WL.gon rfl rfl rfl ?_
  refine WL.v (Runs.load1 Tryz.underlying3 rfl rfl (h1.ocell (i := 0) rfl rfl)) rfl ?_
  refine WL.gon rfl rfl rfl ?_
  refine WL.v (Runs.boolT (c := true) (Runs.geq rfl rfl) (decide_eq_true q2)) rfl ?_
  refine WL.e 3 rfl ?_
  refine WL.gon rfl rfl rfl ?_
  refine WL.v (Runs.load1 Tryz.underlying3 rfl rfl (h1.ocell (i := 0) rfl rfl)) rfl ?_
  refine WL.gon rfl rfl rfl ?_
  refine WL.v (Runs.boolT (c := true) (Runs.leq rfl rfl) (decide_eq_true q3)) rfl ?_
  refine WL.e 3 rfl ?_
  refine WL.gon rfl rfl rfl ?_
  refine WL.v (Runs.load1 Tryz.underlying3 rfl rfl (h1.ocell (i := 0) rfl rfl)) rfl ?_
  refine WL.gon rfl rfl rfl ?_
  refine WL.v (Runs.boolT (c := true) (Runs.geq rfl rfl) (decide_eq_true q4)) rfl ?_
  refine WL.e 3 rfl ?_
  refine WL.gon rfl rfl rfl ?_
  refine WL.v (Runs.load1 Tryz.underlying3 rfl rfl (h1.ocell (i := 0) rfl rfl)) rfl ?_
  refine WL.gon rfl rfl rfl ?_
  refine WL.v (Runs.boolT (c := true) (Runs.leq rfl rfl) (decide_eq_true q5)) rfl ?_
  refine WL.e 3 rfl ?_
  refine WL.gon rfl rfl rfl ?_
  refine WL.v (Runs.load1 Tryz.underlying3 rfl rfl (h1.ocell (i := 0) rfl rfl)) rfl ?_
  refine WL.gon rfl rfl rfl ?_
  refine WL.call can80 rfl rfl (rnum_c _ _ h1) ?_
  rintro _ w3 ⟨rfl, h3⟩
  refine ⟨_, rfl, ?_⟩
  refine WL.gon rfl rfl rfl ?_
  refine WL.v (Runs.boolT (c := true) (Runs.lsneq (b := []) rfl rfl) (by rw [decide_eq_false q6]; rfl)) rfl ?_
  refine WL.e 3 rfl ?_
  refine WL.gon rfl rfl rfl ?_
  refine WL.v (Runs.load1 Tryz.underlying3 rfl rfl (h3.ocell (i := 0) rfl rfl)) rfl ?_
  refine WL.gon rfl rfl rfl ?_
  refine WL.call can80 rfl rfl (rnum_c _ _ h3) ?_
  rintro _ w4 ⟨rfl, h4⟩
  refine ⟨_, rfl, ?_⟩
  refine WL.gon rfl rfl rfl ?_
  refine WL.v (Runs.boolT (c := false) (Runs.lsneq (b := []) rfl rfl) (by rw [decide_eq_true (Classical.not_not.1 q7)]; rfl)) rfl ?_
  refine WL.e 20 rfl ?_
  refine WL.nil (WN.thn (WC.ret ?_))
  refine ret1 rfl rfl ⟨?_, h4.drop 0⟩
  rw [decide_eq_false (fun hm => q7 ((may_eq m).2 hm).2.2.2.2.2.2.2.1)]; rfl
 ·skip
  refine WC.reg ?_
  refine WL.e 1 rfl ?_
  refine WL.v (Runs.load1 Tryz.underlying3 rfl rfl (h1.ocell (i := 0) rfl rfl)) rfl ?_
  refine WL.v (Runs.boolT (c := true) (Runs.geq rfl rfl) (decide_eq_true q0)) rfl ?_
  refine WL.e 2 rfl ?_
  refine WL.gon rfl rfl rfl ?_
  refine WL.v (Runs.load1 Tryz.underlying3 rfl rfl (h1.ocell (i := 0) rfl rfl)) rfl ?_
  refine WL.gon rfl rfl rfl ?_
  refine WL.v (Runs.boolT (c := true) (Runs.leq rfl rfl) (decide_eq_true q1)) rfl ?_
  refine WL.e 3 rfl ?_
  refine WL.gon rfl rfl rfl ?_
  refine WL.v (Runs.load1 Tryz.underlying3 rfl rfl (h1.ocell (i := 0) rfl rfl)) rfl ?_
  refine WL.gon rfl rfl rfl ?_
  refine WL.v (Runs.boolT (c := true) (Runs.geq rfl rfl) (decide_eq_true q2)) rfl ?_
  refine WL.e 3 rfl ?_
  refine WL.gon rfl rfl rfl ?_
  refine WL.v (Runs.load1 Tryz.underlying3 rfl rfl (h1.ocell (i := 0) rfl rfl)) rfl ?_
  refine WL.gon rfl rfl rfl ?_
  refine WL.v (Runs.boolT (c := true) (Runs.leq rfl rfl) (decide_eq_true q3)) rfl ?_
  refine WL.e 3 rfl ?_
  refine WL.gon rfl rfl rfl ?_
  refine WL.v (Runs.load1 Tryz.underlying3 rfl rfl (h1.ocell (i := 0) rfl rfl)) rfl ?_
  refine WL.gon rfl rfl rfl ?_
  refine WL.v (Runs.boolT (c := true) (Runs.geq rfl rfl) (decide_eq_true q4)) rfl ?_
  refine WL.e 3 rfl ?_
  refine WL.gon rfl rfl rfl ?_
  refine WL.v (Runs.load1 Tryz.underlying3 rfl rfl (h1.ocell (i := 0) rfl rfl)) rfl ?_
  refine WL.gon rfl rfl rfl ?_
  refine WL.v (Runs.boolT (c := true) (Runs.leq rfl rfl) (decide_eq_true q5)) rfl ?_
  refine WL.e 3 rfl ?_
  refine WL.gon rfl rfl rfl ?_
  refine WL.v (Runs.load1 Tryz.underlying3 rfl rfl (h1.ocell (i := 0) rfl rfl)) rfl ?_
  refine WL.gon rfl rfl rfl ?_
  refine WL.call can80 rfl rfl (rnum_c _ _ h1) ?_
  rintro _ w5 ⟨rfl, h5⟩
  refine ⟨_, rfl, ?_⟩
  refine WL.gon rfl rfl rfl ?_
  refine WL.v (Runs.boolT (c := true) (Runs.lsneq (b := []) rfl rfl) (by rw [decide_eq_false q6]; rfl)) rfl ?_
  refine WL.e 3 rfl ?_
  refine WL.gon rfl rfl rfl ?_
  refine WL.v (Runs.load1 Tryz.underlying3 rfl rfl (h5.ocell (i := 0) rfl rfl)) rfl ?_
  refine WL.gon rfl rfl rfl ?_
  refine WL.call can80 rfl rfl (rnum_c _ _ h5) ?_
  rintro _ w6 ⟨rfl, h6⟩
  refine ⟨_, rfl, ?_⟩
  refine WL.gon rfl rfl rfl ?_
  refine WL.v (Runs.boolT (c := true) (Runs.lsneq (b := []) rfl rfl) (by rw [decide_eq_false q7]; rfl)) rfl ?_
  refine WL.e 3 rfl ?_
  refine WL.gon rfl rfl rfl ?_
  refine WL.v (Runs.load1 Tryz.underlying3 rfl rfl (h6.ocell (i := 0) rfl rfl)) rfl ?_
  refine WL.gon rfl rfl rfl ?_
  refine WL.call can80 rfl rfl (rnum_c _ _ h6) ?_
  rintro _ w7 ⟨rfl, h7⟩
  refine ⟨_, rfl, ?_⟩
  refine WL.gon rfl rfl rfl ?_
  refine WL.v (Runs.boolT (c := false) (Runs.lsneq (b := []) rfl rfl) (by rw [decide_eq_true (Classical.not_not.1 q8)]; rfl)) rfl ?_
  refine WL.e 14 rfl ?_
  refine WL.nil (WN.thn (WC.ret ?_))
  refine ret1 rfl rfl ⟨?_, h7.drop 0⟩
  rw [decide_eq_false (fun hm => q8 ((may_eq m).2 hm).2.2.2.2.2.2.2.2.1)]; rfl
 ·skip
  refine WC.reg ?_
  refine WL.e 1 rfl ?_
  refine WL.v (Runs.load1 Tryz.underlying3 rfl rfl (h1.ocell (i := 0) rfl rfl)) rfl ?_
  refine WL.v (Runs.boolT (c := true) (Runs.geq rfl rfl) (decide_eq_true q0)) rfl ?_
  refine WL.e 2 rfl ?_
  refine WL.gon rfl rfl rfl ?_
  refine WL.v (Runs.load1 Tryz.underlying3 rfl rfl (h1.ocell (i := 0) rfl rfl)) rfl ?_
  refine WL.gon rfl rfl rfl ?_
  refine WL.v (Runs.boolT (c := true) (Runs.leq rfl rfl) (decide_eq_true q1)) rfl ?_
  refine WL.e 3 rfl ?_
  refine WL.gon rfl rfl rfl ?_
  refine WL.v (Runs.load1 Tryz.underlying3 rfl rfl (h1.ocell (i := 0) rfl rfl)) rfl ?_
  refine WL.gon rfl rfl rfl ?_
  refine WL.v (Runs.boolT (c := true) (Runs.geq rfl rfl) (decide_eq_true q2)) rfl ?_
  refine WL.e 3 rfl ?_
  refine WL.gon rfl rfl rfl ?_
  refine WL.v (Runs.load1 Tryz.underlying3 rfl rfl (h1.ocell (i := 0) rfl rfl)) rfl ?_
  refine WL.gon rfl rfl rfl ?_
  refine WL.v (Runs.boolT (c := true) (Runs.leq rfl rfl) (decide_eq_true q3)) rfl ?_
  refine WL.e 3 rfl ?_
  refine WL.gon rfl rfl rfl ?_
  refine WL.v (Runs.load1 Tryz.underlying3 rfl rfl (h1.ocell (i := 0) rfl rfl)) rfl ?_
  refine WL.gon rfl rfl rfl ?_
  refine WL.v (Runs.boolT (c := true) (Runs.geq rfl rfl) (decide_eq_true q4)) rfl ?_
  refine WL.e 3 rfl ?_
  refine WL.gon rfl rfl rfl ?_
  refine WL.v (Runs.load1 Tryz.underlying3 rfl rfl (h1.ocell (i := 0) rfl rfl)) rfl ?_
  refine WL.gon rfl rfl rfl ?_
  refine WL.v (Runs.boolT (c := true) (Runs.leq rfl rfl) (decide_eq_true q5)) rfl ?_
  refine WL.e 3 rfl ?_
  refine WL.gon rfl rfl rfl ?_
  refine WL.v (Runs.load1 Tryz.underlying3 rfl rfl (h1.ocell (i := 0) rfl rfl)) rfl ?_
  refine WL.gon rfl rfl rfl ?_
  refine WL.call can80 rfl rfl (rnum_c _ _ h1) ?_
  rintro _ w8 ⟨rfl, h8⟩
  refine ⟨_, rfl, ?_⟩
  refine WL.gon rfl rfl rfl ?_
  refine WL.v (Runs.boolT (c := true) (Runs.lsneq (b := []) rfl rfl) (by rw [decide_eq_false q6]; rfl)) rfl ?_
  refine WL.e 3 rfl ?_
  refine WL.gon rfl rfl rfl ?_
  refine WL.v (Runs.load1 Tryz.underlying3 rfl rfl (h8.ocell (i := 0) rfl rfl)) rfl ?_
  refine WL.gon rfl rfl rfl ?_
  refine WL.call can80 rfl rfl (rnum_c _ _ h8) ?_
  rintro _ w9 ⟨rfl, h9⟩
  refine ⟨_, rfl, ?_⟩
  refine WL.gon rfl rfl rfl ?_
  refine WL.v (Runs.boolT (c := true) (Runs.lsneq (b := []) rfl rfl) (by rw [decide_eq_false q7]; rfl)) rfl ?_
  refine WL.e 3 rfl ?_
  refine WL.gon rfl rfl rfl ?_
  refine WL.v (Runs.load1 Tryz.underlying3 rfl rfl (h9.ocell (i := 0) rfl rfl)) rfl ?_
  refine WL.gon rfl rfl rfl ?_
  refine WL.call can80 rfl rfl (rnum_c _ _ h9) ?_
  rintro _ w10 ⟨rfl, h10⟩
  refine ⟨_, rfl, ?_⟩
  refine WL.gon rfl rfl rfl ?_
  refine WL.v (Runs.boolT (c := true) (Runs.lsneq (b := []) rfl rfl) (by rw [decide_eq_false q8]; rfl)) rfl ?_
  refine WL.e 3 rfl ?_
  refine WL.gon rfl rfl rfl ?_
  refine WL.v (Runs.load1 Tryz.underlying3 rfl rfl (h10.ocell (i := 0) rfl rfl)) rfl ?_
  refine WL.gon rfl rfl rfl ?_
  refine WL.call can80 rfl rfl (rnum_c _ _ h10) ?_
  rintro _ w11 ⟨rfl, h11⟩
  refine ⟨_, rfl, ?_⟩
  refine WL.gon rfl rfl rfl ?_
  refine WL.v (Runs.boolT (c := false) (Runs.lsneq (b := []) rfl rfl) (by rw [decide_eq_true (Classical.not_not.1 q9)]; rfl)) rfl ?_
  refine WL.e 8 rfl ?_
  refine WL.nil (WN.thn (WC.ret ?_))
  refine ret1 rfl rfl ⟨?_, h11.drop 0⟩
  rw [decide_eq_false (fun hm => q9 ((may_eq m).2 hm).2.2.2.2.2.2.2.2.2.1)]; rfl
 ·skip
  refine WC.reg ?_
  refine WL.e 1 rfl ?_
  refine WL.v (Runs.load1 Tryz.underlying3 rfl rfl (h1.ocell (i := 0) rfl rfl)) rfl ?_
  refine WL.v (Runs.boolT (c := true) (Runs.geq rfl rfl) (decide_eq_true q0)) rfl ?_
  refine WL.e 2 rfl ?_
  refine WL.gon rfl rfl rfl ?_
  refine WL.v (Runs.load1 Tryz.underlying3 rfl rfl (h1.ocell (i := 0) rfl rfl)) rfl ?_
  refine WL.gon rfl rfl rfl ?_
  refine WL.v (Runs.boolT (c := true) (Runs.leq rfl rfl) (decide_eq_true q1)) rfl ?_
  refine WL.e 3 rfl ?_
  refine WL.gon rfl rfl rfl ?_
  refine WL.v (Runs.load1 Tryz.underlying3 rfl rfl (h1.ocell (i := 0) rfl rfl)) rfl ?_
  refine WL.gon rfl rfl rfl ?_
  refine WL.v (Runs.boolT (c := true) (Runs.geq rfl rfl) (decide_eq_true q2)) rfl ?_
  refine WL.e 3 rfl ?_
  refine WL.gon rfl rfl rfl ?_
  refine WL.v (Runs.load1 Tryz.underlying3 rfl rfl (h1.ocell (i := 0) rfl rfl)) rfl ?_
  refine WL.gon rfl rfl rfl ?_
  refine WL.v (Runs.boolT (c := true) (Runs.leq rfl rfl) (decide_eq_true q3)) rfl ?_
  refine WL.e 3 rfl ?_
  refine WL.gon rfl rfl rfl ?_
  refine WL.v (Runs.load1 Tryz.underlying3 rfl rfl (h1.ocell (i := 0) rfl rfl)) rfl ?_
  refine WL.gon rfl rfl rfl ?_
  refine WL.v (Runs.boolT (c := true) (Runs.geq rfl rfl) (decide_eq_true q4)) rfl ?_
  refine WL.e 3 rfl ?_
  refine WL.gon rfl rfl rfl ?_
  refine WL.v (Runs.load1 Tryz.underlying3 rfl rfl (h1.ocell (i := 0) rfl rfl)) rfl ?_
  refine WL.gon rfl rfl rfl ?_
  refine WL.v (Runs.boolT (c := true) (Runs.leq rfl rfl) (decide_eq_true q5)) rfl ?_
  refine WL.e 3 rfl ?_
  refine WL.gon rfl rfl rfl ?_
  refine WL.v (Runs.load1 Tryz.underlying3 rfl rfl (h1.ocell (i := 0) rfl rfl)) rfl ?_
  refine WL.gon rfl rfl rfl ?_
  refine WL.call can80 rfl rfl (rnum_c _ _ h1) ?_
  rintro _ w12 ⟨rfl, h12⟩
  refine ⟨_, rfl, ?_⟩
  refine WL.gon rfl rfl rfl ?_
  refine WL.v (Runs.boolT (c := true) (Runs.lsneq (b := []) rfl rfl) (by rw [decide_eq_false q6]; rfl)) rfl ?_
  refine WL.e 3 rfl ?_
  refine WL.gon rfl rfl rfl ?_
  refine WL.v (Runs.load1 Tryz.underlying3 rfl rfl (h12.ocell (i := 0) rfl rfl)) rfl ?_
  refine WL.gon rfl rfl rfl ?_
  refine WL.call can80 rfl rfl (rnum_c _ _ h12) ?_
  rintro _ w13 ⟨rfl, h13⟩
  refine ⟨_, rfl, ?_⟩
  refine WL.gon rfl rfl rfl ?_
  refine WL.v (Runs.boolT (c := true) (Runs.lsneq (b := []) rfl rfl) (by rw [decide_eq_false q7]; rfl)) rfl ?_
  refine WL.e 3 rfl ?_
  refine WL.gon rfl rfl rfl ?_
  refine WL.v (Runs.load1 Tryz.underlying3 rfl rfl (h13.ocell (i := 0) rfl rfl)) rfl ?_
  refine WL.gon rfl rfl rfl ?_
  refine WL.call can80 rfl rfl (rnum_c _ _ h13) ?_
  rintro _ w14 ⟨rfl, h14⟩
  refine ⟨_, rfl, ?_⟩
  refine WL.gon rfl rfl rfl ?_
  refine WL.v (Runs.boolT (c := true) (Runs.lsneq (b := []) rfl rfl) (by rw [decide_eq_false q8]; rfl)) rfl ?_
  refine WL.e 3 rfl ?_
  refine WL.gon rfl rfl rfl ?_
  refine WL.v (Runs.load1 Tryz.underlying3 rfl rfl (h14.ocell (i := 0) rfl rfl)) rfl ?_
  refine WL.gon rfl rfl rfl ?_
  refine WL.call can80 rfl rfl (rnum_c _ _ h14) ?_
  rintro _ w15 ⟨rfl, h15⟩
  refine ⟨_, rfl, ?_⟩
  refine WL.gon rfl rfl rfl ?_
  refine WL.v (Runs.boolT (c := true) (Runs.lsneq (b := []) rfl rfl) (by rw [decide_eq_false q9]; rfl)) rfl ?_
  refine WL.e 3 rfl ?_
  refine WL.gon rfl rfl rfl ?_
  refine WL.v (Runs.load1 Tryz.underlying9 rfl rfl (h15.ocell (i := 0) rfl rfl)) rfl ?_
  refine WL.gon rfl rfl rfl ?_
  refine WL.v (Runs.intT (n := (m.tx.length : Int)) (Runs.slen Tryz.underlying9 rfl rfl) rfl) rfl ?_
  refine WL.gon rfl rfl rfl ?_
  refine WL.v (Runs.boolT (c := false) (Runs.leq rfl rfl) (decide_eq_false q10)) rfl ?_
  refine WL.e 2 rfl ?_
  refine WL.nil (WN.thn (WC.ret ?_))
  refine ret1 rfl rfl ⟨?_, h15.drop 0⟩
  rw [decide_eq_false (fun hm => q10 ((may_eq m).2 hm).2.2.2.2.2.2.2.2.2.2)]; rfl
 ·skip
  refine WC.reg ?_
  refine WL.e 1 rfl ?_
  refine WL.v (Runs.load1 Tryz.underlying3 rfl rfl (h1.ocell (i := 0) rfl rfl)) rfl ?_
  refine WL.v (Runs.boolT (c := true) (Runs.geq rfl rfl) (decide_eq_true q0)) rfl ?_
  refine WL.e 2 rfl ?_
  refine WL.gon rfl rfl rfl ?_
  refine WL.v (Runs.load1 Tryz.underlying3 rfl rfl (h1.ocell (i := 0) rfl rfl)) rfl ?_
  refine WL.gon rfl rfl rfl ?_
  refine WL.v (Runs.boolT (c := true) (Runs.leq rfl rfl) (decide_eq_true q1)) rfl ?_
  refine WL.e 3 rfl ?_
  refine WL.gon rfl rfl rfl ?_
  refine WL.v (Runs.load1 Tryz.underlying3 rfl rfl (h1.ocell (i := 0) rfl rfl)) rfl ?_
  refine WL.gon rfl rfl rfl ?_
  refine WL.v (Runs.boolT (c := true) (Runs.geq rfl rfl) (decide_eq_true q2)) rfl ?_
  refine WL.e 3 rfl ?_
  refine WL.gon rfl rfl rfl ?_
  refine WL.v (Runs.load1 Tryz.underlying3 rfl rfl (h1.ocell (i := 0) rfl rfl)) rfl ?_
  refine WL.gon rfl rfl rfl ?_
  refine WL.v (Runs.boolT (c := true) (Runs.leq rfl rfl) (decide_eq_true q3)) rfl ?_
  refine WL.e 3 rfl ?_
  refine WL.gon rfl rfl rfl ?_
  refine WL.v (Runs.load1 Tryz.underlying3 rfl rfl (h1.ocell (i := 0) rfl rfl)) rfl ?_
  refine WL.gon rfl rfl rfl ?_
  refine WL.v (Runs.boolT (c := true) (Runs.geq rfl rfl) (decide_eq_true q4)) rfl ?_
  refine WL.e 3 rfl ?_
  refine WL.gon rfl rfl rfl ?_
  refine WL.v (Runs.load1 Tryz.underlying3 rfl rfl (h1.ocell (i := 0) rfl rfl)) rfl ?_
  refine WL.gon rfl rfl rfl ?_
  refine WL.v (Runs.boolT (c := true) (Runs.leq rfl rfl) (decide_eq_true q5)) rfl ?_
  refine WL.e 3 rfl ?_
  refine WL.gon rfl rfl rfl ?_
  refine WL.v (Runs.load1 Tryz.underlying3 rfl rfl (h1.ocell (i := 0) rfl rfl)) rfl ?_
  refine WL.gon rfl rfl rfl ?_
  refine WL.call can80 rfl rfl (rnum_c _ _ h1) ?_
  rintro _ w16 ⟨rfl, h16⟩
  refine ⟨_, rfl, ?_⟩
  refine WL.gon rfl rfl rfl ?_
  refine WL.v (Runs.boolT (c := true) (Runs.lsneq (b := []) rfl rfl) (by rw [decide_eq_false q6]; rfl)) rfl ?_
  refine WL.e 3 rfl ?_
  refine WL.gon rfl rfl rfl ?_
  refine WL.v (Runs.load1 Tryz.underlying3 rfl rfl (h16.ocell (i := 0) rfl rfl)) rfl ?_
  refine WL.gon rfl rfl rfl ?_
  refine WL.call can80 rfl rfl (rnum_c _ _ h16) ?_
  rintro _ w17 ⟨rfl, h17⟩
  refine ⟨_, rfl, ?_⟩
  refine WL.gon rfl rfl rfl ?_
  refine WL.v (Runs.boolT (c := true) (Runs.lsneq (b := []) rfl rfl) (by rw [decide_eq_false q7]; rfl)) rfl ?_
  refine WL.e 3 rfl ?_
  refine WL.gon rfl rfl rfl ?_
  refine WL.v (Runs.load1 Tryz.underlying3 rfl rfl (h17.ocell (i := 0) rfl rfl)) rfl ?_
  refine WL.gon rfl rfl rfl ?_
  refine WL.call can80 rfl rfl (rnum_c _ _ h17) ?_
  rintro _ w18 ⟨rfl, h18⟩
  refine ⟨_, rfl, ?_⟩
  refine WL.gon rfl rfl rfl ?_
  refine WL.v (Runs.boolT (c := true) (Runs.lsneq (b := []) rfl rfl) (by rw [decide_eq_false q8]; rfl)) rfl ?_
  refine WL.e 3 rfl ?_
  refine WL.gon rfl rfl rfl ?_
  refine WL.v (Runs.load1 Tryz.underlying3 rfl rfl (h18.ocell (i := 0) rfl rfl)) rfl ?_
  refine WL.gon rfl rfl rfl ?_
  refine WL.call can80 rfl rfl (rnum_c _ _ h18) ?_
  rintro _ w19 ⟨rfl, h19⟩
  refine ⟨_, rfl, ?_⟩
  refine WL.gon rfl rfl rfl ?_
  refine WL.v (Runs.boolT (c := true) (Runs.lsneq (b := []) rfl rfl) (by rw [decide_eq_false q9]; rfl)) rfl ?_
  refine WL.e 3 rfl ?_
  refine WL.gon rfl rfl rfl ?_
  refine WL.v (Runs.load1 Tryz.underlying9 rfl rfl (h19.ocell (i := 0) rfl rfl)) rfl ?_
  refine WL.gon rfl rfl rfl ?_
  refine WL.v (Runs.intT (n := (m.tx.length : Int)) (Runs.slen Tryz.underlying9 rfl rfl) rfl) rfl ?_
  refine WL.gon rfl rfl rfl ?_
  refine WL.v (Runs.boolT (c := true) (Runs.leq rfl rfl) (decide_eq_true q10)) rfl ?_
  refine WL.e 2 rfl ?_
  refine WL.nil (WN.thn (WC.ret ?_))
  refine ret1 rfl rfl ⟨?_, h19.drop 0⟩
  rw [decide_eq_true ((may_eq m).1 ⟨q0, q1, q2, q3, q4, q5, q6, q7, q8, q9, q10⟩)]; rfl
theorem renc_c {W : World} {F : Snap} {cs : List Res} (w : World) (m : M) (h : St W F cs w) (hl : m.tx.length ≤ 100000) : Calls Tryz.prog 61 #[m.val] w fun r w' => r = .returned (.string (bs (encB m))) ∧ St W F cs w'  := by
 refine enter (P := Tryz.prog) (args := [.agg #[Vi m.k, Vi m.f, Vi m.t, Vi m.j, Vi m.ep, Vi m.st, Vi m.ar, .string (bs m.tx)]]) Tryz.func61 rfl rfl rfl ?_
 refine WC.seq (WC.reg ?_)
 refine WL.box rfl h rfl ?_
 intro b1 w1 h1
 refine WL.e 1 rfl ?_
 refine WL.nil (WN.thn (WC.seq (WC.seq ?_)))
 by_cases hmy : mayM m
 ·skip
  refine WC.reg ?_
  refine WL.v (Runs.loadAll h1 0 rfl Tryz.underlying42 rfl inf42 rfl rfl) rfl ?_
  refine WL.call can37 rfl rfl (rmay_c _ m h1) ?_
  rintro _ w2 ⟨rfl, h2⟩
  refine ⟨_, rfl, ?_⟩
  refine WL.e 1 rfl ?_
  refine WL.nil (WN.thn ?_)
  refine WC.condF rfl ((by rw [decide_eq_true hmy]; rfl)) ?_
  refine WC.skip (WN.thn (WC.seq ?_))
  have hmy2 := hmy
  obtain ⟨q0, q1, q2, q3, q4, q5, q6, q7, q8⟩ := hmy2
  refine WC.eregO h2 (fun s_ => ([] : List Nat).any (Nat.beq s_)) mixed (by kernel_rfl) (fun hx => ?_)
  intro w3 h3
  refine WE.p0 hx 0 (by rfl) (fun w_ => Runs.fld fld42_0 rfl) rfl ?_
  refine WE.p0 hx 3 (by rfl) (fun w_ => Runs.fld fld42_1 rfl) rfl ?_
  refine WE.p0 hx 8 (by rfl) (fun w_ => Runs.fld fld42_2 rfl) rfl ?_
  refine WE.p0 hx 13 (by rfl) (fun w_ => Runs.fld fld42_3 rfl) rfl ?_
  refine WE.p0 hx 17 (by rfl) (fun w_ => Runs.fld fld42_4 rfl) rfl ?_
  refine WE.p0 hx 21 (by rfl) (fun w_ => Runs.fld fld42_5 rfl) rfl ?_
  refine WE.p0 hx 25 (by rfl) (fun w_ => Runs.fld fld42_6 rfl) rfl ?_
  refine WE.p0 hx 29 (by rfl) (fun w_ => Runs.fld fld42_7 rfl) rfl ?_
  refine WE.v0 12 hx 1 (by rfl) (fun w_ hE_ => Runs.load1 Tryz.underlying3 rfl rfl (hE_.ocell (i := 0) rfl rfl)) rfl ?_
  refine WE.v0 12 hx 4 (by rfl) (fun w_ hE_ => Runs.load1 Tryz.underlying3 rfl rfl (hE_.ocell (i := 0) rfl rfl)) rfl ?_
  refine WE.p0 hx 5 (by rfl) (fun w_ => Runs.addn rfl rfl (by omega)) rfl ?_
  refine WE.v0 12 hx 9 (by rfl) (fun w_ hE_ => Runs.load1 Tryz.underlying3 rfl rfl (hE_.ocell (i := 0) rfl rfl)) rfl ?_
  refine WE.p0 hx 10 (by rfl) (fun w_ => Runs.addn rfl rfl (by omega)) rfl ?_
  refine WE.v0 12 hx 14 (by rfl) (fun w_ hE_ => Runs.load1 Tryz.underlying3 rfl rfl (hE_.ocell (i := 0) rfl rfl)) rfl ?_
  refine WE.v0 12 hx 18 (by rfl) (fun w_ hE_ => Runs.load1 Tryz.underlying3 rfl rfl (hE_.ocell (i := 0) rfl rfl)) rfl ?_
  refine WE.v0 12 hx 22 (by rfl) (fun w_ hE_ => Runs.load1 Tryz.underlying3 rfl rfl (hE_.ocell (i := 0) rfl rfl)) rfl ?_
  refine WE.v0 12 hx 26 (by rfl) (fun w_ hE_ => Runs.load1 Tryz.underlying3 rfl rfl (hE_.ocell (i := 0) rfl rfl)) rfl ?_
  refine WE.v0 12 hx 30 (by rfl) (fun w_ hE_ => Runs.load1 Tryz.underlying9 rfl rfl (hE_.ocell (i := 0) rfl rfl)) rfl ?_
  refine WE.op (.inr h3) (i := 2) (by rfl) (by kernel_rfl) ?_
  refine WL.call can80 rfl rfl (rnum_c _ _ h3) ?_
  rintro _ w4 ⟨rfl, h4⟩
  refine ⟨_, rfl, ?_⟩
  refine WL.nil (WE.next ?_)
  refine WE.op (.inr h4) (i := 6) (by rfl) (by kernel_rfl) ?_
  refine WL.call can80 rfl rfl (rnum_c _ _ h4) ?_
  rintro _ w5 ⟨rfl, h5⟩
  refine ⟨_, rfl, ?_⟩
  refine WL.nil (WE.next ?_)
  refine WE.p0 hx 7 (by rfl) (fun w_ => Runs.lsadd rfl rfl (by have := text_len hl; have := numB_len m.k; have := numB_len (m.f + 1); have := numB_len (m.t + 1); have := numB_len m.j; have := numB_len m.ep; have := numB_len m.st; have := numB_len m.ar; (try simp only [List.length_append]); omega)) rfl ?_
  refine WE.op (.inr h5) (i := 11) (by rfl) (by kernel_rfl) ?_
  refine WL.call can80 rfl rfl (rnum_c _ _ h5) ?_
  rintro _ w6 ⟨rfl, h6⟩
  refine ⟨_, rfl, ?_⟩
  refine WL.nil (WE.next ?_)
  refine WE.p0 hx 12 (by rfl) (fun w_ => Runs.lsadd rfl rfl (by have := text_len hl; have := numB_len m.k; have := numB_len (m.f + 1); have := numB_len (m.t + 1); have := numB_len m.j; have := numB_len m.ep; have := numB_len m.st; have := numB_len m.ar; (try simp only [List.length_append]); omega)) rfl ?_
  refine WE.op (.inr h6) (i := 15) (by rfl) (by kernel_rfl) ?_
  refine WL.call can80 rfl rfl (rnum_c _ _ h6) ?_
  rintro _ w7 ⟨rfl, h7⟩
  refine ⟨_, rfl, ?_⟩
  refine WL.nil (WE.next ?_)
  refine WE.p0 hx 16 (by rfl) (fun w_ => Runs.lsadd rfl rfl (by have := text_len hl; have := numB_len m.k; have := numB_len (m.f + 1); have := numB_len (m.t + 1); have := numB_len m.j; have := numB_len m.ep; have := numB_len m.st; have := numB_len m.ar; (try simp only [List.length_append]); omega)) rfl ?_
  refine WE.op (.inr h7) (i := 19) (by rfl) (by kernel_rfl) ?_
  refine WL.call can80 rfl rfl (rnum_c _ _ h7) ?_
  rintro _ w8 ⟨rfl, h8⟩
  refine ⟨_, rfl, ?_⟩
  refine WL.nil (WE.next ?_)
  refine WE.p0 hx 20 (by rfl) (fun w_ => Runs.lsadd rfl rfl (by have := text_len hl; have := numB_len m.k; have := numB_len (m.f + 1); have := numB_len (m.t + 1); have := numB_len m.j; have := numB_len m.ep; have := numB_len m.st; have := numB_len m.ar; (try simp only [List.length_append]); omega)) rfl ?_
  refine WE.op (.inr h8) (i := 23) (by rfl) (by kernel_rfl) ?_
  refine WL.call can80 rfl rfl (rnum_c _ _ h8) ?_
  rintro _ w9 ⟨rfl, h9⟩
  refine ⟨_, rfl, ?_⟩
  refine WL.nil (WE.next ?_)
  refine WE.p0 hx 24 (by rfl) (fun w_ => Runs.lsadd rfl rfl (by have := text_len hl; have := numB_len m.k; have := numB_len (m.f + 1); have := numB_len (m.t + 1); have := numB_len m.j; have := numB_len m.ep; have := numB_len m.st; have := numB_len m.ar; (try simp only [List.length_append]); omega)) rfl ?_
  refine WE.op (.inr h9) (i := 27) (by rfl) (by kernel_rfl) ?_
  refine WL.call can80 rfl rfl (rnum_c _ _ h9) ?_
  rintro _ w10 ⟨rfl, h10⟩
  refine ⟨_, rfl, ?_⟩
  refine WL.nil (WE.next ?_)
  refine WE.p0 hx 28 (by rfl) (fun w_ => Runs.lsadd rfl rfl (by have := text_len hl; have := numB_len m.k; have := numB_len (m.f + 1); have := numB_len (m.t + 1); have := numB_len m.j; have := numB_len m.ep; have := numB_len m.st; have := numB_len m.ar; (try simp only [List.length_append]); omega)) rfl ?_
  refine WE.op (.inr h10) (i := 31) (by rfl) (by kernel_rfl) ?_
  refine WL.call can104 rfl rfl (rtext_c _ _ h10 hl) ?_
  rintro _ w11 ⟨rfl, h11⟩
  refine ⟨_, rfl, ?_⟩
  refine WL.nil (WE.next ?_)
  refine WE.p0 hx 32 (by rfl) (fun w_ => Runs.lsadd rfl rfl (by have := text_len hl; have := numB_len m.k; have := numB_len (m.f + 1); have := numB_len (m.t + 1); have := numB_len m.j; have := numB_len m.ep; have := numB_len m.st; have := numB_len m.ar; (try simp only [List.length_append]); omega)) rfl ?_
  refine WE.p0 hx 33 (by rfl) (fun w_ => Runs.assign rfl) rfl ?_
  refine WE.fin (.inr h11) (by kernel_rfl) ?_
  refine WN.thn (WC.ret ?_)
  refine ret1 rfl rfl ⟨?_, h11.drop 0⟩
  unfold encB
  rw [if_pos hmy]
  simp [numsM]
 ·skip
  refine WC.reg ?_
  refine WL.v (Runs.loadAll h1 0 rfl Tryz.underlying42 rfl inf42 rfl rfl) rfl ?_
  refine WL.call can37 rfl rfl (rmay_c _ m h1) ?_
  rintro _ w12 ⟨rfl, h12⟩
  refine ⟨_, rfl, ?_⟩
  refine WL.e 1 rfl ?_
  refine WL.nil (WN.thn ?_)
  refine WC.condT rfl ((by rw [decide_eq_false hmy]; rfl)) ?_
  refine WC.seq (WC.reg ?_)
  refine WL.e 1 rfl ?_
  refine WL.nil (WN.thn (WC.ret ?_))
  refine ret1 rfl rfl ⟨?_, h12.drop 0⟩
  unfold encB
  rw [if_neg hmy]; rfl
end Wir
end Go.Proofs.YtifdpllfbaogcaaGreat
namespace Go.Proofs.YtifdpllfbaogcaaGreat
open Go Go.RowKit B
namespace Wir
theorem fld87_0 : fldB Tryz.prog 87 0 0 = true := by kernel_rfl
theorem fld87_1 : fldB Tryz.prog 87 1 1 = true := by kernel_rfl
theorem fld87_2 : fldB Tryz.prog 87 2 2 = true := by kernel_rfl
theorem dig_at {l : List UInt8} {p k : Nat} (hk : k < szB l p) : (dig l p).getD k 0 = l.getD (p + 1 + k) 0 := by
 unfold dig
 rw [List.getD_eq_getElem?_getD, List.getElem?_take, if_pos hk, List.getElem?_drop, ← List.getD_eq_getElem?_getD]
theorem qnum_c {W : World} {F : Snap} {cs : List Res} (w : World) {i rb : Nat} {p : Nat} {l : List UInt8} {e : Int} (h : St W F cs w) (hi : cs[i]? = some [(rb, .cells #[.string (bs l), Vi p, Vi e] 87 (0, 0))]) (hl : l.length ≤ 100000) (hp : p ≤ l.length) : Calls Tryz.prog 34 #[.pointer (some ⟨rb, 0, none⟩)] w fun r w' => r = .returned (Vi ((rdN l p e).1 : Nat)) ∧ St W F (cs.set i [(rb, .cells #[.string (bs l), Vi ((rdN l p e).2.1 : Nat), Vi (rdN l p e).2.2] 87 (0, 0))]) w'  := by
 refine enter (P := Tryz.prog) (args := [.pointer (some ⟨rb, 0, none⟩)]) Tryz.func34 rfl rfl rfl ?_
 refine WC.seq (WC.reg ?_)
 refine WL.e 1 rfl ?_
 refine WL.nil (WN.thn (WC.seq (WC.seq ?_)))
 by_cases he0 : e = 0
 ·skip
  refine WC.reg ?_
  refine WL.e 3 rfl ?_
  refine WL.v (Runs.load1 Tryz.underlying43 rfl rfl (h.ocell hi rfl)) rfl ?_
  refine WL.v (Runs.boolT (c := false) (Runs.neq rfl rfl) (by rw [decide_eq_true he0]; rfl)) rfl ?_
  refine WL.nil (WN.thn ?_)
  refine WC.condF rfl (rfl) ?_
  refine WC.skip (WN.thn (WC.seq (WC.seq ?_)))
  have hcase : p = l.length ∨ p < l.length := by omega
  rcases hcase with hpe | hpl
  ·skip
   refine WC.qreg (C := fun w_ => St W _ _ w_) mixed (by kernel_rfl) (h.drew) ?_
   refine WQ.val (fun w_ hC_ => Runs.move rfl) rfl ?_
   refine WQ.val (fun w_ hC_ => Runs.nilCheckP rfl) rfl ?_
   refine WQ.val (fun w_ hC_ => Runs.fld fld87_1 rfl) rfl ?_
   refine WQ.val (fun w_ hC_ => Runs.load1 Tryz.underlying3 rfl rfl (hC_.ocell hi rfl)) rfl ?_
   refine WQ.val (fun w_ hC_ => Runs.move rfl) rfl ?_
   refine WQ.val (fun w_ hC_ => Runs.nilCheckP rfl) rfl ?_
   refine WQ.val (fun w_ hC_ => Runs.fld fld87_0 rfl) rfl ?_
   refine WQ.val (fun w_ hC_ => Runs.load1 Tryz.underlying9 rfl rfl (hC_.ocell hi rfl)) rfl ?_
   refine WQ.val (fun w_ hC_ => Runs.intT (n := (l.length : Int)) (Runs.slen Tryz.underlying9 rfl rfl) rfl) rfl ?_
   refine WQ.val (fun w_ hC_ => Runs.boolT (c := true) (Runs.eql rfl rfl) (by rw [decide_eq_true_eq]; omega)) rfl ?_
   refine WQ.fin ?_
   intro w1 h1
   refine WN.thn ?_
   refine WC.condT rfl (rfl) ?_
   refine WC.seq (WC.reg ?_)
   refine WL.e 3 rfl ?_
   refine WL.store' h1 i hi rfl rfl inf43 rfl rfl (Free.zero _) (Nat.le_of_ble_eq_true rfl) ?_
   intro  w2 h2
   try simp only [lz, ls, ez, es'] at h2
   refine WL.nil (WN.thn (WC.seq (WC.reg ?_)))
   refine WL.e 1 rfl ?_
   refine WL.nil (WN.thn (WC.ret ?_))
   have he2 : rerr l p = 2 := by unfold rerr; rw [if_pos (by omega)]
   have e1 : rdN l p e = (0, p, 2) := by unfold rdN; rw [if_neg (by rw [he0]; simp), if_neg (by rw [he2]; decide), he2]
   rw [e1]
   exact ret1 rfl rfl ⟨rfl, h2⟩
  ·skip
   refine WC.qreg (C := fun w_ => St W _ _ w_) mixed (by kernel_rfl) (h.drew) ?_
   refine WQ.val (fun w_ hC_ => Runs.move rfl) rfl ?_
   refine WQ.val (fun w_ hC_ => Runs.nilCheckP rfl) rfl ?_
   refine WQ.val (fun w_ hC_ => Runs.fld fld87_1 rfl) rfl ?_
   refine WQ.val (fun w_ hC_ => Runs.load1 Tryz.underlying3 rfl rfl (hC_.ocell hi rfl)) rfl ?_
   refine WQ.val (fun w_ hC_ => Runs.move rfl) rfl ?_
   refine WQ.val (fun w_ hC_ => Runs.nilCheckP rfl) rfl ?_
   refine WQ.val (fun w_ hC_ => Runs.fld fld87_0 rfl) rfl ?_
   refine WQ.val (fun w_ hC_ => Runs.load1 Tryz.underlying9 rfl rfl (hC_.ocell hi rfl)) rfl ?_
   refine WQ.val (fun w_ hC_ => Runs.intT (n := (l.length : Int)) (Runs.slen Tryz.underlying9 rfl rfl) rfl) rfl ?_
   refine WQ.val (fun w_ hC_ => Runs.boolT (c := false) (Runs.eql rfl rfl) (by rw [decide_eq_false_iff_not]; omega)) rfl ?_
   refine WQ.fin ?_
   intro w3 h3
   refine WN.thn ?_
   refine WC.condF rfl (rfl) ?_
   refine WC.skip (WN.thn (WC.seq ?_))
   refine WC.qreg (C := fun w_ => St W _ _ w_) mixed (by kernel_rfl) (h3.drew) ?_
   refine WQ.val (fun w_ hC_ => Runs.move rfl) rfl ?_
   refine WQ.val (fun w_ hC_ => Runs.nilCheckP rfl) rfl ?_
   refine WQ.val (fun w_ hC_ => Runs.fld fld87_0 rfl) rfl ?_
   refine WQ.val (fun w_ hC_ => Runs.load1 Tryz.underlying9 rfl rfl (hC_.ocell hi rfl)) rfl ?_
   refine WQ.val (fun w_ hC_ => Runs.move rfl) rfl ?_
   refine WQ.val (fun w_ hC_ => Runs.nilCheckP rfl) rfl ?_
   refine WQ.val (fun w_ hC_ => Runs.fld fld87_1 rfl) rfl ?_
   refine WQ.val (fun w_ hC_ => Runs.load1 Tryz.underlying3 rfl rfl (hC_.ocell hi rfl)) rfl ?_
   refine WQ.val (fun w_ hC_ => Runs.lsidx Tryz.underlying9 rfl rfl (n := p) rfl (by omega)) rfl ?_
   refine WQ.val (fun w_ hC_ => Runs.intT (n := (szB l p : Int)) (Runs.u8toI Tryz.underlying5 Tryz.underlying3 rfl) rfl) rfl ?_
   refine WQ.val (fun w_ hC_ => Runs.assign rfl) rfl ?_
   refine WQ.fin ?_
   intro w4 h4
   refine WN.thn (WC.seq (WC.seq ?_))
   have hcase : 6 < szB l p ∨ szB l p ≤ 6 := by omega
   rcases hcase with hs6 | hs6
   ·skip
    refine WC.reg ?_
    refine WL.e 1 rfl ?_
    refine WL.v (Runs.boolT (c := true) (Runs.gtr rfl rfl) (by rw [decide_eq_true_eq]; omega)) rfl ?_
    refine WL.nil (WN.thn ?_)
    refine WC.condT rfl (rfl) ?_
    refine WC.seq (WC.reg ?_)
    refine WL.e 3 rfl ?_
    refine WL.store' h4 i hi rfl rfl inf43 rfl rfl (Free.zero _) (Nat.le_of_ble_eq_true rfl) ?_
    intro  w5 h5
    try simp only [lz, ls, ez, es'] at h5
    refine WL.nil (WN.thn (WC.seq (WC.reg ?_)))
    refine WL.e 1 rfl ?_
    refine WL.nil (WN.thn (WC.ret ?_))
    have he2 : rerr l p = 3 := by unfold rerr; rw [if_neg (by omega), if_pos hs6]
    have e1 : rdN l p e = (0, p, 3) := by unfold rdN; rw [if_neg (by rw [he0]; simp), if_neg (by rw [he2]; decide), he2]
    rw [e1]
    exact ret1 rfl rfl ⟨rfl, h5⟩
   ·skip
    refine WC.reg ?_
    refine WL.e 1 rfl ?_
    refine WL.v (Runs.boolT (c := false) (Runs.gtr rfl rfl) (by rw [decide_eq_false_iff_not]; omega)) rfl ?_
    refine WL.nil (WN.thn ?_)
    refine WC.condF rfl (rfl) ?_
    refine WC.skip (WN.thn (WC.seq (WC.seq ?_)))
    have hcase : l.length < p + 1 + szB l p ∨ p + 1 + szB l p ≤ l.length := by omega
    rcases hcase with hse | hsl
    ·skip
     refine WC.qreg (C := fun w_ => St W _ _ w_) mixed (by kernel_rfl) (h4.drew) ?_
     refine WQ.val (fun w_ hC_ => Runs.move rfl) rfl ?_
     refine WQ.val (fun w_ hC_ => Runs.nilCheckP rfl) rfl ?_
     refine WQ.val (fun w_ hC_ => Runs.fld fld87_1 rfl) rfl ?_
     refine WQ.val (fun w_ hC_ => Runs.load1 Tryz.underlying3 rfl rfl (hC_.ocell hi rfl)) rfl ?_
     refine WQ.val (fun w_ hC_ => Runs.addn rfl rfl (by omega)) rfl ?_
     refine WQ.val (fun w_ hC_ => Runs.move rfl) rfl ?_
     refine WQ.val (fun w_ hC_ => Runs.addn rfl rfl (by omega)) rfl ?_
     refine WQ.val (fun w_ hC_ => Runs.move rfl) rfl ?_
     refine WQ.val (fun w_ hC_ => Runs.nilCheckP rfl) rfl ?_
     refine WQ.val (fun w_ hC_ => Runs.fld fld87_0 rfl) rfl ?_
     refine WQ.val (fun w_ hC_ => Runs.load1 Tryz.underlying9 rfl rfl (hC_.ocell hi rfl)) rfl ?_
     refine WQ.val (fun w_ hC_ => Runs.intT (n := (l.length : Int)) (Runs.slen Tryz.underlying9 rfl rfl) rfl) rfl ?_
     refine WQ.val (fun w_ hC_ => Runs.boolT (c := true) (Runs.gtr rfl rfl) (by rw [decide_eq_true_eq]; omega)) rfl ?_
     refine WQ.fin ?_
     intro w6 h6
     refine WN.thn ?_
     refine WC.condT rfl (rfl) ?_
     refine WC.seq (WC.reg ?_)
     refine WL.e 3 rfl ?_
     refine WL.store' h6 i hi rfl rfl inf43 rfl rfl (Free.zero _) (Nat.le_of_ble_eq_true rfl) ?_
     intro  w7 h7
     try simp only [lz, ls, ez, es'] at h7
     refine WL.nil (WN.thn (WC.seq (WC.reg ?_)))
     refine WL.e 1 rfl ?_
     refine WL.nil (WN.thn (WC.ret ?_))
     have he2 : rerr l p = 2 := by unfold rerr; rw [if_neg (by omega), if_neg (by omega), if_pos hse]
     have e1 : rdN l p e = (0, p, 2) := by unfold rdN; rw [if_neg (by rw [he0]; simp), if_neg (by rw [he2]; decide), he2]
     rw [e1]
     exact ret1 rfl rfl ⟨rfl, h7⟩
    ·have hdl := dig_len hsl
     refine WC.qreg (C := fun w_ => St W _ _ w_) mixed (by kernel_rfl) (h4.drew) ?_
     refine WQ.val (fun w_ hC_ => Runs.move rfl) rfl ?_
     refine WQ.val (fun w_ hC_ => Runs.nilCheckP rfl) rfl ?_
     refine WQ.val (fun w_ hC_ => Runs.fld fld87_1 rfl) rfl ?_
     refine WQ.val (fun w_ hC_ => Runs.load1 Tryz.underlying3 rfl rfl (hC_.ocell hi rfl)) rfl ?_
     refine WQ.val (fun w_ hC_ => Runs.addn rfl rfl (by omega)) rfl ?_
     refine WQ.val (fun w_ hC_ => Runs.move rfl) rfl ?_
     refine WQ.val (fun w_ hC_ => Runs.addn rfl rfl (by omega)) rfl ?_
     refine WQ.val (fun w_ hC_ => Runs.move rfl) rfl ?_
     refine WQ.val (fun w_ hC_ => Runs.nilCheckP rfl) rfl ?_
     refine WQ.val (fun w_ hC_ => Runs.fld fld87_0 rfl) rfl ?_
     refine WQ.val (fun w_ hC_ => Runs.load1 Tryz.underlying9 rfl rfl (hC_.ocell hi rfl)) rfl ?_
     refine WQ.val (fun w_ hC_ => Runs.intT (n := (l.length : Int)) (Runs.slen Tryz.underlying9 rfl rfl) rfl) rfl ?_
     refine WQ.val (fun w_ hC_ => Runs.boolT (c := false) (Runs.gtr rfl rfl) (by rw [decide_eq_false_iff_not]; omega)) rfl ?_
     refine WQ.fin ?_
     intro w8 h8
     refine WN.thn ?_
     refine WC.condF rfl (rfl) ?_
     refine WC.skip (WN.thn (WC.seq (WC.reg ?_)))
     refine WL.e 1 rfl ?_
     refine WL.nil (WN.thn (WC.seq (WC.seq (WC.reg ?_))))
     refine WL.e 1 rfl ?_
     refine WL.nil (WN.thn (WC.block ?_))
     refine WC.loop (σ := Nat) (fun q_ => [(0, .pointer (some ⟨rb, 0, none⟩)), (3, .int .i64 (szB l p : Int)), (4, .int .i64 (valN ((dig l p).take q_) : Int)), (5, .int .i64 (q_ : Int))]) (fun q_ w => q_ ≤ szB l p ∧ St W F cs w) (fun q_ => szB l p - q_) (0) (by repeat (first | exact trivial | refine ⟨rfl, ?_⟩)) (⟨by omega, h8⟩) ?_
     rintro k w9 ⟨hk, hL⟩
     try dsimp only at hk hL
     refine WC.sub (s := [(0, .pointer (some ⟨rb, 0, none⟩)), (3, .int .i64 (szB l p : Int)), (4, .int .i64 (valN ((dig l p).take k) : Int)), (5, .int .i64 (k : Int))]) (by repeat (first | exact trivial | refine ⟨rfl, ?_⟩)) ?_
     have hvl := valN_lt ((dig l p).take k)
     rw [List.length_take, Nat.min_eq_left (by omega)] at hvl
     have hpw := pow_le (n := k) (by omega)
     refine WC.seq (WC.seq (WC.reg ?_))
     refine WL.e 2 rfl ?_
     refine WL.v (Runs.lss rfl rfl) rfl ?_
     refine WL.nil (WN.thn ?_)
     refine WC.cond rfl (fun c10 => ?_) (fun c10 => ?_)
     ·try simp only [dt, df, nt, nf, ba, il, ie] at c10
      first
      |(exfalso; omega)
      |skip
       refine WC.skip (WN.thn (WC.seq (WC.block ?_)))
       refine WC.qreg (C := fun w_ => St W _ _ w_) mixed (by kernel_rfl) (hL.drew) ?_
       refine WQ.val (fun w_ hC_ => Runs.move rfl) rfl ?_
       refine WQ.val (fun w_ hC_ => Runs.intT (n := ((256 * valN ((dig l p).take k) : Nat) : Int)) (Runs.muln rfl rfl (by omega)) (by omega)) rfl ?_
       refine WQ.val (fun w_ hC_ => Runs.move rfl) rfl ?_
       refine WQ.val (fun w_ hC_ => Runs.nilCheckP rfl) rfl ?_
       refine WQ.val (fun w_ hC_ => Runs.fld fld87_0 rfl) rfl ?_
       refine WQ.val (fun w_ hC_ => Runs.load1 Tryz.underlying9 rfl rfl (hC_.ocell hi rfl)) rfl ?_
       refine WQ.val (fun w_ hC_ => Runs.move rfl) rfl ?_
       refine WQ.val (fun w_ hC_ => Runs.nilCheckP rfl) rfl ?_
       refine WQ.val (fun w_ hC_ => Runs.fld fld87_1 rfl) rfl ?_
       refine WQ.val (fun w_ hC_ => Runs.load1 Tryz.underlying3 rfl rfl (hC_.ocell hi rfl)) rfl ?_
       refine WQ.val (fun w_ hC_ => Runs.addn rfl rfl (by omega)) rfl ?_
       refine WQ.val (fun w_ hC_ => Runs.move rfl) rfl ?_
       refine WQ.val (fun w_ hC_ => Runs.addn rfl rfl (by omega)) rfl ?_
       refine WQ.val (fun w_ hC_ => Runs.valT (u := V8 ((dig l p).getD k 0)) (Runs.lsidx Tryz.underlying9 rfl rfl (n := p + 1 + k) (by omega) (by omega)) (by rw [dig_at (by omega)])) rfl ?_
       refine WQ.val (fun w_ hC_ => Runs.u8toI Tryz.underlying5 Tryz.underlying3 rfl) rfl ?_
       refine WQ.val (fun w_ hC_ => Runs.intT (n := ((256 * valN ((dig l p).take k) + ((dig l p).getD k 0).toNat : Nat) : Int)) (Runs.addn rfl rfl (by have := ((dig l p).getD k 0).toNat_lt; omega)) (by omega)) rfl ?_
       refine WQ.val (fun w_ hC_ => Runs.assign rfl) rfl ?_
       refine WQ.fin ?_
       intro w11 h11
       refine WN.blk (WN.thn (WC.reg ?_))
       refine WL.e 1 rfl ?_
       refine WL.v (Runs.addn rfl rfl (by omega)) rfl ?_
       refine WL.e 1 rfl ?_
       refine WL.nil ?_
       refine WN.again (k + 1) (by omega) ⟨rfl, rfl, ?_, rfl, trivial⟩ ⟨by omega, h11⟩
       show _ = some (Value.int .i64 (valN ((dig l p).take (k + 1)) : Int))
       rw [take_one (by omega), valN_snoc]
       rfl
     ·try simp only [dt, df, nt, nf, ba, il, ie] at c10
      first
      |(exfalso; omega)
      |skip
       refine WC.exit (WX.thn (WX.cut (WX.hit (WN.thn (WC.seq ?_)))))
       refine WC.seq ?_
       obtain rfl : k = szB l p := by omega
       rw [show (dig l p).take (szB l p) = dig l p from List.take_of_length_le (by omega)] at *
       have hcase : 1099511627776 < valN (dig l p) ∨ (valN (dig l p) ≤ 1099511627776 ∧ szB l p = 0) ∨ (valN (dig l p) ≤ 1099511627776 ∧ 0 < szB l p ∧ (dig l p).getD 0 0 = 0) ∨ (valN (dig l p) ≤ 1099511627776 ∧ 0 < szB l p ∧ ¬ (dig l p).getD 0 0 = 0) := by
        rcases cases11 (szB l p) (valN (dig l p)) 1099511627776 ((dig l p).getD 0 0 = 0) with h1 | ⟨h1, h2⟩ | ⟨h1, h2, h3⟩ | ⟨h1, h2, h3⟩
        ·rcases Nat.lt_or_ge 1099511627776 (valN (dig l p)) with h4 | h4
         ·exact .inl h4
         ·exact .inr (.inl ⟨h4, h1⟩)
        ·rcases Nat.lt_or_ge 1099511627776 (valN (dig l p)) with h4 | h4
         ·exact .inl h4
         ·exact .inr (.inr (.inl ⟨h4, h1, h2⟩))
        ·exact .inl h3
        ·exact .inr (.inr (.inr ⟨h3, h1, h2⟩))
       rcases hcase with y1 | ⟨y1, y2⟩ | ⟨y1, y2, y3⟩ | ⟨y1, y2, y3⟩
       ·skip
        refine WC.qreg (C := fun w_ => St W _ _ w_) mixed (by kernel_rfl) (hL.drew) ?_
        refine WQ.val (fun w_ hC_ => Runs.move rfl) rfl ?_
        refine WQ.val (fun w_ hC_ => Runs.boolT (c := true) (Runs.gtr rfl rfl) (by rw [decide_eq_true_eq]; omega)) rfl ?_
        refine WQ.val (fun w_ hC_ => Runs.move rfl) rfl ?_
        refine WQ.goff rfl rfl rfl rfl ?_
        refine WQ.goff rfl rfl rfl rfl ?_
        refine WQ.goff rfl rfl rfl rfl ?_
        refine WQ.goffU rfl rfl rfl ?_
        refine WQ.goffU rfl rfl rfl ?_
        refine WQ.goffU rfl rfl rfl ?_
        refine WQ.goffU rfl rfl rfl ?_
        refine WQ.goffU rfl rfl rfl ?_
        refine WQ.goffU rfl rfl rfl ?_
        refine WQ.goffU rfl rfl rfl ?_
        refine WQ.goffU rfl rfl rfl ?_
        refine WQ.goffU rfl rfl rfl ?_
        refine WQ.goffU rfl rfl rfl ?_
        refine WQ.goffU rfl rfl rfl ?_
        refine WQ.goff rfl rfl rfl rfl ?_
        refine WQ.val (fun w_ hC_ => Runs.pick rfl rfl rfl) rfl ?_
        refine WQ.fin ?_
        intro w12 h12
        refine WN.thn ?_
        refine WC.condT rfl (rfl) ?_
        refine WC.seq (WC.reg ?_)
        refine WL.e 3 rfl ?_
        refine WL.store' h12 i hi rfl rfl inf43 rfl rfl (Free.zero _) (Nat.le_of_ble_eq_true rfl) ?_
        intro  w13 h13
        try simp only [lz, ls, ez, es'] at h13
        refine WL.nil (WN.thn (WC.seq (WC.reg ?_)))
        refine WL.e 1 rfl ?_
        refine WL.nil (WN.thn (WC.ret ?_))
        have he2 : rerr l p = 3 := by unfold rerr; rw [if_neg (by omega), if_neg (by omega), if_neg (by omega), if_pos (.inl y1)]
        have e1 : rdN l p e = (0, p, 3) := by unfold rdN; rw [if_neg (by rw [he0]; simp), if_neg (by rw [he2]; decide), he2]
        rw [e1]
        exact ret1 rfl rfl ⟨rfl, h13⟩
       ·skip
        refine WC.qreg (C := fun w_ => St W _ _ w_) mixed (by kernel_rfl) (hL.drew) ?_
        refine WQ.val (fun w_ hC_ => Runs.move rfl) rfl ?_
        refine WQ.val (fun w_ hC_ => Runs.boolT (c := false) (Runs.gtr rfl rfl) (by rw [decide_eq_false_iff_not]; omega)) rfl ?_
        refine WQ.val (fun w_ hC_ => Runs.move rfl) rfl ?_
        refine WQ.gon rfl rfl rfl ?_
        refine WQ.val (fun w_ hC_ => Runs.move rfl) rfl ?_
        refine WQ.gon rfl rfl rfl ?_
        refine WQ.val (fun w_ hC_ => Runs.boolT (c := false) (Runs.gtr rfl rfl) (by rw [decide_eq_false_iff_not]; omega)) rfl ?_
        refine WQ.gon rfl rfl rfl ?_
        refine WQ.val (fun w_ hC_ => Runs.move rfl) rfl ?_
        refine WQ.goff rfl rfl rfl rfl ?_
        refine WQ.goff rfl rfl rfl rfl ?_
        refine WQ.goff rfl rfl rfl rfl ?_
        refine WQ.goff rfl rfl rfl rfl ?_
        refine WQ.goff rfl rfl rfl rfl ?_
        refine WQ.goff rfl rfl rfl rfl ?_
        refine WQ.goff rfl rfl rfl rfl ?_
        refine WQ.goff rfl rfl rfl rfl ?_
        refine WQ.goff rfl rfl rfl rfl ?_
        refine WQ.goff rfl rfl rfl rfl ?_
        refine WQ.goff rfl rfl rfl rfl ?_
        refine WQ.gon rfl rfl rfl ?_
        refine WQ.val (fun w_ hC_ => Runs.pick rfl rfl rfl) rfl ?_
        refine WQ.val (fun w_ hC_ => Runs.pick rfl rfl rfl) rfl ?_
        refine WQ.fin ?_
        intro w14 h14
        refine WN.thn ?_
        refine WC.condF rfl (rfl) ?_
        refine WC.skip (WN.thn (WC.seq (WC.reg ?_)))
        refine WL.e 4 rfl ?_
        refine WL.v (Runs.load1 Tryz.underlying3 rfl rfl (h14.ocell hi rfl)) rfl ?_
        refine WL.v (Runs.addn rfl rfl (by omega)) rfl ?_
        refine WL.e 1 rfl ?_
        refine WL.v (Runs.addn rfl rfl (by omega)) rfl ?_
        refine WL.e 2 rfl ?_
        refine WL.store' h14 i hi rfl rfl inf3 rfl rfl (Free.zero _) (Nat.le_of_ble_eq_true rfl) ?_
        intro  w15 h15
        try simp only [lz, ls, ez, es'] at h15
        refine WL.nil (WN.thn (WC.seq (WC.reg ?_)))
        refine WL.e 2 rfl ?_
        refine WL.nil (WN.thn (WC.ret ?_))
        have he2 : rerr l p = 0 := by
         unfold rerr
         rw [if_neg (by omega), if_neg (by omega), if_neg (by omega), if_neg]
         rintro (h4 | ⟨h4, h5⟩)
         ·omega
         ·first | omega | exact absurd h5 y3
        have e1 : rdN l p e = (rval l p, rnx l p, 0) := by unfold rdN; rw [if_neg (by rw [he0]; simp), if_pos he2]
        rw [e1]
        subst he0
        exact ret1 rfl rfl ⟨rfl, h15⟩
       ·skip
        refine WC.qreg (C := fun w_ => St W _ _ w_) mixed (by kernel_rfl) (hL.drew) ?_
        refine WQ.val (fun w_ hC_ => Runs.move rfl) rfl ?_
        refine WQ.val (fun w_ hC_ => Runs.boolT (c := false) (Runs.gtr rfl rfl) (by rw [decide_eq_false_iff_not]; omega)) rfl ?_
        refine WQ.val (fun w_ hC_ => Runs.move rfl) rfl ?_
        refine WQ.gon rfl rfl rfl ?_
        refine WQ.val (fun w_ hC_ => Runs.move rfl) rfl ?_
        refine WQ.gon rfl rfl rfl ?_
        refine WQ.val (fun w_ hC_ => Runs.boolT (c := true) (Runs.gtr rfl rfl) (by rw [decide_eq_true_eq]; omega)) rfl ?_
        refine WQ.gon rfl rfl rfl ?_
        refine WQ.val (fun w_ hC_ => Runs.move rfl) rfl ?_
        refine WQ.gon rfl rfl rfl ?_
        refine WQ.val (fun w_ hC_ => Runs.move rfl) rfl ?_
        refine WQ.gon rfl rfl rfl ?_
        refine WQ.val (fun w_ hC_ => Runs.nilCheckP rfl) rfl ?_
        refine WQ.gon rfl rfl rfl ?_
        refine WQ.val (fun w_ hC_ => Runs.fld fld87_0 rfl) rfl ?_
        refine WQ.gon rfl rfl rfl ?_
        refine WQ.val (fun w_ hC_ => Runs.load1 Tryz.underlying9 rfl rfl (hC_.ocell hi rfl)) rfl ?_
        refine WQ.gon rfl rfl rfl ?_
        refine WQ.val (fun w_ hC_ => Runs.move rfl) rfl ?_
        refine WQ.gon rfl rfl rfl ?_
        refine WQ.val (fun w_ hC_ => Runs.nilCheckP rfl) rfl ?_
        refine WQ.gon rfl rfl rfl ?_
        refine WQ.val (fun w_ hC_ => Runs.fld fld87_1 rfl) rfl ?_
        refine WQ.gon rfl rfl rfl ?_
        refine WQ.val (fun w_ hC_ => Runs.load1 Tryz.underlying3 rfl rfl (hC_.ocell hi rfl)) rfl ?_
        refine WQ.gon rfl rfl rfl ?_
        refine WQ.val (fun w_ hC_ => Runs.addn rfl rfl (by omega)) rfl ?_
        refine WQ.gon rfl rfl rfl ?_
        refine WQ.val (fun w_ hC_ => Runs.valT (u := V8 ((dig l p).getD 0 0)) (Runs.lsidx Tryz.underlying9 rfl rfl (n := p + 1) (by omega) (by omega)) (by rw [dig_at (by omega)])) rfl ?_
        refine WQ.gon rfl rfl rfl ?_
        refine WQ.val (fun w_ hC_ => Runs.boolT (c := true) (Runs.eql rfl rfl) (by rw [y3]; rfl)) rfl ?_
        refine WQ.gon rfl rfl rfl ?_
        refine WQ.val (fun w_ hC_ => Runs.pick rfl rfl rfl) rfl ?_
        refine WQ.val (fun w_ hC_ => Runs.pick rfl rfl rfl) rfl ?_
        refine WQ.fin ?_
        intro w16 h16
        refine WN.thn ?_
        refine WC.condT rfl (rfl) ?_
        refine WC.seq (WC.reg ?_)
        refine WL.e 3 rfl ?_
        refine WL.store' h16 i hi rfl rfl inf43 rfl rfl (Free.zero _) (Nat.le_of_ble_eq_true rfl) ?_
        intro  w17 h17
        try simp only [lz, ls, ez, es'] at h17
        refine WL.nil (WN.thn (WC.seq (WC.reg ?_)))
        refine WL.e 1 rfl ?_
        refine WL.nil (WN.thn (WC.ret ?_))
        have he2 : rerr l p = 3 := by unfold rerr; rw [if_neg (by omega), if_neg (by omega), if_neg (by omega), if_pos (.inr ⟨y2, y3⟩)]
        have e1 : rdN l p e = (0, p, 3) := by unfold rdN; rw [if_neg (by rw [he0]; simp), if_neg (by rw [he2]; decide), he2]
        rw [e1]
        exact ret1 rfl rfl ⟨rfl, h17⟩
       ·have y4 := u8_ne y3
        refine WC.qreg (C := fun w_ => St W _ _ w_) mixed (by kernel_rfl) (hL.drew) ?_
        refine WQ.val (fun w_ hC_ => Runs.move rfl) rfl ?_
        refine WQ.val (fun w_ hC_ => Runs.boolT (c := false) (Runs.gtr rfl rfl) (by rw [decide_eq_false_iff_not]; omega)) rfl ?_
        refine WQ.val (fun w_ hC_ => Runs.move rfl) rfl ?_
        refine WQ.gon rfl rfl rfl ?_
        refine WQ.val (fun w_ hC_ => Runs.move rfl) rfl ?_
        refine WQ.gon rfl rfl rfl ?_
        refine WQ.val (fun w_ hC_ => Runs.boolT (c := true) (Runs.gtr rfl rfl) (by rw [decide_eq_true_eq]; omega)) rfl ?_
        refine WQ.gon rfl rfl rfl ?_
        refine WQ.val (fun w_ hC_ => Runs.move rfl) rfl ?_
        refine WQ.gon rfl rfl rfl ?_
        refine WQ.val (fun w_ hC_ => Runs.move rfl) rfl ?_
        refine WQ.gon rfl rfl rfl ?_
        refine WQ.val (fun w_ hC_ => Runs.nilCheckP rfl) rfl ?_
        refine WQ.gon rfl rfl rfl ?_
        refine WQ.val (fun w_ hC_ => Runs.fld fld87_0 rfl) rfl ?_
        refine WQ.gon rfl rfl rfl ?_
        refine WQ.val (fun w_ hC_ => Runs.load1 Tryz.underlying9 rfl rfl (hC_.ocell hi rfl)) rfl ?_
        refine WQ.gon rfl rfl rfl ?_
        refine WQ.val (fun w_ hC_ => Runs.move rfl) rfl ?_
        refine WQ.gon rfl rfl rfl ?_
        refine WQ.val (fun w_ hC_ => Runs.nilCheckP rfl) rfl ?_
        refine WQ.gon rfl rfl rfl ?_
        refine WQ.val (fun w_ hC_ => Runs.fld fld87_1 rfl) rfl ?_
        refine WQ.gon rfl rfl rfl ?_
        refine WQ.val (fun w_ hC_ => Runs.load1 Tryz.underlying3 rfl rfl (hC_.ocell hi rfl)) rfl ?_
        refine WQ.gon rfl rfl rfl ?_
        refine WQ.val (fun w_ hC_ => Runs.addn rfl rfl (by omega)) rfl ?_
        refine WQ.gon rfl rfl rfl ?_
        refine WQ.val (fun w_ hC_ => Runs.valT (u := V8 ((dig l p).getD 0 0)) (Runs.lsidx Tryz.underlying9 rfl rfl (n := p + 1) (by omega) (by omega)) (by rw [dig_at (by omega)])) rfl ?_
        refine WQ.gon rfl rfl rfl ?_
        refine WQ.val (fun w_ hC_ => Runs.boolT (c := false) (Runs.eql rfl rfl) (decide_eq_false y4)) rfl ?_
        refine WQ.gon rfl rfl rfl ?_
        refine WQ.val (fun w_ hC_ => Runs.pick rfl rfl rfl) rfl ?_
        refine WQ.val (fun w_ hC_ => Runs.pick rfl rfl rfl) rfl ?_
        refine WQ.fin ?_
        intro w18 h18
        refine WN.thn ?_
        refine WC.condF rfl (rfl) ?_
        refine WC.skip (WN.thn (WC.seq (WC.reg ?_)))
        refine WL.e 4 rfl ?_
        refine WL.v (Runs.load1 Tryz.underlying3 rfl rfl (h18.ocell hi rfl)) rfl ?_
        refine WL.v (Runs.addn rfl rfl (by omega)) rfl ?_
        refine WL.e 1 rfl ?_
        refine WL.v (Runs.addn rfl rfl (by omega)) rfl ?_
        refine WL.e 2 rfl ?_
        refine WL.store' h18 i hi rfl rfl inf3 rfl rfl (Free.zero _) (Nat.le_of_ble_eq_true rfl) ?_
        intro  w19 h19
        try simp only [lz, ls, ez, es'] at h19
        refine WL.nil (WN.thn (WC.seq (WC.reg ?_)))
        refine WL.e 2 rfl ?_
        refine WL.nil (WN.thn (WC.ret ?_))
        have he2 : rerr l p = 0 := by
         unfold rerr
         rw [if_neg (by omega), if_neg (by omega), if_neg (by omega), if_neg]
         rintro (h4 | ⟨h4, h5⟩)
         ·omega
         ·first | omega | exact absurd h5 y3
        have e1 : rdN l p e = (rval l p, rnx l p, 0) := by unfold rdN; rw [if_neg (by rw [he0]; simp), if_pos he2]
        rw [e1]
        subst he0
        exact ret1 rfl rfl ⟨rfl, h19⟩
 ·skip
  refine WC.reg ?_
  refine WL.e 3 rfl ?_
  refine WL.v (Runs.load1 Tryz.underlying43 rfl rfl (h.ocell hi rfl)) rfl ?_
  refine WL.v (Runs.boolT (c := true) (Runs.neq rfl rfl) (by rw [decide_eq_false he0]; rfl)) rfl ?_
  refine WL.nil (WN.thn ?_)
  refine WC.condT rfl (rfl) ?_
  refine WC.seq (WC.reg ?_)
  refine WL.e 1 rfl ?_
  refine WL.nil (WN.thn (WC.ret ?_))
  have e1 : rdN l p e = (0, p, e) := by unfold rdN; rw [if_pos he0]
  rw [e1]
  refine ret1 rfl rfl ⟨rfl, ?_⟩
  rw [setS hi]; exact h
theorem fail_c {W : World} {F : Snap} {cs : List Res} (w : World) {i rb : Nat} {q e : Int} {l : List UInt8} (a b : Int) (h : St W F cs w) (hi : cs[i]? = some [(rb, .cells #[.string (bs l), Vi q, Vi e] 87 (0, 0))]) : Calls Tryz.prog 79 #[.pointer (some ⟨rb, 0, none⟩), Vi a, Vi b] w fun r w' => r = .returned (.tuple #[]) ∧ St W F (cs.set i [(rb, .cells #[.string (bs l), Vi a, Vi b] 87 (0, 0))]) w'  := by
 refine enter (P := Tryz.prog) (args := [.pointer (some ⟨rb, 0, none⟩), Vi a, Vi b]) Tryz.func79 rfl rfl rfl ?_
 refine WC.seq (WC.reg ?_)
 refine WL.e 4 rfl ?_
 refine WL.store' h i hi rfl rfl inf3 rfl rfl (Free.zero _) (Nat.le_of_ble_eq_true rfl) ?_
 intro  w1 h1
 try simp only [lz, ls, ez, es'] at h1
 refine WL.nil (WN.thn (WC.reg ?_))
 refine WL.e 4 rfl ?_
 refine WL.store' h1 i (show (cs.set i [(rb, .cells #[.string (bs l), Vi a, Vi e] 87 (0, 0))])[i]? = some [(rb, .cells #[.string (bs l), Vi a, Vi e] 87 (0, 0))] by rw [List.getElem?_set_self (List.getElem?_eq_some_iff.1 hi).1]) rfl rfl inf43 rfl rfl (Free.zero _) (Nat.le_of_ble_eq_true rfl) ?_
 intro  w2 h2
 try simp only [lz, ls, ez, es'] at h2
 rw [List.set_set] at h2
 refine WL.nil ?_
 exact end0 rfl ⟨rfl, h2⟩
theorem qend_c {W : World} {F : Snap} {cs : List Res} (w : World) {i rb : Nat} {p : Nat} {l : List UInt8} {e : Int} (h : St W F cs w) (hi : cs[i]? = some [(rb, .cells #[.string (bs l), Vi p, Vi e] 87 (0, 0))]) : Calls Tryz.prog 36 #[.pointer (some ⟨rb, 0, none⟩)] w fun r w' => r = .returned (.tuple #[Vi (rdEnd l p e).1, Vi ((rdEnd l p e).2 : Nat)]) ∧ St W F cs w'  := by
 refine enter (P := Tryz.prog) (args := [.pointer (some ⟨rb, 0, none⟩)]) Tryz.func36 rfl rfl rfl ?_
 refine WC.seq (WC.reg ?_)
 refine WL.e 2 rfl ?_
 refine WL.nil (WN.thn (WC.seq (WC.seq ?_)))
 rcases cases5 e p l.length with hx1 | ⟨hx1, hx2⟩ | ⟨hx1, hx2⟩
 ·skip
  refine WC.qreg (C := fun w_ => St W _ _ w_) mixed (by kernel_rfl) (h.drew) ?_
  refine WQ.val (fun w_ hC_ => Runs.move rfl) rfl ?_
  refine WQ.val (fun w_ hC_ => Runs.nilCheckP rfl) rfl ?_
  refine WQ.val (fun w_ hC_ => Runs.fld fld87_2 rfl) rfl ?_
  refine WQ.val (fun w_ hC_ => Runs.load1 Tryz.underlying43 rfl rfl (hC_.ocell hi rfl)) rfl ?_
  refine WQ.val (fun w_ hC_ => Runs.boolT (c := false) (Runs.eql rfl rfl) (decide_eq_false hx1)) rfl ?_
  refine WQ.val (fun w_ hC_ => Runs.move rfl) rfl ?_
  refine WQ.goff rfl rfl rfl rfl ?_
  refine WQ.goff rfl rfl rfl rfl ?_
  refine WQ.goff rfl rfl rfl rfl ?_
  refine WQ.goff rfl rfl rfl rfl ?_
  refine WQ.goff rfl rfl rfl rfl ?_
  refine WQ.goff rfl rfl rfl rfl ?_
  refine WQ.goff rfl rfl rfl rfl ?_
  refine WQ.goff rfl rfl rfl rfl ?_
  refine WQ.goff rfl rfl rfl rfl ?_
  refine WQ.goff rfl rfl rfl rfl ?_
  refine WQ.val (fun w_ hC_ => Runs.pick rfl rfl rfl) rfl ?_
  refine WQ.fin ?_
  intro w1 h1
  refine WN.thn ?_
  refine WC.condF rfl (rfl) ?_
  refine WC.skip (WN.thn (WC.seq ?_))
  refine WC.qreg (C := fun w_ => St W _ _ w_) mixed (by kernel_rfl) (h1.drew) ?_
  refine WQ.val (fun w_ hC_ => Runs.move rfl) rfl ?_
  refine WQ.val (fun w_ hC_ => Runs.nilCheckP rfl) rfl ?_
  refine WQ.val (fun w_ hC_ => Runs.fld fld87_2 rfl) rfl ?_
  refine WQ.val (fun w_ hC_ => Runs.load1 Tryz.underlying43 rfl rfl (hC_.ocell hi rfl)) rfl ?_
  refine WQ.val (fun w_ hC_ => Runs.move rfl) rfl ?_
  refine WQ.val (fun w_ hC_ => Runs.nilCheckP rfl) rfl ?_
  refine WQ.val (fun w_ hC_ => Runs.fld fld87_1 rfl) rfl ?_
  refine WQ.val (fun w_ hC_ => Runs.load1 Tryz.underlying3 rfl rfl (hC_.ocell hi rfl)) rfl ?_
  refine WQ.val (fun w_ hC_ => Runs.assign rfl) rfl ?_
  refine WQ.val (fun w_ hC_ => Runs.assign rfl) rfl ?_
  refine WQ.fin ?_
  intro w2 h2
  refine WN.thn (WC.ret ?_)
  refine ret2 rfl rfl rfl ⟨?_, h2⟩
  unfold rdEnd
  rw [if_neg (fun h => hx1 h.1)]
  rfl
 ·skip
  refine WC.qreg (C := fun w_ => St W _ _ w_) mixed (by kernel_rfl) (h.drew) ?_
  refine WQ.val (fun w_ hC_ => Runs.move rfl) rfl ?_
  refine WQ.val (fun w_ hC_ => Runs.nilCheckP rfl) rfl ?_
  refine WQ.val (fun w_ hC_ => Runs.fld fld87_2 rfl) rfl ?_
  refine WQ.val (fun w_ hC_ => Runs.load1 Tryz.underlying43 rfl rfl (hC_.ocell hi rfl)) rfl ?_
  refine WQ.val (fun w_ hC_ => Runs.boolT (c := true) (Runs.eql rfl rfl) (decide_eq_true hx1)) rfl ?_
  refine WQ.val (fun w_ hC_ => Runs.move rfl) rfl ?_
  refine WQ.gon rfl rfl rfl ?_
  refine WQ.val (fun w_ hC_ => Runs.move rfl) rfl ?_
  refine WQ.gon rfl rfl rfl ?_
  refine WQ.val (fun w_ hC_ => Runs.nilCheckP rfl) rfl ?_
  refine WQ.gon rfl rfl rfl ?_
  refine WQ.val (fun w_ hC_ => Runs.fld fld87_1 rfl) rfl ?_
  refine WQ.gon rfl rfl rfl ?_
  refine WQ.val (fun w_ hC_ => Runs.load1 Tryz.underlying3 rfl rfl (hC_.ocell hi rfl)) rfl ?_
  refine WQ.gon rfl rfl rfl ?_
  refine WQ.val (fun w_ hC_ => Runs.move rfl) rfl ?_
  refine WQ.gon rfl rfl rfl ?_
  refine WQ.val (fun w_ hC_ => Runs.nilCheckP rfl) rfl ?_
  refine WQ.gon rfl rfl rfl ?_
  refine WQ.val (fun w_ hC_ => Runs.fld fld87_0 rfl) rfl ?_
  refine WQ.gon rfl rfl rfl ?_
  refine WQ.val (fun w_ hC_ => Runs.load1 Tryz.underlying9 rfl rfl (hC_.ocell hi rfl)) rfl ?_
  refine WQ.gon rfl rfl rfl ?_
  refine WQ.val (fun w_ hC_ => Runs.intT (n := (l.length : Int)) (Runs.slen Tryz.underlying9 rfl rfl) rfl) rfl ?_
  refine WQ.gon rfl rfl rfl ?_
  refine WQ.val (fun w_ hC_ => Runs.boolT (c := true) (Runs.lss rfl rfl) (by rw [decide_eq_true_eq]; omega)) rfl ?_
  refine WQ.val (fun w_ hC_ => Runs.pick rfl rfl rfl) rfl ?_
  refine WQ.fin ?_
  intro w3 h3
  refine WN.thn ?_
  refine WC.condT rfl (rfl) ?_
  refine WC.seq ?_
  refine WC.qreg (C := fun w_ => St W _ _ w_) mixed (by kernel_rfl) (h3.drew) ?_
  refine WQ.val (fun w_ hC_ => Runs.move rfl) rfl ?_
  refine WQ.val (fun w_ hC_ => Runs.nilCheckP rfl) rfl ?_
  refine WQ.val (fun w_ hC_ => Runs.fld fld87_1 rfl) rfl ?_
  refine WQ.val (fun w_ hC_ => Runs.load1 Tryz.underlying3 rfl rfl (hC_.ocell hi rfl)) rfl ?_
  refine WQ.val (fun w_ hC_ => Runs.assign rfl) rfl ?_
  refine WQ.val (fun w_ hC_ => Runs.assign rfl) rfl ?_
  refine WQ.fin ?_
  intro w4 h4
  refine WN.thn (WC.ret ?_)
  refine ret2 rfl rfl rfl ⟨?_, h4⟩
  unfold rdEnd
  rw [if_pos ⟨hx1, hx2⟩]
  rfl
 ·skip
  refine WC.qreg (C := fun w_ => St W _ _ w_) mixed (by kernel_rfl) (h.drew) ?_
  refine WQ.val (fun w_ hC_ => Runs.move rfl) rfl ?_
  refine WQ.val (fun w_ hC_ => Runs.nilCheckP rfl) rfl ?_
  refine WQ.val (fun w_ hC_ => Runs.fld fld87_2 rfl) rfl ?_
  refine WQ.val (fun w_ hC_ => Runs.load1 Tryz.underlying43 rfl rfl (hC_.ocell hi rfl)) rfl ?_
  refine WQ.val (fun w_ hC_ => Runs.boolT (c := true) (Runs.eql rfl rfl) (decide_eq_true hx1)) rfl ?_
  refine WQ.val (fun w_ hC_ => Runs.move rfl) rfl ?_
  refine WQ.gon rfl rfl rfl ?_
  refine WQ.val (fun w_ hC_ => Runs.move rfl) rfl ?_
  refine WQ.gon rfl rfl rfl ?_
  refine WQ.val (fun w_ hC_ => Runs.nilCheckP rfl) rfl ?_
  refine WQ.gon rfl rfl rfl ?_
  refine WQ.val (fun w_ hC_ => Runs.fld fld87_1 rfl) rfl ?_
  refine WQ.gon rfl rfl rfl ?_
  refine WQ.val (fun w_ hC_ => Runs.load1 Tryz.underlying3 rfl rfl (hC_.ocell hi rfl)) rfl ?_
  refine WQ.gon rfl rfl rfl ?_
  refine WQ.val (fun w_ hC_ => Runs.move rfl) rfl ?_
  refine WQ.gon rfl rfl rfl ?_
  refine WQ.val (fun w_ hC_ => Runs.nilCheckP rfl) rfl ?_
  refine WQ.gon rfl rfl rfl ?_
  refine WQ.val (fun w_ hC_ => Runs.fld fld87_0 rfl) rfl ?_
  refine WQ.gon rfl rfl rfl ?_
  refine WQ.val (fun w_ hC_ => Runs.load1 Tryz.underlying9 rfl rfl (hC_.ocell hi rfl)) rfl ?_
  refine WQ.gon rfl rfl rfl ?_
  refine WQ.val (fun w_ hC_ => Runs.intT (n := (l.length : Int)) (Runs.slen Tryz.underlying9 rfl rfl) rfl) rfl ?_
  refine WQ.gon rfl rfl rfl ?_
  refine WQ.val (fun w_ hC_ => Runs.boolT (c := false) (Runs.lss rfl rfl) (by rw [decide_eq_false_iff_not]; omega)) rfl ?_
  refine WQ.val (fun w_ hC_ => Runs.pick rfl rfl rfl) rfl ?_
  refine WQ.fin ?_
  intro w5 h5
  refine WN.thn ?_
  refine WC.condF rfl (rfl) ?_
  refine WC.skip (WN.thn (WC.seq ?_))
  refine WC.qreg (C := fun w_ => St W _ _ w_) mixed (by kernel_rfl) (h5.drew) ?_
  refine WQ.val (fun w_ hC_ => Runs.move rfl) rfl ?_
  refine WQ.val (fun w_ hC_ => Runs.nilCheckP rfl) rfl ?_
  refine WQ.val (fun w_ hC_ => Runs.fld fld87_2 rfl) rfl ?_
  refine WQ.val (fun w_ hC_ => Runs.load1 Tryz.underlying43 rfl rfl (hC_.ocell hi rfl)) rfl ?_
  refine WQ.val (fun w_ hC_ => Runs.move rfl) rfl ?_
  refine WQ.val (fun w_ hC_ => Runs.nilCheckP rfl) rfl ?_
  refine WQ.val (fun w_ hC_ => Runs.fld fld87_1 rfl) rfl ?_
  refine WQ.val (fun w_ hC_ => Runs.load1 Tryz.underlying3 rfl rfl (hC_.ocell hi rfl)) rfl ?_
  refine WQ.val (fun w_ hC_ => Runs.assign rfl) rfl ?_
  refine WQ.val (fun w_ hC_ => Runs.assign rfl) rfl ?_
  refine WQ.fin ?_
  intro w6 h6
  refine WN.thn (WC.ret ?_)
  refine ret2 rfl rfl rfl ⟨?_, h6⟩
  unfold rdEnd
  rw [if_neg (fun h => hx2 h.2)]
  rfl
end Wir
end Go.Proofs.YtifdpllfbaogcaaGreat
namespace Go.Proofs.YtifdpllfbaogcaaGreat
open Go Go.RowKit B
namespace Wir
theorem can34 : B.Can Tryz.prog 34 := ⟨_, Tryz.func34, by kernel_rfl, rfl⟩
theorem can35 : B.Can Tryz.prog 35 := ⟨_, Tryz.func35, by kernel_rfl, rfl⟩
theorem can36 : B.Can Tryz.prog 36 := ⟨_, Tryz.func36, by kernel_rfl, rfl⟩
theorem can79 : B.Can Tryz.prog 79 := ⟨_, Tryz.func79, by kernel_rfl, rfl⟩
theorem rdT_er {l : List UInt8} {p : Nat} {e : Int} (h : (rdN l p e).2.2 ≠ 0) : rdT l p e = ([], (rdN l p e).2.1, (rdN l p e).2.2) := by
 by_cases he : e = 0
 ·subst he
  by_cases hr : rerr l p = 0
  ·have hN : rdN l p 0 = (rval l p, rnx l p, 0) := by unfold rdN; rw [if_neg (by simp), if_pos hr]
   rw [hN] at h; exact absurd rfl h
  ·have hN : rdN l p 0 = (0, p, rerr l p) := by unfold rdN; rw [if_neg (by simp), if_neg hr]
   have hc : cerr l p 4096 = rerr l p := if_pos hr
   rw [hN]
   unfold rdT
   rw [if_neg (by simp), if_pos (by rw [hc]; exact hr), hc]
 ·have hN : rdN l p e = (0, p, e) := by unfold rdN; rw [if_pos he]
  rw [hN]
  unfold rdT
  rw [if_pos he]
theorem qtext_c {W : World} {F : Snap} {cs : List Res} (w : World) {i rb : Nat} {p : Nat} {l : List UInt8} {e : Int} (h : St W F cs w) (hi : cs[i]? = some [(rb, .cells #[.string (bs l), Vi p, Vi e] 87 (0, 0))]) (hl : l.length ≤ 100000) (hp : p ≤ l.length) : Calls Tryz.prog 35 #[.pointer (some ⟨rb, 0, none⟩)] w fun r w' => r = .returned (.string (bs (rdT l p e).1)) ∧ St W F (cs.set i [(rb, .cells #[.string (bs l), Vi ((rdT l p e).2.1 : Nat), Vi (rdT l p e).2.2] 87 (0, 0))]) w'  := by
 refine enter (P := Tryz.prog) (args := [.pointer (some ⟨rb, 0, none⟩)]) Tryz.func35 rfl rfl rfl ?_
 refine WC.seq (WC.reg ?_)
 refine WL.e 1 rfl ?_
 refine WL.nil (WN.thn (WC.seq (WC.reg ?_)))
 refine WL.e 3 rfl ?_
 refine WL.v (Runs.load1 Tryz.underlying3 rfl rfl (h.ocell hi rfl)) rfl ?_
 refine WL.e 1 rfl ?_
 refine WL.nil (WN.thn (WC.seq (WC.reg ?_)))
 refine WL.e 1 rfl ?_
 refine WL.call can34 rfl rfl (qnum_c _ h hi hl hp) ?_
 rintro _ w1 ⟨rfl, h1⟩
 refine ⟨_, rfl, ?_⟩
 have hi1 : (cs.set i [(rb, .cells #[.string (bs l), Vi ((rdN l p e).2.1 : Nat), Vi (rdN l p e).2.2] 87 (0, 0))])[i]? = some [(rb, .cells #[.string (bs l), Vi ((rdN l p e).2.1 : Nat), Vi (rdN l p e).2.2] 87 (0, 0))] := by rw [List.getElem?_set_self (List.getElem?_eq_some_iff.1 hi).1]
 have hpn := rdN_le (l := l) (p := p) e hp
 have hbn := rdN_bnd l p e
 refine WL.e 1 rfl ?_
 refine WL.nil (WN.thn (WC.seq (WC.seq ?_)))
 by_cases he : (rdN l p e).2.2 = 0
 ·have hok := num_rdN he
  have hrn := hok.2.2
  refine WC.reg ?_
  refine WL.e 3 rfl ?_
  refine WL.v (Runs.load1 Tryz.underlying43 rfl rfl (h1.ocell hi1 rfl)) rfl ?_
  refine WL.v (Runs.boolT (c := false) (Runs.neq rfl rfl) (by rw [decide_eq_true he]; rfl)) rfl ?_
  refine WL.nil (WN.thn ?_)
  refine WC.condF rfl (rfl) ?_
  refine WC.skip (WN.thn (WC.seq (WC.seq ?_)))
  have hcase : 4096 < rval l p ∨ rval l p ≤ 4096 := by omega
  rcases hcase with hm | hm
  ·skip
   refine WC.reg ?_
   refine WL.e 1 rfl ?_
   refine WL.v (Runs.boolT (c := true) (Runs.gtr rfl rfl) (by rw [decide_eq_true_eq, hrn]; show (4096 : Int) < ((rval l p : Nat) : Int); omega)) rfl ?_
   refine WL.nil (WN.thn ?_)
   refine WC.condT rfl (rfl) ?_
   refine WC.seq (WC.reg ?_)
   refine WL.e 2 rfl ?_
   refine WL.call can79 rfl rfl (fail_c _ p 3 h1 hi1) ?_
   rintro _ w2 ⟨rfl, h2⟩
   refine ⟨_, rfl, ?_⟩
   rw [List.set_set] at h2
   refine WL.nil (WN.thn (WC.seq (WC.reg ?_)))
   refine WL.e 1 rfl ?_
   refine WL.nil (WN.thn (WC.ret ?_))
   have e1 : rdT l p e = ([], p, 3) := by
    unfold rdT cerr
    rw [if_neg (by rw [hok.1]; simp), hok.2.1, if_pos (by rw [if_neg (by simp), if_pos (by omega)]; decide), if_neg (by simp), if_pos (by omega)]
   rw [e1]
   exact ret1 rfl rfl ⟨rfl, h2⟩
  ·skip
   refine WC.reg ?_
   refine WL.e 1 rfl ?_
   refine WL.v (Runs.boolT (c := false) (Runs.gtr rfl rfl) (by rw [decide_eq_false_iff_not, hrn]; show ¬ (4096 : Int) < ((rval l p : Nat) : Int); omega)) rfl ?_
   refine WL.nil (WN.thn ?_)
   refine WC.condF rfl (rfl) ?_
   refine WC.skip (WN.thn (WC.seq (WC.seq ?_)))
   have hrx := rnx_le hok.2.1
   have hcase : l.length < rnx l p + rval l p ∨ rnx l p + rval l p ≤ l.length := by omega
   rcases hcase with hn | hn
   ·skip
    refine WC.qreg (C := fun w_ => St W _ _ w_) mixed (by kernel_rfl) (h1.drew) ?_
    refine WQ.val (fun w_ hC_ => Runs.move rfl) rfl ?_
    refine WQ.val (fun w_ hC_ => Runs.nilCheckP rfl) rfl ?_
    refine WQ.val (fun w_ hC_ => Runs.fld fld87_1 rfl) rfl ?_
    refine WQ.val (fun w_ hC_ => Runs.load1 Tryz.underlying3 rfl rfl (hC_.ocell hi1 rfl)) rfl ?_
    refine WQ.val (fun w_ hC_ => Runs.move rfl) rfl ?_
    refine WQ.val (fun w_ hC_ => Runs.addn rfl rfl (by omega)) rfl ?_
    refine WQ.val (fun w_ hC_ => Runs.move rfl) rfl ?_
    refine WQ.val (fun w_ hC_ => Runs.nilCheckP rfl) rfl ?_
    refine WQ.val (fun w_ hC_ => Runs.fld fld87_0 rfl) rfl ?_
    refine WQ.val (fun w_ hC_ => Runs.load1 Tryz.underlying9 rfl rfl (hC_.ocell hi1 rfl)) rfl ?_
    refine WQ.val (fun w_ hC_ => Runs.intT (n := (l.length : Int)) (Runs.slen Tryz.underlying9 rfl rfl) rfl) rfl ?_
    refine WQ.val (fun w_ hC_ => Runs.boolT (c := true) (Runs.gtr rfl rfl) (by rw [decide_eq_true_eq, hrn]; show (l.length : Int) < ((rnx l p : Nat) : Int) + ((rval l p : Nat) : Int); omega)) rfl ?_
    refine WQ.fin ?_
    intro w3 h3
    refine WN.thn ?_
    refine WC.condT rfl (rfl) ?_
    refine WC.seq (WC.reg ?_)
    refine WL.e 3 rfl ?_
    refine WL.store' h3 i hi1 rfl rfl inf43 rfl rfl (Free.zero _) (Nat.le_of_ble_eq_true rfl) ?_
    intro  w4 h4
    try simp only [lz, ls, ez, es'] at h4
    rw [List.set_set] at h4
    refine WL.nil (WN.thn (WC.seq (WC.reg ?_)))
    refine WL.e 1 rfl ?_
    refine WL.nil (WN.thn (WC.ret ?_))
    have hc0 : cerr l p 4096 = 0 := by unfold cerr; rw [if_neg (by rw [hok.2.1]; simp), if_neg (by omega)]
    have e1 : rdT l p e = ([], rnx l p, 2) := by
     unfold rdT
     rw [if_neg (by rw [hok.1]; simp), if_neg (by rw [hc0]; simp), if_pos hn]
    rw [e1]
    rw [hrn] at h4
    exact ret1 rfl rfl ⟨rfl, h4⟩
   ·skip
    refine WC.qreg (C := fun w_ => St W _ _ w_) mixed (by kernel_rfl) (h1.drew) ?_
    refine WQ.val (fun w_ hC_ => Runs.move rfl) rfl ?_
    refine WQ.val (fun w_ hC_ => Runs.nilCheckP rfl) rfl ?_
    refine WQ.val (fun w_ hC_ => Runs.fld fld87_1 rfl) rfl ?_
    refine WQ.val (fun w_ hC_ => Runs.load1 Tryz.underlying3 rfl rfl (hC_.ocell hi1 rfl)) rfl ?_
    refine WQ.val (fun w_ hC_ => Runs.move rfl) rfl ?_
    refine WQ.val (fun w_ hC_ => Runs.addn rfl rfl (by omega)) rfl ?_
    refine WQ.val (fun w_ hC_ => Runs.move rfl) rfl ?_
    refine WQ.val (fun w_ hC_ => Runs.nilCheckP rfl) rfl ?_
    refine WQ.val (fun w_ hC_ => Runs.fld fld87_0 rfl) rfl ?_
    refine WQ.val (fun w_ hC_ => Runs.load1 Tryz.underlying9 rfl rfl (hC_.ocell hi1 rfl)) rfl ?_
    refine WQ.val (fun w_ hC_ => Runs.intT (n := (l.length : Int)) (Runs.slen Tryz.underlying9 rfl rfl) rfl) rfl ?_
    refine WQ.val (fun w_ hC_ => Runs.boolT (c := false) (Runs.gtr rfl rfl) (by rw [decide_eq_false_iff_not, hrn]; show ¬ (l.length : Int) < ((rnx l p : Nat) : Int) + ((rval l p : Nat) : Int); omega)) rfl ?_
    refine WQ.fin ?_
    intro w5 h5
    refine WN.thn ?_
    refine WC.condF rfl (rfl) ?_
    refine WC.skip (WN.thn (WC.seq (WC.reg ?_)))
    refine WL.e 4 rfl ?_
    refine WL.v (Runs.load1 Tryz.underlying3 rfl rfl (h5.ocell hi1 rfl)) rfl ?_
    refine WL.e 1 rfl ?_
    refine WL.v (Runs.intT (n := ((rnx l p + rval l p : Nat) : Int)) (Runs.addn rfl rfl (by omega)) (by rw [hrn]; show ((rnx l p : Nat) : Int) + ((rval l p : Nat) : Int) = _; omega)) rfl ?_
    refine WL.e 2 rfl ?_
    refine WL.store' h5 i hi1 rfl rfl inf3 rfl rfl (Free.zero _) (Nat.le_of_ble_eq_true rfl) ?_
    intro  w6 h6
    try simp only [lz, ls, ez, es'] at h6
    rw [List.set_set] at h6
    have hi2 : (cs.set i [(rb, .cells #[.string (bs l), Vi ((rnx l p + rval l p : Nat) : Int), Vi (rdN l p e).2.2] 87 (0, 0))])[i]? = some [(rb, .cells #[.string (bs l), Vi ((rnx l p + rval l p : Nat) : Int), Vi (rdN l p e).2.2] 87 (0, 0))] := by rw [List.getElem?_set_self (List.getElem?_eq_some_iff.1 hi).1]
    refine WL.nil (WN.thn (WC.seq ?_))
    refine WC.qreg (C := fun w_ => St W _ _ w_) mixed (by kernel_rfl) (h6.drew) ?_
    refine WQ.val (fun w_ hC_ => Runs.move rfl) rfl ?_
    refine WQ.val (fun w_ hC_ => Runs.nilCheckP rfl) rfl ?_
    refine WQ.val (fun w_ hC_ => Runs.fld fld87_0 rfl) rfl ?_
    refine WQ.val (fun w_ hC_ => Runs.load1 Tryz.underlying9 rfl rfl (hC_.ocell hi2 rfl)) rfl ?_
    refine WQ.val (fun w_ hC_ => Runs.move rfl) rfl ?_
    refine WQ.val (fun w_ hC_ => Runs.nilCheckP rfl) rfl ?_
    refine WQ.val (fun w_ hC_ => Runs.fld fld87_1 rfl) rfl ?_
    refine WQ.val (fun w_ hC_ => Runs.load1 Tryz.underlying3 rfl rfl (hC_.ocell hi2 rfl)) rfl ?_
    refine WQ.val (fun w_ hC_ => Runs.move rfl) rfl ?_
    refine WQ.val (fun w_ hC_ => Runs.intT (n := ((rnx l p : Nat) : Int)) (Runs.subn rfl rfl (by rw [hrn]; show _ ≤ ((rnx l p + rval l p : Nat) : Int) - ((rval l p : Nat) : Int) ∧ ((rnx l p + rval l p : Nat) : Int) - ((rval l p : Nat) : Int) ≤ _; omega)) (by rw [hrn]; show ((rnx l p + rval l p : Nat) : Int) - ((rval l p : Nat) : Int) = _; omega)) rfl ?_
    refine WQ.val (fun w_ hC_ => Runs.move rfl) rfl ?_
    refine WQ.val (fun w_ hC_ => Runs.nilCheckP rfl) rfl ?_
    refine WQ.val (fun w_ hC_ => Runs.fld fld87_1 rfl) rfl ?_
    refine WQ.val (fun w_ hC_ => Runs.load1 Tryz.underlying3 rfl rfl (hC_.ocell hi2 rfl)) rfl ?_
    refine WQ.val (fun w_ hC_ => Runs.valT (u := .string (bs ((l.drop (rnx l p)).take (rval l p)))) (Runs.lssl Tryz.underlying9 rfl rfl rfl (n := rnx l p) (m := rnx l p + rval l p) rfl rfl (by omega) (by omega)) (by rw [show rnx l p + rval l p - rnx l p = rval l p by omega])) rfl ?_
    refine WQ.val (fun w_ hC_ => Runs.assign rfl) rfl ?_
    refine WQ.fin ?_
    intro w7 h7
    refine WN.thn (WC.ret ?_)
    have hc0 : cerr l p 4096 = 0 := by unfold cerr; rw [if_neg (by rw [hok.2.1]; simp), if_neg (by omega)]
    have e1 : rdT l p e = ((l.drop (rnx l p)).take (rval l p), rnx l p + rval l p, 0) := by
     unfold rdT
     rw [if_neg (by rw [hok.1]; simp), if_neg (by rw [hc0]; simp), if_neg (by omega)]
    rw [e1]
    rw [hrn] at h7
    exact ret1 rfl rfl ⟨rfl, h7⟩
 ·skip
  refine WC.reg ?_
  refine WL.e 3 rfl ?_
  refine WL.v (Runs.load1 Tryz.underlying43 rfl rfl (h1.ocell hi1 rfl)) rfl ?_
  refine WL.v (Runs.boolT (c := true) (Runs.neq rfl rfl) (by rw [decide_eq_false he]; rfl)) rfl ?_
  refine WL.nil (WN.thn ?_)
  refine WC.condT rfl (rfl) ?_
  refine WC.seq (WC.reg ?_)
  refine WL.e 1 rfl ?_
  refine WL.nil (WN.thn (WC.ret ?_))
  have e1 : rdT l p e = ([], (rdN l p e).2.1, (rdN l p e).2.2) := rdT_er he
  rw [e1]
  exact ret1 rfl rfl ⟨rfl, h1⟩
theorem qdec_c {W : World} {F : Snap} {cs : List Res} (w : World) (l : List UInt8) (h : St W F cs w) (hl : l.length ≤ 100000) : Calls Tryz.prog 15 #[.string (bs l)] w fun r w' => r = .returned (.tuple #[(decB l).1.val, Vi (decB l).2]) ∧ St W F cs w'  := by
 refine enter (P := Tryz.prog) (args := [.string (bs l)]) Tryz.func15 rfl rfl rfl ?_
 refine WC.seq (WC.reg ?_)
 refine WL.alloc' rfl h inf42 ?_
 intro b2 w1 h1
 refine WL.e 1 rfl ?_
 refine WL.nil (WN.thn (WC.seq (WC.reg ?_)))
 refine WL.e 1 rfl ?_
 refine WL.v (Runs.build (vs := [(0, .string (bs l))]) (cells := #[.string (bs l), Vi 0, Vi 0]) rfl (by kernel_rfl)) rfl ?_
 refine WL.box rfl h1 rfl ?_
 intro b10 w2 h2
 refine WL.e 1 rfl ?_
 refine WL.nil (WN.thn (WC.seq (WC.reg ?_)))
 refine WL.v (Runs.build (vs := []) (cells := #[Vi 0, Vi 0, Vi 0, Vi 0, Vi 0, Vi 0, Vi 0, .string ⟨#[]⟩]) rfl (by kernel_rfl)) rfl ?_
 refine WL.alloc' rfl h2 inf42 ?_
 intro b5 w3 h3
 refine WL.storeAll h3 0 rfl rfl rfl inf42 rfl rfl rfl (Free.zero _) ?_
 intro  w4 h4
 try simp only [lz, ls, ez, es'] at h4
 refine WL.nil (WN.thn (WC.seq (WC.reg ?_)))
 refine WL.e 1 rfl ?_
 refine WL.call can34 rfl rfl (qnum_c _ (p := 0) (e := 0) h4 (i := 1) rfl hl (by omega)) ?_
 rintro _ w5 ⟨rfl, h5⟩
 refine ⟨_, rfl, ?_⟩
 replace h5 : St W F ([(b5, .cells #[Vi 0, Vi 0, Vi 0, Vi 0, Vi 0, Vi 0, Vi 0, .string ⟨#[]⟩] 42 (0, 0))] :: [(b10, .cells #[.string (bs l), Vi (((D0 l).2.1 : Nat)), Vi ((D0 l).2.2)] 87 (0, 0))] :: [(b2, .cells #[Vi 0, Vi 0, Vi 0, Vi 0, Vi 0, Vi 0, Vi 0, .string ⟨#[]⟩] 42 (0, 0))] :: cs) w5 := h5
 have hp0 : (D0 l).2.1 ≤ l.length := rdN_le _ (by omega)
 have hb0 : (D0 l).1 ≤ 1099511627776 := rdN_bnd _ _ _
 refine WL.e 1 rfl ?_
 refine WL.store' h5 0 rfl rfl rfl inf3 rfl rfl (Free.zero _) (Nat.le_of_ble_eq_true rfl) ?_
 intro  w6 h6
 try simp only [lz, ls, ez, es'] at h6
 replace h6 : St W F ([(b5, .cells #[Vi ((D0 l).1 : Nat), Vi 0, Vi 0, Vi 0, Vi 0, Vi 0, Vi 0, .string ⟨#[]⟩] 42 (0, 0))] :: [(b10, .cells #[.string (bs l), Vi (((D0 l).2.1 : Nat)), Vi ((D0 l).2.2)] 87 (0, 0))] :: [(b2, .cells #[Vi 0, Vi 0, Vi 0, Vi 0, Vi 0, Vi 0, Vi 0, .string ⟨#[]⟩] 42 (0, 0))] :: cs) w6 := h6
 refine WL.nil (WN.thn (WC.seq (WC.reg ?_)))
 refine WL.e 1 rfl ?_
 refine WL.call can34 rfl rfl (qnum_c _ (p := (D0 l).2.1) (e := (D0 l).2.2) h6 (i := 1) rfl hl hp0) ?_
 rintro _ w7 ⟨rfl, h7⟩
 refine ⟨_, rfl, ?_⟩
 replace h7 : St W F ([(b5, .cells #[Vi ((D0 l).1 : Nat), Vi 0, Vi 0, Vi 0, Vi 0, Vi 0, Vi 0, .string ⟨#[]⟩] 42 (0, 0))] :: [(b10, .cells #[.string (bs l), Vi (((D1 l).2.1 : Nat)), Vi ((D1 l).2.2)] 87 (0, 0))] :: [(b2, .cells #[Vi 0, Vi 0, Vi 0, Vi 0, Vi 0, Vi 0, Vi 0, .string ⟨#[]⟩] 42 (0, 0))] :: cs) w7 := h7
 have hp1 : (D1 l).2.1 ≤ l.length := rdN_le _ hp0
 have hb1 : (D1 l).1 ≤ 1099511627776 := rdN_bnd _ _ _
 refine WL.v (Runs.subn (m := ((D1 l).1 : Int)) rfl rfl (by omega)) rfl ?_
 refine WL.e 1 rfl ?_
 refine WL.store' h7 0 rfl rfl rfl inf3 rfl rfl (Free.zero _) (Nat.le_of_ble_eq_true rfl) ?_
 intro  w8 h8
 try simp only [lz, ls, ez, es'] at h8
 replace h8 : St W F ([(b5, .cells #[Vi ((D0 l).1 : Nat), Vi (((D1 l).1 : Int) - 1), Vi 0, Vi 0, Vi 0, Vi 0, Vi 0, .string ⟨#[]⟩] 42 (0, 0))] :: [(b10, .cells #[.string (bs l), Vi (((D1 l).2.1 : Nat)), Vi ((D1 l).2.2)] 87 (0, 0))] :: [(b2, .cells #[Vi 0, Vi 0, Vi 0, Vi 0, Vi 0, Vi 0, Vi 0, .string ⟨#[]⟩] 42 (0, 0))] :: cs) w8 := h8
 refine WL.nil (WN.thn (WC.seq (WC.reg ?_)))
 refine WL.e 1 rfl ?_
 refine WL.call can34 rfl rfl (qnum_c _ (p := (D1 l).2.1) (e := (D1 l).2.2) h8 (i := 1) rfl hl hp1) ?_
 rintro _ w9 ⟨rfl, h9⟩
 refine ⟨_, rfl, ?_⟩
 replace h9 : St W F ([(b5, .cells #[Vi ((D0 l).1 : Nat), Vi (((D1 l).1 : Int) - 1), Vi 0, Vi 0, Vi 0, Vi 0, Vi 0, .string ⟨#[]⟩] 42 (0, 0))] :: [(b10, .cells #[.string (bs l), Vi (((D2 l).2.1 : Nat)), Vi ((D2 l).2.2)] 87 (0, 0))] :: [(b2, .cells #[Vi 0, Vi 0, Vi 0, Vi 0, Vi 0, Vi 0, Vi 0, .string ⟨#[]⟩] 42 (0, 0))] :: cs) w9 := h9
 have hp2 : (D2 l).2.1 ≤ l.length := rdN_le _ hp1
 have hb2 : (D2 l).1 ≤ 1099511627776 := rdN_bnd _ _ _
 refine WL.v (Runs.subn (m := ((D2 l).1 : Int)) rfl rfl (by omega)) rfl ?_
 refine WL.e 1 rfl ?_
 refine WL.store' h9 0 rfl rfl rfl inf3 rfl rfl (Free.zero _) (Nat.le_of_ble_eq_true rfl) ?_
 intro  w10 h10
 try simp only [lz, ls, ez, es'] at h10
 replace h10 : St W F ([(b5, .cells #[Vi ((D0 l).1 : Nat), Vi (((D1 l).1 : Int) - 1), Vi (((D2 l).1 : Int) - 1), Vi 0, Vi 0, Vi 0, Vi 0, .string ⟨#[]⟩] 42 (0, 0))] :: [(b10, .cells #[.string (bs l), Vi (((D2 l).2.1 : Nat)), Vi ((D2 l).2.2)] 87 (0, 0))] :: [(b2, .cells #[Vi 0, Vi 0, Vi 0, Vi 0, Vi 0, Vi 0, Vi 0, .string ⟨#[]⟩] 42 (0, 0))] :: cs) w10 := h10
 refine WL.nil (WN.thn (WC.seq (WC.reg ?_)))
 refine WL.e 1 rfl ?_
 refine WL.call can34 rfl rfl (qnum_c _ (p := (D2 l).2.1) (e := (D2 l).2.2) h10 (i := 1) rfl hl hp2) ?_
 rintro _ w11 ⟨rfl, h11⟩
 refine ⟨_, rfl, ?_⟩
 replace h11 : St W F ([(b5, .cells #[Vi ((D0 l).1 : Nat), Vi (((D1 l).1 : Int) - 1), Vi (((D2 l).1 : Int) - 1), Vi 0, Vi 0, Vi 0, Vi 0, .string ⟨#[]⟩] 42 (0, 0))] :: [(b10, .cells #[.string (bs l), Vi (((D3 l).2.1 : Nat)), Vi ((D3 l).2.2)] 87 (0, 0))] :: [(b2, .cells #[Vi 0, Vi 0, Vi 0, Vi 0, Vi 0, Vi 0, Vi 0, .string ⟨#[]⟩] 42 (0, 0))] :: cs) w11 := h11
 have hp3 : (D3 l).2.1 ≤ l.length := rdN_le _ hp2
 have hb3 : (D3 l).1 ≤ 1099511627776 := rdN_bnd _ _ _
 refine WL.e 1 rfl ?_
 refine WL.store' h11 0 rfl rfl rfl inf3 rfl rfl (Free.zero _) (Nat.le_of_ble_eq_true rfl) ?_
 intro  w12 h12
 try simp only [lz, ls, ez, es'] at h12
 replace h12 : St W F ([(b5, .cells #[Vi ((D0 l).1 : Nat), Vi (((D1 l).1 : Int) - 1), Vi (((D2 l).1 : Int) - 1), Vi ((D3 l).1 : Nat), Vi 0, Vi 0, Vi 0, .string ⟨#[]⟩] 42 (0, 0))] :: [(b10, .cells #[.string (bs l), Vi (((D3 l).2.1 : Nat)), Vi ((D3 l).2.2)] 87 (0, 0))] :: [(b2, .cells #[Vi 0, Vi 0, Vi 0, Vi 0, Vi 0, Vi 0, Vi 0, .string ⟨#[]⟩] 42 (0, 0))] :: cs) w12 := h12
 refine WL.nil (WN.thn (WC.seq (WC.reg ?_)))
 refine WL.e 1 rfl ?_
 refine WL.call can34 rfl rfl (qnum_c _ (p := (D3 l).2.1) (e := (D3 l).2.2) h12 (i := 1) rfl hl hp3) ?_
 rintro _ w13 ⟨rfl, h13⟩
 refine ⟨_, rfl, ?_⟩
 replace h13 : St W F ([(b5, .cells #[Vi ((D0 l).1 : Nat), Vi (((D1 l).1 : Int) - 1), Vi (((D2 l).1 : Int) - 1), Vi ((D3 l).1 : Nat), Vi 0, Vi 0, Vi 0, .string ⟨#[]⟩] 42 (0, 0))] :: [(b10, .cells #[.string (bs l), Vi (((D4 l).2.1 : Nat)), Vi ((D4 l).2.2)] 87 (0, 0))] :: [(b2, .cells #[Vi 0, Vi 0, Vi 0, Vi 0, Vi 0, Vi 0, Vi 0, .string ⟨#[]⟩] 42 (0, 0))] :: cs) w13 := h13
 have hp4 : (D4 l).2.1 ≤ l.length := rdN_le _ hp3
 have hb4 : (D4 l).1 ≤ 1099511627776 := rdN_bnd _ _ _
 refine WL.e 1 rfl ?_
 refine WL.store' h13 0 rfl rfl rfl inf3 rfl rfl (Free.zero _) (Nat.le_of_ble_eq_true rfl) ?_
 intro  w14 h14
 try simp only [lz, ls, ez, es'] at h14
 replace h14 : St W F ([(b5, .cells #[Vi ((D0 l).1 : Nat), Vi (((D1 l).1 : Int) - 1), Vi (((D2 l).1 : Int) - 1), Vi ((D3 l).1 : Nat), Vi ((D4 l).1 : Nat), Vi 0, Vi 0, .string ⟨#[]⟩] 42 (0, 0))] :: [(b10, .cells #[.string (bs l), Vi (((D4 l).2.1 : Nat)), Vi ((D4 l).2.2)] 87 (0, 0))] :: [(b2, .cells #[Vi 0, Vi 0, Vi 0, Vi 0, Vi 0, Vi 0, Vi 0, .string ⟨#[]⟩] 42 (0, 0))] :: cs) w14 := h14
 refine WL.nil (WN.thn (WC.seq (WC.reg ?_)))
 refine WL.e 1 rfl ?_
 refine WL.call can34 rfl rfl (qnum_c _ (p := (D4 l).2.1) (e := (D4 l).2.2) h14 (i := 1) rfl hl hp4) ?_
 rintro _ w15 ⟨rfl, h15⟩
 refine ⟨_, rfl, ?_⟩
 replace h15 : St W F ([(b5, .cells #[Vi ((D0 l).1 : Nat), Vi (((D1 l).1 : Int) - 1), Vi (((D2 l).1 : Int) - 1), Vi ((D3 l).1 : Nat), Vi ((D4 l).1 : Nat), Vi 0, Vi 0, .string ⟨#[]⟩] 42 (0, 0))] :: [(b10, .cells #[.string (bs l), Vi (((D5 l).2.1 : Nat)), Vi ((D5 l).2.2)] 87 (0, 0))] :: [(b2, .cells #[Vi 0, Vi 0, Vi 0, Vi 0, Vi 0, Vi 0, Vi 0, .string ⟨#[]⟩] 42 (0, 0))] :: cs) w15 := h15
 have hp5 : (D5 l).2.1 ≤ l.length := rdN_le _ hp4
 have hb5 : (D5 l).1 ≤ 1099511627776 := rdN_bnd _ _ _
 refine WL.e 1 rfl ?_
 refine WL.store' h15 0 rfl rfl rfl inf3 rfl rfl (Free.zero _) (Nat.le_of_ble_eq_true rfl) ?_
 intro  w16 h16
 try simp only [lz, ls, ez, es'] at h16
 replace h16 : St W F ([(b5, .cells #[Vi ((D0 l).1 : Nat), Vi (((D1 l).1 : Int) - 1), Vi (((D2 l).1 : Int) - 1), Vi ((D3 l).1 : Nat), Vi ((D4 l).1 : Nat), Vi ((D5 l).1 : Nat), Vi 0, .string ⟨#[]⟩] 42 (0, 0))] :: [(b10, .cells #[.string (bs l), Vi (((D5 l).2.1 : Nat)), Vi ((D5 l).2.2)] 87 (0, 0))] :: [(b2, .cells #[Vi 0, Vi 0, Vi 0, Vi 0, Vi 0, Vi 0, Vi 0, .string ⟨#[]⟩] 42 (0, 0))] :: cs) w16 := h16
 refine WL.nil (WN.thn (WC.seq (WC.reg ?_)))
 refine WL.e 1 rfl ?_
 refine WL.call can34 rfl rfl (qnum_c _ (p := (D5 l).2.1) (e := (D5 l).2.2) h16 (i := 1) rfl hl hp5) ?_
 rintro _ w17 ⟨rfl, h17⟩
 refine ⟨_, rfl, ?_⟩
 replace h17 : St W F ([(b5, .cells #[Vi ((D0 l).1 : Nat), Vi (((D1 l).1 : Int) - 1), Vi (((D2 l).1 : Int) - 1), Vi ((D3 l).1 : Nat), Vi ((D4 l).1 : Nat), Vi ((D5 l).1 : Nat), Vi 0, .string ⟨#[]⟩] 42 (0, 0))] :: [(b10, .cells #[.string (bs l), Vi (((D6 l).2.1 : Nat)), Vi ((D6 l).2.2)] 87 (0, 0))] :: [(b2, .cells #[Vi 0, Vi 0, Vi 0, Vi 0, Vi 0, Vi 0, Vi 0, .string ⟨#[]⟩] 42 (0, 0))] :: cs) w17 := h17
 have hp6 : (D6 l).2.1 ≤ l.length := rdN_le _ hp5
 have hb6 : (D6 l).1 ≤ 1099511627776 := rdN_bnd _ _ _
 refine WL.e 1 rfl ?_
 refine WL.store' h17 0 rfl rfl rfl inf3 rfl rfl (Free.zero _) (Nat.le_of_ble_eq_true rfl) ?_
 intro  w18 h18
 try simp only [lz, ls, ez, es'] at h18
 replace h18 : St W F ([(b5, .cells #[Vi ((D0 l).1 : Nat), Vi (((D1 l).1 : Int) - 1), Vi (((D2 l).1 : Int) - 1), Vi ((D3 l).1 : Nat), Vi ((D4 l).1 : Nat), Vi ((D5 l).1 : Nat), Vi ((D6 l).1 : Nat), .string ⟨#[]⟩] 42 (0, 0))] :: [(b10, .cells #[.string (bs l), Vi (((D6 l).2.1 : Nat)), Vi ((D6 l).2.2)] 87 (0, 0))] :: [(b2, .cells #[Vi 0, Vi 0, Vi 0, Vi 0, Vi 0, Vi 0, Vi 0, .string ⟨#[]⟩] 42 (0, 0))] :: cs) w18 := h18
 refine WL.nil (WN.thn (WC.seq (WC.reg ?_)))
 refine WL.e 1 rfl ?_
 refine WL.call can35 rfl rfl (qtext_c _ (p := (D6 l).2.1) (e := (D6 l).2.2) h18 (i := 1) rfl hl hp6) ?_
 rintro _ w19 ⟨rfl, h19⟩
 refine ⟨_, rfl, ?_⟩
 replace h19 : St W F ([(b5, .cells #[Vi ((D0 l).1 : Nat), Vi (((D1 l).1 : Int) - 1), Vi (((D2 l).1 : Int) - 1), Vi ((D3 l).1 : Nat), Vi ((D4 l).1 : Nat), Vi ((D5 l).1 : Nat), Vi ((D6 l).1 : Nat), .string ⟨#[]⟩] 42 (0, 0))] :: [(b10, .cells #[.string (bs l), Vi (((DT l).2.1 : Nat)), Vi ((DT l).2.2)] 87 (0, 0))] :: [(b2, .cells #[Vi 0, Vi 0, Vi 0, Vi 0, Vi 0, Vi 0, Vi 0, .string ⟨#[]⟩] 42 (0, 0))] :: cs) w19 := h19
 refine WL.e 1 rfl ?_
 refine WL.store' h19 0 rfl rfl rfl inf9 rfl rfl (Free.zero _) (Nat.le_of_ble_eq_true rfl) ?_
 intro  w20 h20
 try simp only [lz, ls, ez, es'] at h20
 replace h20 : St W F ([(b5, .cells #[Vi ((D0 l).1 : Nat), Vi (((D1 l).1 : Int) - 1), Vi (((D2 l).1 : Int) - 1), Vi ((D3 l).1 : Nat), Vi ((D4 l).1 : Nat), Vi ((D5 l).1 : Nat), Vi ((D6 l).1 : Nat), .string (bs (DT l).1)] 42 (0, 0))] :: [(b10, .cells #[.string (bs l), Vi (((DT l).2.1 : Nat)), Vi ((DT l).2.2)] 87 (0, 0))] :: [(b2, .cells #[Vi 0, Vi 0, Vi 0, Vi 0, Vi 0, Vi 0, Vi 0, .string ⟨#[]⟩] 42 (0, 0))] :: cs) w20 := h20
 refine WL.nil (WN.thn (WC.seq (WC.reg ?_)))
 refine WL.e 1 rfl ?_
 refine WL.call can36 rfl rfl (qend_c _ (p := (DT l).2.1) (e := (DT l).2.2) h20 (i := 1) rfl) ?_
 rintro _ w21 ⟨rfl, h21⟩
 refine ⟨_, rfl, ?_⟩
 refine WL.e 5 rfl ?_
 refine WL.nil (WN.thn (WC.seq (WC.seq ?_)))
 by_cases hde : decE l = 0
 ·skip
  refine WC.reg ?_
  refine WL.e 1 rfl ?_
  refine WL.v (Runs.boolT (c := false) (Runs.neq rfl rfl) (by show (!decide (decE l = 0)) = false; rw [decide_eq_true hde]; rfl)) rfl ?_
  refine WL.nil (WN.thn ?_)
  refine WC.condF rfl (rfl) ?_
  refine WC.skip (WN.thn (WC.seq (WC.seq ?_)))
  by_cases hmy : mayM (decM l)
  ·skip
   refine WC.reg ?_
   refine WL.v (Runs.loadAll h21 0 rfl Tryz.underlying42 rfl inf42 rfl rfl) rfl ?_
   refine WL.call can37 rfl rfl (rmay_c _ (decM l) h21) ?_
   rintro _ w22 ⟨rfl, h22⟩
   refine ⟨_, rfl, ?_⟩
   refine WL.e 1 rfl ?_
   refine WL.nil (WN.thn ?_)
   refine WC.condF rfl ((by rw [decide_eq_true hmy]; rfl)) ?_
   refine WC.skip (WN.thn (WC.seq (WC.reg ?_)))
   refine WL.v (Runs.loadAll h22 0 rfl Tryz.underlying42 rfl inf42 rfl rfl) rfl ?_
   refine WL.storeAll h22 2 rfl rfl rfl inf42 rfl rfl rfl (Free.zero _) ?_
   intro  w23 h23
   try simp only [lz, ls, ez, es'] at h23
   refine WL.e 1 rfl ?_
   refine WL.nil (WN.thn (WC.ret ?_))
   exact retB rfl (v := .agg #[Vi ((D0 l).1 : Nat), Vi (((D1 l).1 : Int) - 1), Vi (((D2 l).1 : Int) - 1), Vi ((D3 l).1 : Nat), Vi ((D4 l).1 : Nat), Vi ((D5 l).1 : Nat), Vi ((D6 l).1 : Nat), .string (bs (DT l).1)]) ⟨_, rfl, run_loadVarA (vs := [Vi ((D0 l).1 : Nat), Vi (((D1 l).1 : Int) - 1), Vi (((D2 l).1 : Int) - 1), Vi ((D3 l).1 : Nat), Vi ((D4 l).1 : Nat), Vi ((D5 l).1 : Nat), Vi ((D6 l).1 : Nat), .string (bs (DT l).1)]) Tryz.underlying42 rfl inf42 rfl (fun j v hv => by rw [add_mk, Nat.zero_add]; exact h23.ocell (i := 2) rfl (by simpa using hv))⟩ (show lk _ _ = _ from rfl) ⟨by unfold decB; rw [if_neg (by rw [hde]; simp), if_pos hmy]; rfl, ((h23.drop 0).drop 0).drop 0⟩
  ·skip
   refine WC.reg ?_
   refine WL.v (Runs.loadAll h21 0 rfl Tryz.underlying42 rfl inf42 rfl rfl) rfl ?_
   refine WL.call can37 rfl rfl (rmay_c _ (decM l) h21) ?_
   rintro _ w24 ⟨rfl, h24⟩
   refine ⟨_, rfl, ?_⟩
   refine WL.e 1 rfl ?_
   refine WL.nil (WN.thn ?_)
   refine WC.condT rfl ((by rw [decide_eq_false hmy]; rfl)) ?_
   refine WC.seq (WC.reg ?_)
   refine WL.v (Runs.build (vs := []) (cells := #[Vi 0, Vi 0, Vi 0, Vi 0, Vi 0, Vi 0, Vi 0, .string ⟨#[]⟩]) rfl (by kernel_rfl)) rfl ?_
   refine WL.storeAll h24 2 rfl rfl rfl inf42 rfl rfl rfl (Free.zero _) ?_
   intro  w25 h25
   try simp only [lz, ls, ez, es'] at h25
   refine WL.e 1 rfl ?_
   refine WL.nil (WN.thn (WC.ret ?_))
   exact retB rfl (v := .agg #[Vi 0, Vi 0, Vi 0, Vi 0, Vi 0, Vi 0, Vi 0, .string ⟨#[]⟩]) ⟨_, rfl, run_loadVarA (vs := [Vi 0, Vi 0, Vi 0, Vi 0, Vi 0, Vi 0, Vi 0, .string ⟨#[]⟩]) Tryz.underlying42 rfl inf42 rfl (fun j v hv => by rw [add_mk, Nat.zero_add]; exact h25.ocell (i := 2) rfl (by simpa using hv))⟩ (show lk _ _ = _ from rfl) ⟨by unfold decB; rw [if_neg (by rw [hde]; simp), if_neg hmy]; rfl, ((h25.drop 0).drop 0).drop 0⟩
 ·skip
  refine WC.reg ?_
  refine WL.e 1 rfl ?_
  refine WL.v (Runs.boolT (c := true) (Runs.neq rfl rfl) (by show (!decide (decE l = 0)) = true; rw [decide_eq_false hde]; rfl)) rfl ?_
  refine WL.nil (WN.thn ?_)
  refine WC.condT rfl (rfl) ?_
  refine WC.seq (WC.reg ?_)
  refine WL.v (Runs.build (vs := []) (cells := #[Vi 0, Vi 0, Vi 0, Vi 0, Vi 0, Vi 0, Vi 0, .string ⟨#[]⟩]) rfl (by kernel_rfl)) rfl ?_
  refine WL.e 1 rfl ?_
  refine WL.storeAll h21 2 rfl rfl rfl inf42 rfl rfl rfl (Free.zero _) ?_
  intro  w26 h26
  try simp only [lz, ls, ez, es'] at h26
  refine WL.e 1 rfl ?_
  refine WL.nil (WN.thn (WC.ret ?_))
  exact retB rfl (v := .agg #[Vi 0, Vi 0, Vi 0, Vi 0, Vi 0, Vi 0, Vi 0, .string ⟨#[]⟩]) ⟨_, rfl, run_loadVarA (vs := [Vi 0, Vi 0, Vi 0, Vi 0, Vi 0, Vi 0, Vi 0, .string ⟨#[]⟩]) Tryz.underlying42 rfl inf42 rfl (fun j v hv => by rw [add_mk, Nat.zero_add]; exact h26.ocell (i := 2) rfl (by simpa using hv))⟩ (show lk _ _ = _ from rfl) ⟨by unfold decB; rw [if_pos hde]; rfl, ((h26.drop 0).drop 0).drop 0⟩
end Wir
end Go.Proofs.YtifdpllfbaogcaaGreat
namespace Go.Proofs.YtifdpllfbaogcaaGreat
open Go Go.RowKit B
namespace Wir
def rdn (l : List UInt8) : Nat → Nat → List Int → List Int × Nat × Int
 |0, q, acc => (acc, q, 0)
 |n + 1, q, acc => if rerr l q = 0 then rdn l n (rnx l q) (acc ++ [(rval l q : Int)]) else ([], q, rerr l q)
def rdL (l : List UInt8) (p : Nat) (e m : Int) : List Int × Nat × Int := if e ≠ 0 then ([], p, e) else if cerr l p m ≠ 0 then ([], p, cerr l p m) else rdn l (rval l p) (rnx l p) []
end Wir
end Go.Proofs.YtifdpllfbaogcaaGreat
namespace Go.Proofs.YtifdpllfbaogcaaGreat
open Go Go.RowKit B
namespace Wir
end Wir
end Go.Proofs.YtifdpllfbaogcaaGreat
namespace Go.Proofs.YtifdpllfbaogcaaGreat.ShaM
abbrev Wd := BitVec 32
def rotr (x : Wd) (n : Nat) : Wd := (x >>> n) ||| (x <<< (32 - n))
def K : List Wd := [
 0x428a2f98, 0x71374491, 0xb5c0fbcf, 0xe9b5dba5, 0x3956c25b, 0x59f111f1, 0x923f82a4, 0xab1c5ed5,
 0xd807aa98, 0x12835b01, 0x243185be, 0x550c7dc3, 0x72be5d74, 0x80deb1fe, 0x9bdc06a7, 0xc19bf174,
 0xe49b69c1, 0xefbe4786, 0x0fc19dc6, 0x240ca1cc, 0x2de92c6f, 0x4a7484aa, 0x5cb0a9dc, 0x76f988da,
 0x983e5152, 0xa831c66d, 0xb00327c8, 0xbf597fc7, 0xc6e00bf3, 0xd5a79147, 0x06ca6351, 0x14292967,
 0x27b70a85, 0x2e1b2138, 0x4d2c6dfc, 0x53380d13, 0x650a7354, 0x766a0abb, 0x81c2c92e, 0x92722c85,
 0xa2bfe8a1, 0xa81a664b, 0xc24b8b70, 0xc76c51a3, 0xd192e819, 0xd6990624, 0xf40e3585, 0x106aa070,
 0x19a4c116, 0x1e376c08, 0x2748774c, 0x34b0bcb5, 0x391c0cb3, 0x4ed8aa4a, 0x5b9cca4f, 0x682e6ff3,
 0x748f82ee, 0x78a5636f, 0x84c87814, 0x8cc70208, 0x90befffa, 0xa4506ceb, 0xbef9a3f7, 0xc67178f2]
def by4 (a b c d : UInt8) : Wd := (((BitVec.ofNat 32 a.toNat <<< 24) ||| (BitVec.ofNat 32 b.toNat <<< 16)) ||| (BitVec.ofNat 32 c.toNat <<< 8)) ||| BitVec.ofNat 32 d.toNat
def w0 (b : List UInt8) (i : Nat) : Wd := by4 (b.getD (4 * i) 0) (b.getD (4 * i + 1) 0) (b.getD (4 * i + 2) 0) (b.getD (4 * i + 3) 0)
def firsts (b : List UInt8) (n : Nat) : List Wd := (List.range n).map (w0 b)
def s0 (y : Wd) : Wd := rotr y 7 ^^^ rotr y 18 ^^^ (y >>> 3)
def s1 (z : Wd) : Wd := rotr z 17 ^^^ rotr z 19 ^^^ (z >>> 10)
def ext (w : List Wd) : Wd := w.getD (w.length - 16) 0 + s0 (w.getD (w.length - 15) 0) + w.getD (w.length - 7) 0 + s1 (w.getD (w.length - 2) 0)
def grow : Nat → List Wd → List Wd
 |0, w => w
 |n + 1, w => grow n w ++ [ext (grow n w)]
def sched (b : List UInt8) : List Wd := grow 48 (firsts b 16)
theorem grow_len : ∀ (n : Nat) (w : List Wd), (grow n w).length = w.length + n
 |0, w => rfl
 |n + 1, w => by simp [grow, grow_len n]; omega
theorem firsts_len (b : List UInt8) (n : Nat) : (firsts b n).length = n := by simp [firsts]
theorem firsts_succ (b : List UInt8) (n : Nat) : firsts b (n + 1) = firsts b n ++ [w0 b n] := by simp [firsts, List.range_succ]
theorem sched_len (b : List UInt8) : (sched b).length = 64 := by simp [sched, grow_len, firsts_len]
structure D8 where
 a : Wd
 b : Wd
 c : Wd
 d : Wd
 e : Wd
 f : Wd
 g : Wd
 h : Wd
def D8.list (v : D8) : List Wd := [v.a, v.b, v.c, v.d, v.e, v.f, v.g, v.h]
def D8.of (l : List Wd) : D8 := ⟨l.getD 0 0, l.getD 1 0, l.getD 2 0, l.getD 3 0, l.getD 4 0, l.getD 5 0, l.getD 6 0, l.getD 7 0⟩
def first : D8 := ⟨0x6a09e667, 0xbb67ae85, 0x3c6ef372, 0xa54ff53a, 0x510e527f, 0x9b05688c, 0x1f83d9ab, 0x5be0cd19⟩
def tt (k w : Wd) (v : D8) : Wd := v.h + (rotr v.e 6 ^^^ rotr v.e 11 ^^^ rotr v.e 25) + ((v.e &&& v.f) ^^^ (~~~v.e &&& v.g)) + k + w
def uu (v : D8) : Wd := (rotr v.a 2 ^^^ rotr v.a 13 ^^^ rotr v.a 22) + ((v.a &&& v.b) ^^^ (v.a &&& v.c) ^^^ (v.b &&& v.c))
def rnd (k w : Wd) (v : D8) : D8 := ⟨tt k w v + uu v, v.a, v.b, v.c, v.d + tt k w v, v.e, v.f, v.g⟩
def rounds (ws : List Wd) : Nat → D8 → D8
 |0, v => v
 |n + 1, v => rnd (K.getD n 0) (ws.getD n 0) (rounds ws n v)
def part (d v : D8) (i : Nat) : List Wd := (List.zipWith (· + ·) d.list v.list).take i ++ d.list.drop i
def block (d : D8) (b : List UInt8) : D8 := D8.of (part d (rounds (sched b) 64 d) 8)
def blocks : Nat → D8 → List UInt8 → D8
 |0, d, _ => d
 |n + 1, d, b => blocks n (block d (b.take 64)) (b.drop 64)
def pads (n : Nat) : Nat := (119 - n % 64) % 64
def lenb (n : Nat) (i : Nat) : List UInt8 := (List.range i).map fun j => UInt8.ofNat (8 * n / 2 ^ (56 - 8 * j))
def pad (s : List UInt8) : List UInt8 := s ++ [0x80] ++ List.replicate (pads s.length) 0 ++ lenb s.length 8
def out4 (x : Wd) : List UInt8 := [UInt8.ofNat (x >>> 24).toNat, UInt8.ofNat (x >>> 16).toNat, UInt8.ofNat (x >>> 8).toNat, UInt8.ofNat x.toNat]
def of (s : List UInt8) : List UInt8 := (blocks ((pad s).length / 64) first (pad s)).list.flatMap out4
def padded (key : List UInt8) (by_ : UInt8) : List UInt8 := (List.range 64).map fun i => (key.getD i 0) ^^^ by_
def hmac (key s : List UInt8) : List UInt8 :=
 let key := if key.length > 64 then of key else key
 of (padded key 0x5c ++ of (padded key 0x36 ++ s))
theorem part_len (d v : D8) {i : Nat} (hi : i ≤ 8) : (part d v i).length = 8 := by
 simp [part, D8.list]; omega
theorem D8.list_of {l : List Wd} (h : l.length = 8) : (D8.of l).list = l := by
 match l, h with
 |[a, b, c, d, e, f, g, h], _ => rfl
theorem part_at (d v : D8) {i : Nat} (hi : i < 8) : (part d v i).getD i 0 = d.list.getD i 0 := by
 have : i = 0 ∨ i = 1 ∨ i = 2 ∨ i = 3 ∨ i = 4 ∨ i = 5 ∨ i = 6 ∨ i = 7 := by omega
 rcases this with rfl | rfl | rfl | rfl | rfl | rfl | rfl | rfl <;> rfl
theorem part_set (d v : D8) {i : Nat} (hi : i < 8) : (part d v i).set i (d.list.getD i 0 + v.list.getD i 0) = part d v (i + 1) := by
 have : i = 0 ∨ i = 1 ∨ i = 2 ∨ i = 3 ∨ i = 4 ∨ i = 5 ∨ i = 6 ∨ i = 7 := by omega
 rcases this with rfl | rfl | rfl | rfl | rfl | rfl | rfl | rfl <;> rfl
end Go.Proofs.YtifdpllfbaogcaaGreat.ShaM
namespace Go.Proofs.YtifdpllfbaogcaaGreat.ShaR
open ShaM (rotr Wd D8)
def S0 (x : Wd) : Wd := rotr x 2 ^^^ rotr x 13 ^^^ rotr x 22
def ch (e f g : Wd) : Wd := (e &&& f) ^^^ (~~~e &&& g)
end Go.Proofs.YtifdpllfbaogcaaGreat.ShaR
namespace Go.Proofs.YtifdpllfbaogcaaGreat
open Go Go.RowKit B
namespace Sha
open ShaM (rotr Wd D8)
theorem mixed : Tryz.prog.follows .mixedOrders = true := by kernel_rfl
theorem inf216 : Inf Tryz.prog 216 (.agg #[.int .u32 0, .int .u32 0, .int .u32 0, .int .u32 0, .int .u32 0, .int .u32 0, .int .u32 0, .int .u32 0]) 8 32 := by unfold Inf; kernel_rfl
theorem inf222 : Inf Tryz.prog 222 (.agg (List.replicate 64 (.int .u32 0)).toArray) 64 256 := by unfold Inf; kernel_rfl
theorem set_first {α : Type} (pre : List α) (z v : α) (n : Nat) (h : pre.length < n) : (pre ++ List.replicate (n - pre.length) z).set pre.length v = pre ++ [v] ++ List.replicate (n - (pre ++ [v]).length) z := by
 rw [List.set_append_right _ _ (Nat.le_refl _), Nat.sub_self, show n - pre.length = (n - (pre ++ [v]).length) + 1 by simp; omega, List.replicate_succ, List.set_cons_zero]
 simp
theorem getD_pre {α : Type} (pre : List α) (z d : α) (n j : Nat) (h : j < pre.length) : (pre ++ List.replicate (n - pre.length) z).getD j d = pre.getD j d := by
 rw [List.getD_eq_getElem?_getD, List.getD_eq_getElem?_getD, List.getElem?_append_left h]
theorem u64sub {P : Program} {sl : Sl} {w : World} {t T T' : TypeId} {x y : Operand} {m n : Int} (hx : evs sl x = some (.int .u64 m)) (hy : evs sl y = some (.int .u64 n)) (h : 0 ≤ m - n ∧ m - n ≤ 32) : Runs P sl (.binOp .sub T x y T') t w (.int .u64 (m - n)) := by
 have := Runs.sub (P := P) (t := t) (w := w) (T := T) (T' := T') hx hy
 have e : IntKind.u64.wrap (m - n) = m - n := by
  simp only [IntKind.wrap, IntKind.bits, IntKind.signed, Bool.false_and, Bool.false_eq_true, if_false]
  omega
 rwa [e] at this
theorem build_first (sl : Sl) (w : World) : Runs Tryz.prog sl (.build 216 #[(0, .const (.int .u32 1779033703)), (1, .const (.int .u32 3144134277)), (2, .const (.int .u32 1013904242)), (3, .const (.int .u32 2773480762)), (4, .const (.int .u32 1359893119)), (5, .const (.int .u32 2600822924)), (6, .const (.int .u32 528734635)), (7, .const (.int .u32 1541459225))]) 216 w (.agg (ShaM.first.list.map V32).toArray) := fun ρ hρ o ho _ => by
 have hc : ∀ v, ρ (.const v) = v := fun v => hρ (.const v) v rfl
 simp only [execOp, ho, hc, List.map_toArray, List.map_cons, List.map_nil]
 refine Eq.trans (b := Result.ok (Next.value (.agg (ShaM.first.list.map V32).toArray)) w) ?_ rfl
 kernel_rfl
theorem build_K (sl : Sl) (w : World) : Runs Tryz.prog sl (.build 222 #[(0, .const (.int .u32 1116352408)), (1, .const (.int .u32 1899447441)), (2, .const (.int .u32 3049323471)), (3, .const (.int .u32 3921009573)), (4, .const (.int .u32 961987163)), (5, .const (.int .u32 1508970993)), (6, .const (.int .u32 2453635748)), (7, .const (.int .u32 2870763221)), (8, .const (.int .u32 3624381080)), (9, .const (.int .u32 310598401)), (10, .const (.int .u32 607225278)), (11, .const (.int .u32 1426881987)), (12, .const (.int .u32 1925078388)), (13, .const (.int .u32 2162078206)), (14, .const (.int .u32 2614888103)), (15, .const (.int .u32 3248222580)), (16, .const (.int .u32 3835390401)), (17, .const (.int .u32 4022224774)), (18, .const (.int .u32 264347078)), (19, .const (.int .u32 604807628)), (20, .const (.int .u32 770255983)), (21, .const (.int .u32 1249150122)), (22, .const (.int .u32 1555081692)), (23, .const (.int .u32 1996064986)), (24, .const (.int .u32 2554220882)), (25, .const (.int .u32 2821834349)), (26, .const (.int .u32 2952996808)), (27, .const (.int .u32 3210313671)), (28, .const (.int .u32 3336571891)), (29, .const (.int .u32 3584528711)), (30, .const (.int .u32 113926993)), (31, .const (.int .u32 338241895)), (32, .const (.int .u32 666307205)), (33, .const (.int .u32 773529912)), (34, .const (.int .u32 1294757372)), (35, .const (.int .u32 1396182291)), (36, .const (.int .u32 1695183700)), (37, .const (.int .u32 1986661051)), (38, .const (.int .u32 2177026350)), (39, .const (.int .u32 2456956037)), (40, .const (.int .u32 2730485921)), (41, .const (.int .u32 2820302411)), (42, .const (.int .u32 3259730800)), (43, .const (.int .u32 3345764771)), (44, .const (.int .u32 3516065817)), (45, .const (.int .u32 3600352804)), (46, .const (.int .u32 4094571909)), (47, .const (.int .u32 275423344)), (48, .const (.int .u32 430227734)), (49, .const (.int .u32 506948616)), (50, .const (.int .u32 659060556)), (51, .const (.int .u32 883997877)), (52, .const (.int .u32 958139571)), (53, .const (.int .u32 1322822218)), (54, .const (.int .u32 1537002063)), (55, .const (.int .u32 1747873779)), (56, .const (.int .u32 1955562222)), (57, .const (.int .u32 2024104815)), (58, .const (.int .u32 2227730452)), (59, .const (.int .u32 2361852424)), (60, .const (.int .u32 2428436474)), (61, .const (.int .u32 2756734187)), (62, .const (.int .u32 3204031479)), (63, .const (.int .u32 3329325298))]) 222 w (.agg (ShaM.K.map V32).toArray) := fun ρ hρ o ho _ => by
 have hc : ∀ v, ρ (.const v) = v := fun v => hρ (.const v) v rfl
 simp only [execOp, ho, hc, List.map_toArray, List.map_cons, List.map_nil]
 refine Eq.trans (b := Result.ok (Next.value (.agg (ShaM.K.map V32).toArray)) w) ?_ rfl
 kernel_rfl
theorem rot_c (x : Wd) (n : Int) (w : World) (hn : 0 ≤ n ∧ n ≤ 32) : Calls Tryz.prog 194 #[V32 x, .int .u64 n] w fun e w' => e = .returned (V32 (rotr x n.toNat)) ∧ w' = w := by
 refine enter (P := Tryz.prog) (args := [V32 x, .int .u64 n]) Tryz.func194 rfl rfl rfl ?_
 refine WC.seq (WC.reg ?_)
 refine WL.e 1 rfl ?_
 refine WL.nil (WN.thn (WC.seq (WC.reg ?_)))
 refine WL.e 2 rfl ?_
 refine WL.v (Runs.shr32 rfl rfl (by omega)) rfl ?_
 refine WL.e 2 rfl ?_
 refine WL.v (u64sub rfl rfl (by omega)) rfl ?_
 refine WL.v (Runs.shl32 rfl rfl (by omega)) rfl ?_
 refine WL.v (Runs.or32 rfl rfl) rfl ?_
 refine WL.e 1 rfl ?_
 refine WL.nil (WN.thn (WC.ret ?_))
 refine ret1 rfl rfl ⟨?_, rfl⟩
 unfold rotr
 rw [show (32 - n).toNat = 32 - n.toNat by omega]
theorem first_c {W : World} {F : Snap} {cs : List Res} (w : World) (h : St W F cs w) : Calls Tryz.prog 185 #[] w fun e w' => e = .returned (.agg (ShaM.first.list.map V32).toArray) ∧ St W F cs w'  := by
 refine enter (P := Tryz.prog) (args := []) Tryz.func185 rfl rfl rfl ?_
 refine WC.seq (WC.reg ?_)
 refine WL.alloc' rfl h inf216 ?_
 intro b0 w1 h1
 refine WL.nil (WN.thn (WC.seq (WC.reg ?_)))
 refine WL.v (build_first _ _) rfl ?_
 refine WL.storeAll h1 0 rfl rfl rfl inf216 rfl rfl rfl (Free.zero _) ?_
 intro  w2 h2
 try simp only [lz, ls, ez, es'] at h2
 refine WL.nil (WN.thn (WC.ret ?_))
 exact retA rfl ⟨_, rfl, run_loadVarA (vs := ShaM.first.list.map V32) Tryz.underlying216 rfl inf216 rfl (fun j v hv => by rw [add_mk, Nat.zero_add]; exact h2.ocell (i := 0) rfl (by simpa using hv))⟩ ⟨rfl, h2.drop 0⟩
theorem constants_c {W : World} {F : Snap} {cs : List Res} (w : World) (h : St W F cs w) : Calls Tryz.prog 193 #[] w fun e w' => e = .returned (.agg (ShaM.K.map V32).toArray) ∧ St W F cs w'  := by
 refine enter (P := Tryz.prog) (args := []) Tryz.func193 rfl rfl rfl ?_
 refine WC.seq (WC.reg ?_)
 refine WL.alloc' rfl h inf222 ?_
 intro b0 w1 h1
 refine WL.nil (WN.thn (WC.seq (WC.reg ?_)))
 refine WL.v (build_K _ _) rfl ?_
 refine WL.storeAll h1 0 rfl rfl rfl inf222 rfl rfl rfl (Free.zero _) ?_
 intro  w2 h2
 try simp only [lz, ls, ez, es'] at h2
 refine WL.nil (WN.thn (WC.ret ?_))
 exact retA rfl ⟨_, rfl, run_loadVarA (vs := ShaM.K.map V32) Tryz.underlying222 rfl inf222 rfl (fun j v hv => by rw [add_mk, Nat.zero_add]; exact h2.ocell (i := 0) rfl (by simpa using hv))⟩ ⟨rfl, h2.drop 0⟩
end Sha
end Go.Proofs.YtifdpllfbaogcaaGreat
namespace Go.Proofs.YtifdpllfbaogcaaGreat
open Go Go.RowKit B
namespace Sha
open ShaM (rotr Wd D8)
theorem inf5 : Inf Tryz.prog 5 (.int .u8 0) 1 1 := by unfold Inf; kernel_rfl
theorem inf199 : Inf Tryz.prog 199 (.int .u32 0) 1 4 := by unfold Inf; kernel_rfl
theorem can194 : B.Can Tryz.prog 194 := ⟨_, Tryz.func194, by kernel_rfl, rfl⟩
theorem set_first' {α : Type} {pre : List α} {z v : α} {n i : Nat} (h : pre.length = i) (hn : i < n) : (pre ++ List.replicate (n - i) z).set i v = pre ++ [v] ++ List.replicate (n - (i + 1)) z := by
 subst h
 have := set_first pre z v n hn
 simpa using this
theorem grow_step (bs : List UInt8) (j : Nat) (hj : j < 48) : (ShaM.grow j (ShaM.firsts bs 16) ++ List.replicate (64 - (16 + j)) (0 : Wd)).set (16 + j)
  ((ShaM.grow j (ShaM.firsts bs 16) ++ List.replicate (64 - (16 + j)) (0 : Wd)).getD j 0 + ShaM.s0 ((ShaM.grow j (ShaM.firsts bs 16) ++ List.replicate (64 - (16 + j)) (0 : Wd)).getD (j + 1) 0) + (ShaM.grow j (ShaM.firsts bs 16) ++ List.replicate (64 - (16 + j)) (0 : Wd)).getD (j + 9) 0 + ShaM.s1 ((ShaM.grow j (ShaM.firsts bs 16) ++ List.replicate (64 - (16 + j)) (0 : Wd)).getD (j + 14) 0)) =
  ShaM.grow (j + 1) (ShaM.firsts bs 16) ++ List.replicate (64 - (16 + (j + 1))) (0 : Wd) := by
 have hl : (ShaM.grow j (ShaM.firsts bs 16)).length = 16 + j := by rw [ShaM.grow_len, ShaM.firsts_len]
 have g : ∀ k, k < 16 + j → (ShaM.grow j (ShaM.firsts bs 16) ++ List.replicate (64 - (16 + j)) (0 : Wd)).getD k 0 = (ShaM.grow j (ShaM.firsts bs 16)).getD k 0 := by
  intro k hk
  have := getD_pre (ShaM.grow j (ShaM.firsts bs 16)) (0 : Wd) 0 64 k (by omega)
  rwa [hl] at this
 rw [g _ (by omega), g _ (by omega), g _ (by omega), g _ (by omega), set_first' hl (by omega)]
 show _ = (ShaM.grow j (ShaM.firsts bs 16) ++ [ShaM.ext (ShaM.grow j (ShaM.firsts bs 16))]) ++ _
 unfold ShaM.ext
 rw [hl, show 16 + j - 16 = j by omega, show 16 + j - 15 = j + 1 by omega, show 16 + j - 7 = j + 9 by omega, show 16 + j - 2 = j + 14 by omega, show 16 + j + 1 = 16 + (j + 1) by omega]
theorem first_step (bs : List UInt8) (i : Nat) (hi : i < 16) : (ShaM.firsts bs i ++ List.replicate (64 - i) (0 : Wd)).set i (ShaM.w0 bs i) = ShaM.firsts bs (i + 1) ++ List.replicate (64 - (i + 1)) (0 : Wd) := by
 rw [set_first' (ShaM.firsts_len bs i) (by omega), ShaM.firsts_succ]
theorem schedule_c {W : World} {F : Snap} {cs : List Res} {ad : Addr} {cap : Nat} {bs : List UInt8} (w : World) (h : St W F cs w) (hrd : ∀ i x, bs[i]? = some x → cellF F (ad.add i) = some (V8 x)) (hl : bs.length = 64) : Calls Tryz.prog 192 #[.slice (some ad) bs.length cap] w fun e w' => e = .returned (.agg ((ShaM.sched bs).map V32).toArray) ∧ St W F cs w'  := by
 refine enter (P := Tryz.prog) (args := [.slice (some ad) bs.length cap]) Tryz.func192 rfl rfl rfl ?_
 refine WC.seq (WC.reg ?_)
 refine WL.alloc' rfl h inf222 ?_
 intro b2 w1 h1
 refine WL.nil (WN.thn (WC.seq (WC.reg ?_)))
 refine WL.alloc' rfl h1 inf222 ?_
 intro b3 w2 h2
 refine WL.nil (WN.thn (WC.seq (WC.seq (WC.reg ?_))))
 refine WL.e 1 rfl ?_
 refine WL.nil (WN.thn (WC.block ?_))
 refine WC.loop (σ := Nat) (fun i => [(0, .slice (some ad) bs.length cap), (2, .pointer (some ⟨b2, 0, none⟩)), (3, .pointer (some ⟨b3, 0, none⟩)), (8, .int .i64 (i : Int))]) (fun i w => i ≤ 16 ∧ St W F ([(b3, .cells ((ShaM.firsts bs i ++ List.replicate (64 - i) (0 : Wd)).map V32).toArray 222 (0, 0))] :: [(b2, .cells ((List.replicate 64 (0 : Wd)).map V32).toArray 222 (0, 0))] :: cs) w) (fun i => 16 - i) (0) ⟨rfl, rfl, rfl, rfl, trivial⟩ (⟨by omega, h2⟩) ?_
 rintro i w3 ⟨hi, hL⟩
 try dsimp only at hi hL
 refine WC.seq (WC.reg ?_)
 refine WL.v (Runs.lss rfl rfl) rfl ?_
 refine WL.nil (WN.thn (WC.seq ?_))
 refine WC.cond rfl (fun c4 => ?_) (fun c4 => ?_)
 ·try simp only [dt, df, nt, nf, ba, il, ie] at c4
  first
  |(exfalso; omega)
  |skip
   refine WC.skip (WN.thn (WC.seq (WC.block (WC.seq (WC.reg ?_)))))
   refine WL.e 2 rfl ?_
   refine WL.nil (WN.thn ?_)
   refine WC.dreg (fun w_ => St W F _ w_) (fun k => Nat.beq k 35) mixed (by kernel_rfl) (hL.drew) (fun hx => ?_)
   refine WM.pure hx (by rfl) rfl (fun w_ => Runs.move rfl) rfl ?_
   refine WM.pure hx (by rfl) rfl (fun w_ => Runs.move rfl) rfl ?_
   refine WM.pure hx (by rfl) rfl (fun w_ => Runs.move rfl) rfl ?_
   refine WM.pure hx (by rfl) rfl (fun w_ => Runs.muln rfl rfl (by omega)) rfl ?_
   refine WM.pure hx (by rfl) rfl (fun w_ => Runs.lidxN Tryz.underlying120 inf5 rfl rfl (n := 4 * i) (by omega) (by omega)) rfl ?_
   refine WM.val 3 hx (by rfl) rfl (by kernel_rfl) (fun w_ hC_ => Runs.loadR (0 : UInt8) hC_ hrd (n := 4 * i) (by omega) Tryz.underlying5 rfl rfl) rfl ?_
   refine WM.pure hx (by rfl) rfl (fun w_ => Runs.u8to32 Tryz.underlying5 Tryz.underlying199 rfl) rfl ?_
   refine WM.pure hx (by rfl) rfl (fun w_ => Runs.shl32 rfl rfl (by decide)) rfl ?_
   refine WM.pure hx (by rfl) rfl (fun w_ => Runs.move rfl) rfl ?_
   refine WM.pure hx (by rfl) rfl (fun w_ => Runs.move rfl) rfl ?_
   refine WM.pure hx (by rfl) rfl (fun w_ => Runs.muln rfl rfl (by omega)) rfl ?_
   refine WM.pure hx (by rfl) rfl (fun w_ => Runs.addn rfl rfl (by omega)) rfl ?_
   refine WM.pure hx (by rfl) rfl (fun w_ => Runs.lidxN Tryz.underlying120 inf5 rfl rfl (n := 4 * i + 1) (by omega) (by omega)) rfl ?_
   refine WM.val 3 hx (by rfl) rfl (by kernel_rfl) (fun w_ hC_ => Runs.loadR (0 : UInt8) hC_ hrd (n := 4 * i + 1) (by omega) Tryz.underlying5 rfl rfl) rfl ?_
   refine WM.pure hx (by rfl) rfl (fun w_ => Runs.u8to32 Tryz.underlying5 Tryz.underlying199 rfl) rfl ?_
   refine WM.pure hx (by rfl) rfl (fun w_ => Runs.shl32 rfl rfl (by decide)) rfl ?_
   refine WM.pure hx (by rfl) rfl (fun w_ => Runs.or32 rfl rfl) rfl ?_
   refine WM.pure hx (by rfl) rfl (fun w_ => Runs.move rfl) rfl ?_
   refine WM.pure hx (by rfl) rfl (fun w_ => Runs.move rfl) rfl ?_
   refine WM.pure hx (by rfl) rfl (fun w_ => Runs.muln rfl rfl (by omega)) rfl ?_
   refine WM.pure hx (by rfl) rfl (fun w_ => Runs.addn rfl rfl (by omega)) rfl ?_
   refine WM.pure hx (by rfl) rfl (fun w_ => Runs.lidxN Tryz.underlying120 inf5 rfl rfl (n := 4 * i + 2) (by omega) (by omega)) rfl ?_
   refine WM.val 3 hx (by rfl) rfl (by kernel_rfl) (fun w_ hC_ => Runs.loadR (0 : UInt8) hC_ hrd (n := 4 * i + 2) (by omega) Tryz.underlying5 rfl rfl) rfl ?_
   refine WM.pure hx (by rfl) rfl (fun w_ => Runs.u8to32 Tryz.underlying5 Tryz.underlying199 rfl) rfl ?_
   refine WM.pure hx (by rfl) rfl (fun w_ => Runs.shl32 rfl rfl (by decide)) rfl ?_
   refine WM.pure hx (by rfl) rfl (fun w_ => Runs.or32 rfl rfl) rfl ?_
   refine WM.pure hx (by rfl) rfl (fun w_ => Runs.move rfl) rfl ?_
   refine WM.pure hx (by rfl) rfl (fun w_ => Runs.move rfl) rfl ?_
   refine WM.pure hx (by rfl) rfl (fun w_ => Runs.muln rfl rfl (by omega)) rfl ?_
   refine WM.pure hx (by rfl) rfl (fun w_ => Runs.addn rfl rfl (by omega)) rfl ?_
   refine WM.pure hx (by rfl) rfl (fun w_ => Runs.lidxN Tryz.underlying120 inf5 rfl rfl (n := 4 * i + 3) (by omega) (by omega)) rfl ?_
   refine WM.val 3 hx (by rfl) rfl (by kernel_rfl) (fun w_ hC_ => Runs.loadR (0 : UInt8) hC_ hrd (n := 4 * i + 3) (by omega) Tryz.underlying5 rfl rfl) rfl ?_
   refine WM.pure hx (by rfl) rfl (fun w_ => Runs.u8to32 Tryz.underlying5 Tryz.underlying199 rfl) rfl ?_
   refine WM.pure hx (by rfl) rfl (fun w_ => Runs.or32 rfl rfl) rfl ?_
   refine WM.pure hx (by rfl) rfl (fun w_ => Runs.aidxN Tryz.underlying222 inf199 rfl rfl (n := i) (by omega) (by omega)) rfl ?_
   refine WM.toD hx rfl (by decide) (by kernel_rfl) ?_
   intro w5 h5
   refine WD.op (by rfl) rfl (by kernel_rfl) ?_
   refine WL.storeArr h5 0 rfl rfl (u := ShaM.w0 bs i) rfl inf199 rfl rfl (Free.zero _) (by simp [ShaM.firsts_len]; omega) ?_
   intro  w6 h6
   try simp only [lz, ls, ez, es'] at h6
   refine WL.nil (WD.next ?_)
   refine WD.fin rfl (by kernel_rfl) ?_
   refine WN.blk (WN.thn (WC.reg ?_))
   refine WL.v (Runs.addn rfl rfl (by omega)) rfl ?_
   refine WL.e 1 rfl ?_
   refine WL.nil ?_
   refine WN.again (i + 1) (by omega) ⟨rfl, rfl, rfl, rfl, trivial⟩ ⟨by omega, ?_⟩
   rw [← first_step bs i (by omega)]
   exact h6
 ·try simp only [dt, df, nt, nf, ba, il, ie] at c4
  first
  |(exfalso; omega)
  |skip
   refine WC.exit (WX.thn (WX.cut (WX.hit (WN.thn (WC.seq ?_)))))
   refine WC.seq (WC.reg ?_)
   refine WL.e 1 rfl ?_
   refine WL.nil (WN.thn (WC.block ?_))
   refine WC.loop (σ := Nat) (fun j => [(2, .pointer (some ⟨b2, 0, none⟩)), (3, .pointer (some ⟨b3, 0, none⟩)), (5, .int .i64 ((16 + j : Nat) : Int))]) (fun j w => j ≤ 48 ∧ St W F ([(b3, .cells ((ShaM.grow j (ShaM.firsts bs 16) ++ List.replicate (64 - (16 + j)) (0 : Wd)).map V32).toArray 222 (0, 0))] :: [(b2, .cells ((List.replicate 64 (0 : Wd)).map V32).toArray 222 (0, 0))] :: cs) w) (fun j => 48 - j) (0) ⟨rfl, rfl, rfl, trivial⟩ (⟨by omega, by obtain rfl : i = 16 := (by omega); exact hL⟩) ?_
   rintro j w7 ⟨hj, hL⟩
   try dsimp only at hj hL
   refine WC.seq (WC.seq (WC.reg ?_))
   refine WL.e 1 rfl ?_
   refine WL.v (Runs.lss rfl rfl) rfl ?_
   refine WL.nil (WN.thn ?_)
   refine WC.cond rfl (fun c8 => ?_) (fun c8 => ?_)
   ·try simp only [dt, df, nt, nf, ba, il, ie] at c8
    first
    |(exfalso; omega)
    |skip
     refine WC.skip (WN.thn (WC.seq (WC.block (WC.seq ?_))))
     refine WC.qreg (C := fun w_ => St W F _ w_) mixed (by kernel_rfl) (hL.drew) ?_
     refine WQ.val (fun w_ hC_ => Runs.move rfl) rfl ?_
     refine WQ.val (fun w_ hC_ => Runs.subn rfl rfl (by omega)) rfl ?_
     refine WQ.val (fun w_ hC_ => Runs.aidxN Tryz.underlying222 inf199 rfl rfl (n := j + 1) (by omega) (by omega)) rfl ?_
     refine WQ.val (fun w_ hC_ => Runs.loadArr (0 : Wd) hC_ 0 rfl (n := j + 1) (by simp [ShaM.grow_len, ShaM.firsts_len]; omega) Tryz.underlying199 rfl rfl) rfl ?_
     refine WQ.val (fun w_ hC_ => Runs.move rfl) rfl ?_
     refine WQ.val (fun w_ hC_ => Runs.subn rfl rfl (by omega)) rfl ?_
     refine WQ.val (fun w_ hC_ => Runs.aidxN Tryz.underlying222 inf199 rfl rfl (n := j + 14) (by omega) (by omega)) rfl ?_
     refine WQ.val (fun w_ hC_ => Runs.loadArr (0 : Wd) hC_ 0 rfl (n := j + 14) (by simp [ShaM.grow_len, ShaM.firsts_len]; omega) Tryz.underlying199 rfl rfl) rfl ?_
     refine WQ.val (fun w_ hC_ => Runs.assign rfl) rfl ?_
     refine WQ.val (fun w_ hC_ => Runs.assign rfl) rfl ?_
     refine WQ.fin ?_
     intro w9 h9
     refine WN.thn ?_
     refine WC.dreg (fun w_ => St W F _ w_) (fun k => Nat.beq k 29) mixed (by kernel_rfl) (h9.drew) (fun hx => ?_)
     refine WM.pure hx (by rfl) rfl (fun w_ => Runs.move rfl) rfl ?_
     refine WM.pure hx (by rfl) rfl (fun w_ => Runs.move rfl) rfl ?_
     refine WM.pure hx (by rfl) rfl (fun w_ => Runs.subn rfl rfl (by omega)) rfl ?_
     refine WM.pure hx (by rfl) rfl (fun w_ => Runs.aidxN Tryz.underlying222 inf199 rfl rfl (n := j) (by omega) (by omega)) rfl ?_
     refine WM.val 3 hx (by rfl) rfl (by kernel_rfl) (fun w_ hC_ => Runs.loadArr (0 : Wd) hC_ 0 rfl (n := j) (by simp [ShaM.grow_len, ShaM.firsts_len]; omega) Tryz.underlying199 rfl rfl) rfl ?_
     refine WM.pure hx (by rfl) rfl (fun w_ => Runs.move rfl) rfl ?_
     refine WM.call 3 hx (by rfl) rfl (by kernel_rfl) can194 rfl rfl (fun w_ hC_ => (rot_c _ _ _ (by decide)).mono fun e w1 he => ⟨he.1, by rw [he.2]; exact hC_⟩) ?_
     refine WM.pure hx (by rfl) rfl (fun w_ => Runs.move rfl) rfl ?_
     refine WM.call 3 hx (by rfl) rfl (by kernel_rfl) can194 rfl rfl (fun w_ hC_ => (rot_c _ _ _ (by decide)).mono fun e w1 he => ⟨he.1, by rw [he.2]; exact hC_⟩) ?_
     refine WM.pure hx (by rfl) rfl (fun w_ => Runs.xor32 rfl rfl) rfl ?_
     refine WM.pure hx (by rfl) rfl (fun w_ => Runs.move rfl) rfl ?_
     refine WM.pure hx (by rfl) rfl (fun w_ => Runs.shr32 rfl rfl (by decide)) rfl ?_
     refine WM.pure hx (by rfl) rfl (fun w_ => Runs.xor32 rfl rfl) rfl ?_
     refine WM.pure hx (by rfl) rfl (fun w_ => Runs.add32 rfl rfl) rfl ?_
     refine WM.pure hx (by rfl) rfl (fun w_ => Runs.move rfl) rfl ?_
     refine WM.pure hx (by rfl) rfl (fun w_ => Runs.subn rfl rfl (by omega)) rfl ?_
     refine WM.pure hx (by rfl) rfl (fun w_ => Runs.aidxN Tryz.underlying222 inf199 rfl rfl (n := j + 9) (by omega) (by omega)) rfl ?_
     refine WM.val 3 hx (by rfl) rfl (by kernel_rfl) (fun w_ hC_ => Runs.loadArr (0 : Wd) hC_ 0 rfl (n := j + 9) (by simp [ShaM.grow_len, ShaM.firsts_len]; omega) Tryz.underlying199 rfl rfl) rfl ?_
     refine WM.pure hx (by rfl) rfl (fun w_ => Runs.add32 rfl rfl) rfl ?_
     refine WM.pure hx (by rfl) rfl (fun w_ => Runs.move rfl) rfl ?_
     refine WM.call 3 hx (by rfl) rfl (by kernel_rfl) can194 rfl rfl (fun w_ hC_ => (rot_c _ _ _ (by decide)).mono fun e w1 he => ⟨he.1, by rw [he.2]; exact hC_⟩) ?_
     refine WM.pure hx (by rfl) rfl (fun w_ => Runs.move rfl) rfl ?_
     refine WM.call 3 hx (by rfl) rfl (by kernel_rfl) can194 rfl rfl (fun w_ hC_ => (rot_c _ _ _ (by decide)).mono fun e w1 he => ⟨he.1, by rw [he.2]; exact hC_⟩) ?_
     refine WM.pure hx (by rfl) rfl (fun w_ => Runs.xor32 rfl rfl) rfl ?_
     refine WM.pure hx (by rfl) rfl (fun w_ => Runs.move rfl) rfl ?_
     refine WM.pure hx (by rfl) rfl (fun w_ => Runs.shr32 rfl rfl (by decide)) rfl ?_
     refine WM.pure hx (by rfl) rfl (fun w_ => Runs.xor32 rfl rfl) rfl ?_
     refine WM.pure hx (by rfl) rfl (fun w_ => Runs.add32 rfl rfl) rfl ?_
     refine WM.pure hx (by rfl) rfl (fun w_ => Runs.aidxN Tryz.underlying222 inf199 rfl rfl (n := 16 + j) (by omega) (by omega)) rfl ?_
     refine WM.toD hx rfl (by decide) (by kernel_rfl) ?_
     intro w10 h10
     refine WD.op (by rfl) rfl (by kernel_rfl) ?_
     refine WL.storeArr h10 0 rfl rfl rfl inf199 rfl rfl (Free.zero _) (by simp [ShaM.grow_len, ShaM.firsts_len]; omega) ?_
     intro  w11 h11
     try simp only [lz, ls, ez, es'] at h11
     refine WL.nil (WD.next ?_)
     refine WD.fin rfl (by kernel_rfl) ?_
     refine WN.blk (WN.thn (WC.reg ?_))
     refine WL.e 1 rfl ?_
     refine WL.v (Runs.addn rfl rfl (by omega)) rfl ?_
     refine WL.e 1 rfl ?_
     refine WL.nil ?_
     refine WN.again (j + 1) (by omega) ⟨rfl, rfl, rfl, trivial⟩ ⟨by omega, ?_⟩
     rw [← grow_step bs j (by omega)]
     exact h11
   ·try simp only [dt, df, nt, nf, ba, il, ie] at c8
    first
    |(exfalso; omega)
    |skip
     refine WC.exit (WX.thn (WX.cut (WX.hit (WN.thn (WC.seq ?_)))))
     refine WC.reg ?_
     obtain rfl : j = 48 := by omega
     have hS : St W F ([(b3, .cells ((ShaM.sched bs).map V32).toArray 222 (0, 0))] :: [(b2, .cells ((List.replicate 64 (0 : Wd)).map V32).toArray 222 (0, 0))] :: cs) w7 := by
      have e : ShaM.grow 48 (ShaM.firsts bs 16) ++ List.replicate (64 - (16 + 48)) (0 : Wd) = ShaM.sched bs := by simp [ShaM.sched]
      rw [← e]; exact hL
     refine WL.v (Runs.loadAll hS 0 rfl Tryz.underlying222 rfl inf222 (by simp [ShaM.sched_len]) rfl) rfl ?_
     refine WL.storeAll hS 1 rfl rfl rfl inf222 (by simp [ShaM.sched_len]) (by simp [ShaM.sched_len]) (by rw [List.all_eq_true]; intro v hv; simp at hv; obtain ⟨a, _, rfl⟩ := hv; rfl) (Free.zero _) ?_
     intro  w12 h12
     try simp only [lz, ls, ez, es'] at h12
     refine WL.nil (WN.thn (WC.ret ?_))
     exact retA rfl ⟨_, rfl, run_loadVarA (vs := (ShaM.sched bs).map V32) Tryz.underlying222 rfl inf222 (by simp [ShaM.sched_len]) (fun j v hv => by rw [add_mk, Nat.zero_add]; exact h12.ocell (i := 1) rfl (by simpa using hv))⟩ ⟨rfl, (h12.drop 0).drop 0⟩
end Sha
end Go.Proofs.YtifdpllfbaogcaaGreat
namespace Go.Proofs.YtifdpllfbaogcaaGreat
open Go Go.RowKit B
namespace Sha
open ShaM (rotr Wd D8)
theorem can192 : B.Can Tryz.prog 192 := ⟨_, Tryz.func192, by kernel_rfl, rfl⟩
theorem can193 : B.Can Tryz.prog 193 := ⟨_, Tryz.func193, by kernel_rfl, rfl⟩
theorem okb_lo {l : Int} {len cap : Nat} (h : 0 ≤ l ∧ l ≤ len) : okb (some l) none len cap := ⟨fun h e => (by cases e), fun l' e => by injection e with e; subst e; exact h⟩
theorem okb_hi {l : Int} {len cap : Nat} (h : 0 ≤ l ∧ l ≤ cap) : okb none (some l) len cap := ⟨fun h' e => (by injection e with e; subst e; exact h), fun l' e => (by cases e)⟩
theorem okb_lh {l h : Int} {len cap : Nat} (h0 : 0 ≤ l ∧ l ≤ h) (h1 : h ≤ cap) : okb (some l) (some h) len cap := ⟨fun h' e => (by injection e with e; subst e; omega), fun l' e => by injection e with e; subst e; simp only [hi_, Option.map_some, Option.getD_some]; omega⟩
theorem okb_no {len cap : Nat} : okb none none len cap := ⟨fun h e => (by cases e), fun l e => (by cases e)⟩
theorem first_own {P : Program} {W w : World} {F : Snap} {cs : List Res} (h : St W F cs w) (i : Nat) {b : Nat} {arr : Array Value} {tt : TypeId} {fz : Nat × Nat} (hi : cs[i]? = some [(b, .cells arr tt fz)]) (n m c : Nat) (hn : n ≤ arr.size) :
  (Builtin.firstCells 1 n (.slice (some ⟨b, 0, none⟩) m c)).run P w = .ok (arr.toList.take n).toArray w := by
 have hl : (arr.toList.take n).length = n := by rw [List.length_take, Array.length_toList]; omega
 have := B.run_loadCells (P := P) (w := w) (a := ⟨b, 0, none⟩) (arr.toList.take n) 0 #[] (fun j v hv => by
  rw [add_mk]
  refine h.ocell hi ?_
  rw [List.getElem?_take] at hv
  split at hv
  ·simpa using hv
  ·cases hv)
 rw [hl] at this
 simpa [Builtin.firstCells, loadCells] using this
theorem block_c {W : World} {F : Snap} {cs : List Res} {b : Nat} {ad : Addr} {cap : Nat} {bs : List UInt8} (w : World) (d : D8) (h : St W F ([(b, .cells ((d.list).map V32).toArray 216 (0, 0))] :: cs) w) (hrd : ∀ i x, bs[i]? = some x → cellF F (ad.add i) = some (V8 x)) (hl : bs.length = 64) : Calls Tryz.prog 186 #[.pointer (some ⟨b, 0, none⟩), .slice (some ad) bs.length cap] w fun e w' => e = .returned (.tuple #[]) ∧ St W F ([(b, .cells (((ShaM.block d bs).list).map V32).toArray 216 (0, 0))] :: cs) w'  := by
 refine enter (P := Tryz.prog) (args := [.pointer (some ⟨b, 0, none⟩), .slice (some ad) bs.length cap]) Tryz.func186 rfl rfl rfl ?_
 refine WC.seq (WC.reg ?_)
 refine WL.e 1 rfl ?_
 refine WL.call can192 rfl rfl (schedule_c _ h hrd hl) ?_
 rintro _ w1 ⟨rfl, h1⟩
 refine ⟨_, rfl, ?_⟩
 refine WL.call can193 rfl rfl (constants_c _ h1) ?_
 rintro _ w2 ⟨rfl, h2⟩
 refine ⟨_, rfl, ?_⟩
 refine WL.alloc' rfl h2 inf222 ?_
 intro b4 w3 h3
 refine WL.alloc' rfl h3 inf222 ?_
 intro b5 w4 h4
 refine WL.storeAll h4 1 rfl rfl rfl inf222 (by simp [ShaM.sched_len]) (by simp [ShaM.sched_len, Value.cells]) (by rw [List.all_eq_true]; intro v hv; simp at hv; obtain ⟨a, _, rfl⟩ := hv; rfl) (Free.zero _) ?_
 intro  w5 h5
 try simp only [lz, ls, ez, es'] at h5
 refine WL.storeAll h5 0 rfl rfl rfl inf222 rfl rfl rfl (Free.zero _) ?_
 intro  w6 h6
 try simp only [lz, ls, ez, es'] at h6
 refine WL.nil (WN.thn (WC.seq (WC.reg ?_)))
 refine WL.e 2 rfl ?_
 refine WL.v (Runs.loadAll h6 2 rfl Tryz.underlying216 rfl inf216 rfl rfl) rfl ?_
 refine WL.alloc' rfl h6 inf216 ?_
 intro b6 w7 h7
 refine WL.storeAll h7 0 rfl rfl rfl inf216 rfl rfl rfl (Free.zero _) ?_
 intro  w8 h8
 try simp only [lz, ls, ez, es'] at h8
 refine WL.nil (WN.thn (WC.seq (WC.seq (WC.reg ?_))))
 refine WL.e 1 rfl ?_
 refine WL.nil (WN.thn (WC.block ?_))
 refine WC.loop (σ := Nat) (fun i => [(0, .pointer (some ⟨b, 0, none⟩)), (4, .pointer (some ⟨b4, 0, none⟩)), (5, .pointer (some ⟨b5, 0, none⟩)), (6, .pointer (some ⟨b6, 0, none⟩)), (19, .int .i64 (i : Int))]) (fun i w => i ≤ 64 ∧ St W F ([(b6, .cells (((ShaM.rounds (ShaM.sched bs) i d).list).map V32).toArray 216 (0, 0))] :: [(b5, .cells ((ShaM.K).map V32).toArray 222 (0, 0))] :: [(b4, .cells ((ShaM.sched bs).map V32).toArray 222 (0, 0))] :: [(b, .cells ((d.list).map V32).toArray 216 (0, 0))] :: cs) w) (fun i => 64 - i) (0) ⟨rfl, rfl, rfl, rfl, rfl, trivial⟩ (⟨by omega, h8⟩) ?_
 rintro i w9 ⟨hi, hL⟩
 try dsimp only at hi hL
 refine WC.seq (WC.reg ?_)
 refine WL.v (Runs.lss rfl rfl) rfl ?_
 refine WL.nil (WN.thn (WC.seq ?_))
 refine WC.cond rfl (fun c10 => ?_) (fun c10 => ?_)
 ·try simp only [dt, df, nt, nf, ba, il, ie] at c10
  first
  |(exfalso; omega)
  |skip
   refine WC.skip (WN.thn (WC.seq (WC.block (WC.seq (WC.reg ?_)))))
   refine WL.e 2 rfl ?_
   refine WL.nil (WN.thn (WC.seq ?_))
   refine WC.qreg (C := fun w_ => St W F _ w_) mixed (by kernel_rfl) (hL.drew) ?_
   refine WQ.val (fun w_ hC_ => Runs.aidxN Tryz.underlying216 inf199 rfl rfl (n := 0) (by omega) (by omega)) rfl ?_
   refine WQ.val (fun w_ hC_ => Runs.loadArr (0 : Wd) hC_ 0 rfl (n := 0) (by show _ < 8; omega) Tryz.underlying199 rfl rfl) rfl ?_
   refine WQ.val (fun w_ hC_ => Runs.aidxN Tryz.underlying216 inf199 rfl rfl (n := 4) (by omega) (by omega)) rfl ?_
   refine WQ.val (fun w_ hC_ => Runs.loadArr (0 : Wd) hC_ 0 rfl (n := 4) (by show _ < 8; omega) Tryz.underlying199 rfl rfl) rfl ?_
   refine WQ.val (fun w_ hC_ => Runs.assign rfl) rfl ?_
   refine WQ.val (fun w_ hC_ => Runs.assign rfl) rfl ?_
   refine WQ.fin ?_
   intro w11 h11
   refine WN.thn (WC.seq ?_)
   refine WC.qreg (C := fun w_ => St W F _ w_) mixed (by kernel_rfl) (h11.drew) ?_
   refine WQ.val (fun w_ hC_ => Runs.aidxN Tryz.underlying216 inf199 rfl rfl (n := 7) (by omega) (by omega)) rfl ?_
   refine WQ.val (fun w_ hC_ => Runs.loadArr (0 : Wd) hC_ 0 rfl (n := 7) (by show _ < 8; omega) Tryz.underlying199 rfl rfl) rfl ?_
   refine WQ.val (fun w_ hC_ => Runs.move rfl) rfl ?_
   refine WQ.call can194 rfl rfl (fun w_ hC_ => (rot_c _ _ _ (by decide)).mono fun e w1 he => ⟨he.1, by rw [he.2]; exact hC_⟩) ?_
   refine WQ.val (fun w_ hC_ => Runs.move rfl) rfl ?_
   refine WQ.call can194 rfl rfl (fun w_ hC_ => (rot_c _ _ _ (by decide)).mono fun e w1 he => ⟨he.1, by rw [he.2]; exact hC_⟩) ?_
   refine WQ.val (fun w_ hC_ => Runs.xor32 rfl rfl) rfl ?_
   refine WQ.val (fun w_ hC_ => Runs.move rfl) rfl ?_
   refine WQ.call can194 rfl rfl (fun w_ hC_ => (rot_c _ _ _ (by decide)).mono fun e w1 he => ⟨he.1, by rw [he.2]; exact hC_⟩) ?_
   refine WQ.val (fun w_ hC_ => Runs.xor32 rfl rfl) rfl ?_
   refine WQ.val (fun w_ hC_ => Runs.add32 rfl rfl) rfl ?_
   refine WQ.val (fun w_ hC_ => Runs.move rfl) rfl ?_
   refine WQ.val (fun w_ hC_ => Runs.aidxN Tryz.underlying216 inf199 rfl rfl (n := 5) (by omega) (by omega)) rfl ?_
   refine WQ.val (fun w_ hC_ => Runs.loadArr (0 : Wd) hC_ 0 rfl (n := 5) (by show _ < 8; omega) Tryz.underlying199 rfl rfl) rfl ?_
   refine WQ.val (fun w_ hC_ => Runs.and32 rfl rfl) rfl ?_
   refine WQ.val (fun w_ hC_ => Runs.move rfl) rfl ?_
   refine WQ.val (fun w_ hC_ => Runs.com32 rfl) rfl ?_
   refine WQ.val (fun w_ hC_ => Runs.aidxN Tryz.underlying216 inf199 rfl rfl (n := 6) (by omega) (by omega)) rfl ?_
   refine WQ.val (fun w_ hC_ => Runs.loadArr (0 : Wd) hC_ 0 rfl (n := 6) (by show _ < 8; omega) Tryz.underlying199 rfl rfl) rfl ?_
   refine WQ.val (fun w_ hC_ => Runs.and32 rfl rfl) rfl ?_
   refine WQ.val (fun w_ hC_ => Runs.xor32 rfl rfl) rfl ?_
   refine WQ.val (fun w_ hC_ => Runs.add32 rfl rfl) rfl ?_
   refine WQ.val (fun w_ hC_ => Runs.move rfl) rfl ?_
   refine WQ.val (fun w_ hC_ => Runs.aidxN Tryz.underlying222 inf199 rfl rfl (n := i) (by omega) (by omega)) rfl ?_
   refine WQ.val (fun w_ hC_ => Runs.loadArr (0 : Wd) hC_ 1 rfl (n := i) (by show _ < 64; omega) Tryz.underlying199 rfl rfl) rfl ?_
   refine WQ.val (fun w_ hC_ => Runs.add32 rfl rfl) rfl ?_
   refine WQ.val (fun w_ hC_ => Runs.move rfl) rfl ?_
   refine WQ.val (fun w_ hC_ => Runs.aidxN Tryz.underlying222 inf199 rfl rfl (n := i) (by omega) (by omega)) rfl ?_
   refine WQ.val (fun w_ hC_ => Runs.loadArr (0 : Wd) hC_ 2 rfl (n := i) (by rw [ShaM.sched_len]; omega) Tryz.underlying199 rfl rfl) rfl ?_
   refine WQ.val (fun w_ hC_ => Runs.add32 rfl rfl) rfl ?_
   refine WQ.val (fun w_ hC_ => Runs.assign rfl) rfl ?_
   refine WQ.fin ?_
   intro w12 h12
   refine WN.thn (WC.seq ?_)
   refine WC.qreg (C := fun w_ => St W F _ w_) mixed (by kernel_rfl) (h12.drew) ?_
   refine WQ.val (fun w_ hC_ => Runs.move rfl) rfl ?_
   refine WQ.call can194 rfl rfl (fun w_ hC_ => (rot_c _ _ _ (by decide)).mono fun e w1 he => ⟨he.1, by rw [he.2]; exact hC_⟩) ?_
   refine WQ.val (fun w_ hC_ => Runs.move rfl) rfl ?_
   refine WQ.call can194 rfl rfl (fun w_ hC_ => (rot_c _ _ _ (by decide)).mono fun e w1 he => ⟨he.1, by rw [he.2]; exact hC_⟩) ?_
   refine WQ.val (fun w_ hC_ => Runs.xor32 rfl rfl) rfl ?_
   refine WQ.val (fun w_ hC_ => Runs.move rfl) rfl ?_
   refine WQ.call can194 rfl rfl (fun w_ hC_ => (rot_c _ _ _ (by decide)).mono fun e w1 he => ⟨he.1, by rw [he.2]; exact hC_⟩) ?_
   refine WQ.val (fun w_ hC_ => Runs.xor32 rfl rfl) rfl ?_
   refine WQ.val (fun w_ hC_ => Runs.move rfl) rfl ?_
   refine WQ.val (fun w_ hC_ => Runs.aidxN Tryz.underlying216 inf199 rfl rfl (n := 1) (by omega) (by omega)) rfl ?_
   refine WQ.val (fun w_ hC_ => Runs.loadArr (0 : Wd) hC_ 0 rfl (n := 1) (by show _ < 8; omega) Tryz.underlying199 rfl rfl) rfl ?_
   refine WQ.val (fun w_ hC_ => Runs.and32 rfl rfl) rfl ?_
   refine WQ.val (fun w_ hC_ => Runs.move rfl) rfl ?_
   refine WQ.val (fun w_ hC_ => Runs.aidxN Tryz.underlying216 inf199 rfl rfl (n := 2) (by omega) (by omega)) rfl ?_
   refine WQ.val (fun w_ hC_ => Runs.loadArr (0 : Wd) hC_ 0 rfl (n := 2) (by show _ < 8; omega) Tryz.underlying199 rfl rfl) rfl ?_
   refine WQ.val (fun w_ hC_ => Runs.and32 rfl rfl) rfl ?_
   refine WQ.val (fun w_ hC_ => Runs.xor32 rfl rfl) rfl ?_
   refine WQ.val (fun w_ hC_ => Runs.aidxN Tryz.underlying216 inf199 rfl rfl (n := 1) (by omega) (by omega)) rfl ?_
   refine WQ.val (fun w_ hC_ => Runs.loadArr (0 : Wd) hC_ 0 rfl (n := 1) (by show _ < 8; omega) Tryz.underlying199 rfl rfl) rfl ?_
   refine WQ.val (fun w_ hC_ => Runs.aidxN Tryz.underlying216 inf199 rfl rfl (n := 2) (by omega) (by omega)) rfl ?_
   refine WQ.val (fun w_ hC_ => Runs.loadArr (0 : Wd) hC_ 0 rfl (n := 2) (by show _ < 8; omega) Tryz.underlying199 rfl rfl) rfl ?_
   refine WQ.val (fun w_ hC_ => Runs.and32 rfl rfl) rfl ?_
   refine WQ.val (fun w_ hC_ => Runs.xor32 rfl rfl) rfl ?_
   refine WQ.val (fun w_ hC_ => Runs.add32 rfl rfl) rfl ?_
   refine WQ.val (fun w_ hC_ => Runs.assign rfl) rfl ?_
   refine WQ.fin ?_
   intro w13 h13
   refine WN.thn (WC.seq ?_)
   refine WC.dreg (fun w_ => St W F _ w_) (fun k => Nat.beq k 2) mixed (by kernel_rfl) (h13.drew) (fun hx => ?_)
   refine WM.pure hx (by rfl) rfl (fun w_ => Runs.asl Tryz.underlying216 inf199 rfl (l := some 1) (h := none) rfl rfl (okb_lo (by decide))) rfl ?_
   refine WM.pure hx (by rfl) rfl (fun w_ => Runs.asl Tryz.underlying216 inf199 rfl (l := none) (h := some 7) rfl rfl (okb_hi (by decide))) rfl ?_
   refine WM.toD hx rfl (by decide) (by kernel_rfl) ?_
   intro w14 h14
   refine WD.op (by rfl) rfl (by kernel_rfl) ?_
   refine WL.copy (m := 7) (off := 1) (len := 7) (cap := 7) (src := ((ShaM.rounds (ShaM.sched bs) i d).list.map V32).take 7) h14 0 rfl rfl Tryz.underlying226 (inf199.elem rfl rfl) rfl rfl rfl (first_own h14 0 rfl 7 7 8 (Nat.le_of_ble_eq_true rfl)) rfl (Free.zero _) (Nat.le_of_ble_eq_true rfl) ?_
   intro  w15 h15
   try simp only [lz, ls, ez, es'] at h15
   refine WL.nil (WD.next ?_)
   refine WD.fin rfl (by kernel_rfl) ?_
   refine WN.thn (WC.seq (WC.reg ?_))
   replace h15 : St W F ([(b6, .cells ((([(ShaM.rounds (ShaM.sched bs) i d).a, (ShaM.rounds (ShaM.sched bs) i d).a, (ShaM.rounds (ShaM.sched bs) i d).b, (ShaM.rounds (ShaM.sched bs) i d).c, (ShaM.rounds (ShaM.sched bs) i d).d, (ShaM.rounds (ShaM.sched bs) i d).e, (ShaM.rounds (ShaM.sched bs) i d).f, (ShaM.rounds (ShaM.sched bs) i d).g] : List Wd)).map V32).toArray 216 (0, 0))] :: [(b5, .cells ((ShaM.K).map V32).toArray 222 (0, 0))] :: [(b4, .cells ((ShaM.sched bs).map V32).toArray 222 (0, 0))] :: [(b, .cells ((d.list).map V32).toArray 216 (0, 0))] :: cs) w15 := h15
   refine WL.v (Runs.aidxN Tryz.underlying216 inf199 rfl rfl (n := 4) (by omega) (by omega)) rfl ?_
   refine WL.v (Runs.loadArr (0 : Wd) h15 0 rfl (n := 4) (by show _ < 8; omega) Tryz.underlying199 rfl rfl) rfl ?_
   refine WL.e 1 rfl ?_
   refine WL.v (Runs.add32 rfl rfl) rfl ?_
   refine WL.v (Runs.aidxN Tryz.underlying216 inf199 rfl rfl (n := 4) (by omega) (by omega)) rfl ?_
   refine WL.storeArr h15 0 rfl rfl rfl inf199 rfl rfl (Free.zero _) (by show _ < 8; omega) ?_
   intro  w16 h16
   try simp only [lz, ls, ez, es'] at h16
   refine WL.nil (WN.thn (WC.reg ?_))
   refine WL.e 2 rfl ?_
   refine WL.v (Runs.add32 rfl rfl) rfl ?_
   refine WL.v (Runs.aidxN Tryz.underlying216 inf199 rfl rfl (n := 0) (by omega) (by omega)) rfl ?_
   refine WL.storeArr h16 0 rfl rfl rfl inf199 rfl rfl (Free.zero _) (by show _ < 8; omega) ?_
   intro  w17 h17
   try simp only [lz, ls, ez, es'] at h17
   refine WL.nil (WN.blk (WN.thn (WC.reg ?_)))
   refine WL.v (Runs.addn rfl rfl (by omega)) rfl ?_
   refine WL.e 1 rfl ?_
   refine WL.nil ?_
   exact WN.again (i + 1) (by omega) ⟨rfl, rfl, rfl, rfl, rfl, trivial⟩ ⟨by omega, h17⟩
 ·try simp only [dt, df, nt, nf, ba, il, ie] at c10
  first
  |(exfalso; omega)
  |skip
   refine WC.exit (WX.thn (WX.cut (WX.hit (WN.thn (WC.seq ?_)))))
   refine WC.reg ?_
   refine WL.e 1 rfl ?_
   refine WL.nil (WN.thn (WC.block ?_))
   refine WC.loop (σ := Nat) (fun j => [(0, .pointer (some ⟨b, 0, none⟩)), (6, .pointer (some ⟨b6, 0, none⟩)), (93, .int .i64 (j : Int))]) (fun j w => j ≤ 8 ∧ St W F ([(b6, .cells (((ShaM.rounds (ShaM.sched bs) 64 d).list).map V32).toArray 216 (0, 0))] :: [(b5, .cells ((ShaM.K).map V32).toArray 222 (0, 0))] :: [(b4, .cells ((ShaM.sched bs).map V32).toArray 222 (0, 0))] :: [(b, .cells ((ShaM.part d (ShaM.rounds (ShaM.sched bs) 64 d) j).map V32).toArray 216 (0, 0))] :: cs) w) (fun j => 8 - j) (0) ⟨rfl, rfl, rfl, trivial⟩ (⟨by omega, by obtain rfl : i = 64 := (by omega); exact hL⟩) ?_
   rintro j w18 ⟨hj, hL⟩
   try dsimp only at hj hL
   refine WC.seq (WC.reg ?_)
   refine WL.v (Runs.lss rfl rfl) rfl ?_
   refine WL.nil (WN.thn (WC.seq ?_))
   refine WC.cond rfl (fun c19 => ?_) (fun c19 => ?_)
   ·try simp only [dt, df, nt, nf, ba, il, ie] at c19
    first
    |(exfalso; omega)
    |skip
     refine WC.skip (WN.thn (WC.seq (WC.block (WC.seq (WC.reg ?_)))))
     refine WL.e 2 rfl ?_
     refine WL.nil (WN.thn ?_)
     refine WC.dreg (fun w_ => St W F _ w_) (fun k => Nat.beq k 11) mixed (by kernel_rfl) (hL.drew) (fun hx => ?_)
     refine WM.pure hx (by rfl) rfl (fun w_ => Runs.move rfl) rfl ?_
     refine WM.pure hx (by rfl) rfl (fun w_ => Runs.move rfl) rfl ?_
     refine WM.pure hx (by rfl) rfl (fun w_ => Runs.nilCheckP rfl) rfl ?_
     refine WM.pure hx (by rfl) rfl (fun w_ => Runs.aidxN Tryz.underlying216 inf199 rfl rfl (n := j) (by omega) (by omega)) rfl ?_
     refine WM.val 3 hx (by rfl) rfl (by kernel_rfl) (fun w_ hC_ => Runs.loadArr (0 : Wd) hC_ 3 rfl (n := j) (by rw [ShaM.part_len _ _ (by omega)]; omega) Tryz.underlying199 rfl rfl) rfl ?_
     refine WM.pure hx (by rfl) rfl (fun w_ => Runs.move rfl) rfl ?_
     refine WM.pure hx (by rfl) rfl (fun w_ => Runs.aidxN Tryz.underlying216 inf199 rfl rfl (n := j) (by omega) (by omega)) rfl ?_
     refine WM.val 3 hx (by rfl) rfl (by kernel_rfl) (fun w_ hC_ => Runs.loadArr (0 : Wd) hC_ 0 rfl (n := j) (by show _ < 8; omega) Tryz.underlying199 rfl rfl) rfl ?_
     refine WM.pure hx (by rfl) rfl (fun w_ => Runs.add32 rfl rfl) rfl ?_
     refine WM.pure hx (by rfl) rfl (fun w_ => Runs.nilCheckP rfl) rfl ?_
     refine WM.pure hx (by rfl) rfl (fun w_ => Runs.aidxN Tryz.underlying216 inf199 rfl rfl (n := j) (by omega) (by omega)) rfl ?_
     refine WM.toD hx rfl (by decide) (by kernel_rfl) ?_
     intro w20 h20
     refine WD.op (by rfl) rfl (by kernel_rfl) ?_
     refine WL.storeArr h20 3 rfl rfl rfl inf199 rfl rfl (Free.zero _) (by rw [ShaM.part_len _ _ (by omega)]; omega) ?_
     intro  w21 h21
     try simp only [lz, ls, ez, es'] at h21
     refine WL.nil (WD.next ?_)
     refine WD.fin rfl (by kernel_rfl) ?_
     refine WN.blk (WN.thn (WC.reg ?_))
     refine WL.v (Runs.addn rfl rfl (by omega)) rfl ?_
     refine WL.e 1 rfl ?_
     refine WL.nil ?_
     refine WN.again (j + 1) (by omega) ⟨rfl, rfl, rfl, trivial⟩ ⟨by omega, ?_⟩
     rw [← ShaM.part_set _ _ (by omega), ← ShaM.part_at d (ShaM.rounds (ShaM.sched bs) 64 d) (by omega)]
     exact h21
   ·try simp only [dt, df, nt, nf, ba, il, ie] at c19
    first
    |(exfalso; omega)
    |skip
     refine WC.exit (WX.thn (WX.cut (WX.hit ?_)))
     obtain rfl : j = 8 := by omega
     refine end0 rfl ⟨rfl, ?_⟩
     have e : (ShaM.block d bs).list = ShaM.part d (ShaM.rounds (ShaM.sched bs) 64 d) 8 := D8.list_of (ShaM.part_len _ _ (by omega))
     rw [e]
     exact ((hL.drop 0).drop 0).drop 0
end Sha
end Go.Proofs.YtifdpllfbaogcaaGreat
namespace Go.Proofs.YtifdpllfbaogcaaGreat
open Go Go.RowKit B
namespace Sha
open ShaM (rotr Wd D8)
theorem can185 : B.Can Tryz.prog 185 := ⟨_, Tryz.func185, by kernel_rfl, rfl⟩
theorem can186 : B.Can Tryz.prog 186 := ⟨_, Tryz.func186, by kernel_rfl, rfl⟩
theorem lenb_succ (n i : Nat) : ShaM.lenb n (i + 1) = ShaM.lenb n i ++ [UInt8.ofNat (8 * n / 2 ^ (56 - 8 * i))] := by simp [ShaM.lenb, List.range_succ]
theorem lenb_len (n i : Nat) : (ShaM.lenb n i).length = i := by simp [ShaM.lenb]
theorem pad_len (S : List UInt8) : (ShaM.pad S).length = S.length + 1 + ShaM.pads S.length + 8 := by simp [ShaM.pad, lenb_len]; omega
theorem take_flat {l : List Wd} {i : Nat} (hi : i < l.length) : (l.take (i + 1)).flatMap ShaM.out4 = (l.take i).flatMap ShaM.out4 ++ ShaM.out4 (l.getD i 0) := by
 rw [List.take_succ_eq_append_getElem hi, List.flatMap_append, List.getD_eq_getElem?_getD, List.getElem?_eq_getElem hi]; simp
theorem flat_len (l : List Wd) : (l.flatMap ShaM.out4).length = 4 * l.length := by
 induction l with
 |nil => rfl
 |cons a l ih => rw [List.flatMap_cons, List.length_append, ih]; simp [ShaM.out4]; omega
theorem list_len (d : D8) : d.list.length = 8 := rfl
theorem of_c {W : World} {F : Snap} {cs : List Res} (w : World) (s : ByteArray) (h : St W F cs w) (hs : s.size ≤ 1000000) : Calls Tryz.prog 177 #[.string s] w fun e w' => e = .returned (.string ⟨(ShaM.of s.data.toList).toArray⟩) ∧ St W F cs w'  := by
 refine enter (P := Tryz.prog) (args := [.string s]) Tryz.func177 rfl rfl rfl ?_
 obtain ⟨S, hS⟩ : ∃ S, S = s.data.toList := ⟨_, rfl⟩
 have hSl : S.length = s.size := by rw [hS]; simp
 have hp : ShaM.pads S.length = (119 - S.length % 64) % 64 := rfl
 rw [← hS]
 refine WC.seq (WC.reg ?_)
 refine WL.e 1 rfl ?_
 refine WL.nil (WN.thn (WC.seq (WC.reg ?_)))
 refine WL.e 1 rfl ?_
 refine WL.s2b h rfl Tryz.underlying9 Tryz.underlying120 Tryz.underlying5 rfl ?_
 intro r0 v0 w1 hr0 h1
 try simp only [lz, ls, ez, es'] at h1
 have hrb : Row 5 V8 r0 v0 S := by unfold Row; rw [hSl, hS]; exact hr0
 refine WL.lit (vs := (([0x80] : List UInt8)).map V8) h1 rfl Tryz.underlying120 inf5 rfl rfl rfl rfl rfl ?_
 intro lit11 w2 h2
 refine WL.app (ys := ([0x80] : List UInt8)) 1 h2 rfl rfl rfl rfl Tryz.underlying120 Tryz.underlying120 (.inr ⟨_, rfl⟩) inf5 rfl hrb (Src.lit h2 0 rfl rfl rfl) rfl rfl (by first | omega | (simp [lenb_len, flat_len, list_len, ShaM.out4]; done) | (simp [lenb_len, flat_len, list_len, ShaM.out4]; omega)) (by first | omega | (simp [lenb_len, flat_len, list_len, ShaM.out4]; done) | (simp [lenb_len, flat_len, list_len, ShaM.out4]; omega)) ?_
 intro r3 v3 w4 hr3 h4
 simp only [lz, ls] at h4
 replace h4 := h4.drop 0
 simp only [ez, es'] at h4
 refine WL.e 1 rfl ?_
 refine WL.nil (WN.thn (WC.seq (WC.block ?_)))
 refine WC.loop (σ := Nat × Res × Value) (fun q_ => [(0, .string s), (3, q_.2.2)]) (fun q_ w => q_.1 ≤ ShaM.pads S.length ∧ Row 5 V8 q_.2.1 q_.2.2 (S ++ [0x80] ++ List.replicate q_.1 0) ∧ St W F (q_.2.1 :: cs) w) (fun q_ => ShaM.pads S.length - q_.1) (⟨0, r3, v3⟩) (by repeat (first | exact trivial | refine ⟨rfl, ?_⟩)) (⟨by omega, by simpa using hr3, h4⟩) ?_
 rintro ⟨k, r, v⟩ w5 ⟨hk, hrb, hL⟩
 try dsimp only at hk hrb hL
 refine WC.sub (s := [(0, .string s), (3, v)]) (by repeat (first | exact trivial | refine ⟨rfl, ?_⟩)) ?_
 obtain ⟨A, cap, rfl, hcap⟩ := hrb.val
 have hlen : (S ++ [0x80] ++ List.replicate k 0).length = S.length + 1 + k := by simp; omega
 refine WC.seq (WC.seq (WC.reg ?_))
 refine WL.e 1 rfl ?_
 refine WL.v (Runs.llen Tryz.underlying120 rfl rfl) rfl ?_
 refine WL.v (Runs.remn rfl rfl (by omega) (by omega)) rfl ?_
 refine WL.v (Runs.neq rfl rfl) rfl ?_
 refine WL.nil (WN.thn ?_)
 refine WC.cond rfl (fun c6 => ?_) (fun c6 => ?_)
 ·try simp only [dt, df, nt, nf, ba, il, ie] at c6
  first
  |(exfalso; omega)
  |skip
   refine WC.skip (WN.thn (WC.block (WC.reg ?_)))
   refine WL.e 1 rfl ?_
   refine WL.lit (vs := (([0] : List UInt8)).map V8) hL rfl Tryz.underlying120 inf5 rfl rfl rfl rfl rfl ?_
   intro lit18 w7 h7
   refine WL.app (ys := ([0] : List UInt8)) 1 h7 rfl rfl rfl rfl Tryz.underlying120 Tryz.underlying120 (.inr ⟨_, rfl⟩) inf5 rfl hrb (Src.lit h7 0 rfl rfl rfl) rfl rfl (by first | omega | (simp [lenb_len, flat_len, list_len, ShaM.out4]; done) | (simp [lenb_len, flat_len, list_len, ShaM.out4]; omega)) (by first | omega | (simp [lenb_len, flat_len, list_len, ShaM.out4]; done) | (simp [lenb_len, flat_len, list_len, ShaM.out4]; omega)) ?_
   intro r8 v8 w9 hr8 h9
   simp only [lz, ls] at h9
   replace h9 := h9.drop 0
   simp only [ez, es'] at h9
   refine WL.e 1 rfl ?_
   refine WL.nil (WN.blk ?_)
   refine WN.again (⟨k + 1, r8, v8⟩ : Nat × Res × Value) (by show _ - (k + 1) < _ - k; omega) ⟨rfl, rfl, trivial⟩ ⟨by show k + 1 ≤ _; omega, ?_, h9⟩
   have := hr8
   rwa [List.append_assoc, ← List.replicate_succ'] at this
 ·try simp only [dt, df, nt, nf, ba, il, ie] at c6
  first
  |(exfalso; omega)
  |skip
   refine WC.exit (WX.thn (WX.cut (WX.hit (WN.thn (WC.seq ?_)))))
   refine WC.seq (WC.reg ?_)
   refine WL.e 1 rfl ?_
   refine WL.nil (WN.thn (WC.block ?_))
   refine WC.loop (σ := Nat × Res × Value) (fun q_ => [(0, .string s), (3, q_.2.2), (4, .int .i64 (56 - 8 * (q_.1 : Int)))]) (fun q_ w => q_.1 ≤ 8 ∧ Row 5 V8 q_.2.1 q_.2.2 ((S ++ [0x80] ++ List.replicate (ShaM.pads S.length) 0) ++ ShaM.lenb S.length q_.1) ∧ St W F (q_.2.1 :: cs) w) (fun q_ => 8 - q_.1) (⟨0, r, _⟩) (by repeat (first | exact trivial | refine ⟨rfl, ?_⟩)) (⟨by omega, by obtain rfl : k = ShaM.pads S.length := (by omega); simpa [ShaM.lenb] using hrb, hL⟩) ?_
   rintro ⟨i, r, v⟩ w10 ⟨hi, hrb, hL⟩
   try dsimp only at hi hrb hL
   refine WC.sub (s := [(0, .string s), (3, v), (4, .int .i64 (56 - 8 * (i : Int)))]) (by repeat (first | exact trivial | refine ⟨rfl, ?_⟩)) ?_
   obtain ⟨A, cap, rfl, hcap⟩ := hrb.val
   have hlen : ((S ++ [0x80] ++ List.replicate (ShaM.pads S.length) 0) ++ ShaM.lenb S.length i).length = S.length + 1 + ShaM.pads S.length + i := by simp [lenb_len]; omega
   refine WC.seq (WC.seq (WC.reg ?_))
   refine WL.e 1 rfl ?_
   refine WL.v (Runs.geq rfl rfl) rfl ?_
   refine WL.nil (WN.thn ?_)
   refine WC.cond rfl (fun c11 => ?_) (fun c11 => ?_)
   ·try simp only [dt, df, nt, nf, ba, il, ie] at c11
    first
    |(exfalso; omega)
    |skip
     refine WC.skip (WN.thn (WC.seq (WC.block (WC.reg ?_))))
     refine WL.e 2 rfl ?_
     refine WL.v (Runs.slen Tryz.underlying9 rfl rfl) rfl ?_
     refine WL.v (Runs.muln rfl rfl (by omega)) rfl ?_
     refine WL.e 1 rfl ?_
     refine WL.v (Runs.shr rfl rfl (by omega)) rfl ?_
     refine WL.v (Runs.ito8 Tryz.underlying3 Tryz.underlying5 rfl (m := 8 * s.size / 2 ^ (56 - 8 * i)) (shr_nat (a := 8 * s.size) (by omega) (by omega))) rfl ?_
     refine WL.lit (vs := (([UInt8.ofNat (8 * s.size / 2 ^ (56 - 8 * i))] : List UInt8)).map V8) hL rfl Tryz.underlying120 inf5 rfl rfl rfl rfl rfl ?_
     intro lit31 w12 h12
     refine WL.app (ys := ([UInt8.ofNat (8 * s.size / 2 ^ (56 - 8 * i))] : List UInt8)) 1 h12 rfl rfl rfl rfl Tryz.underlying120 Tryz.underlying120 (.inr ⟨_, rfl⟩) inf5 rfl hrb (Src.lit h12 0 rfl rfl rfl) rfl rfl (by first | omega | (simp [lenb_len, flat_len, list_len, ShaM.out4]; done) | (simp [lenb_len, flat_len, list_len, ShaM.out4]; omega)) (by first | omega | (simp [lenb_len, flat_len, list_len, ShaM.out4]; done) | (simp [lenb_len, flat_len, list_len, ShaM.out4]; omega)) ?_
     intro r13 v13 w14 hr13 h14
     simp only [lz, ls] at h14
     replace h14 := h14.drop 0
     simp only [ez, es'] at h14
     refine WL.e 1 rfl ?_
     refine WL.nil (WN.blk (WN.thn (WC.reg ?_)))
     refine WL.e 1 rfl ?_
     refine WL.v (Runs.subn rfl rfl (by omega)) rfl ?_
     refine WL.e 1 rfl ?_
     refine WL.nil ?_
     refine WN.again (⟨i + 1, r13, v13⟩ : Nat × Res × Value) (by show 8 - (i + 1) < 8 - i; omega) ⟨rfl, rfl, ?_, trivial⟩ ⟨by show i + 1 ≤ 8; omega, ?_, h14⟩
     ·show some (Value.int .i64 (56 - 8 * (i : Int) - 8)) = some (.int .i64 (56 - 8 * ((i + 1 : Nat) : Int)))
      rw [show (56 - 8 * (i : Int) - 8) = 56 - 8 * ((i + 1 : Nat) : Int) by omega]
     ·have := hr13
      rw [← hSl] at this
      rwa [List.append_assoc, ← lenb_succ] at this
   ·try simp only [dt, df, nt, nf, ba, il, ie] at c11
    first
    |(exfalso; omega)
    |skip
     refine WC.exit (WX.thn (WX.cut (WX.hit (WN.thn (WC.seq ?_)))))
     refine WC.reg ?_
     obtain rfl : i = 8 := by omega
     obtain ⟨G, hG1, hG2, hG3⟩ := hL.freeze (i := 0) rfl
     simp only [List.eraseIdx_cons_zero] at hG3
     have hR0 : RdS Kd.u8 G A (ShaM.pad S) := Row.read (f := V8) (hrb : Row _ _ _ _ (ShaM.pad S)) rfl hG2
     refine WL.call can185 rfl rfl (first_c _ hG3) ?_
     rintro _ wf ⟨rfl, hf⟩
     refine ⟨_, rfl, ?_⟩
     refine WL.alloc' rfl hf inf216 ?_
     intro b5 w15 h15
     refine WL.storeAll h15 0 rfl rfl rfl inf216 rfl rfl rfl (Free.zero _) ?_
     intro  w16 h16
     try simp only [lz, ls, ez, es'] at h16
     refine WL.nil (WN.thn (WC.seq (WC.block ?_)))
     refine WC.loop (σ := Nat × D8 × List UInt8 × Option Addr × Nat) (fun q_ => [(3, .slice q_.2.2.2.1 q_.2.2.1.length q_.2.2.2.2), (5, .pointer (some ⟨b5, 0, none⟩))]) (fun q_ w => q_.2.2.1.length = 64 * q_.1 ∧ ShaM.blocks q_.1 q_.2.1 q_.2.2.1 = ShaM.blocks ((ShaM.pad S).length / 64) ShaM.first (ShaM.pad S) ∧ RdS Kd.u8 G q_.2.2.2.1 q_.2.2.1 ∧ q_.2.2.1.length ≤ q_.2.2.2.2 ∧ St W G ([(b5, .cells ((q_.2.1.list).map V32).toArray 216 (0, 0))] :: cs) w) (fun q_ => q_.1) (⟨(ShaM.pad S).length / 64, ShaM.first, ShaM.pad S, A, cap⟩) (by repeat (first | exact trivial | refine ⟨rfl, ?_⟩)) (⟨by show (ShaM.pad S).length = 64 * ((ShaM.pad S).length / 64); rw [pad_len]; omega, rfl, hR0, hcap, h16⟩) ?_
     rintro ⟨n, dd, l, A1, cap'⟩ w17 ⟨hl, hB, hR, hc, hL⟩
     try dsimp only at hl hB hR hc hL
     refine WC.sub (s := [(3, .slice A1 l.length cap'), (5, .pointer (some ⟨b5, 0, none⟩))]) (by repeat (first | exact trivial | refine ⟨rfl, ?_⟩)) ?_
     refine WC.seq (WC.seq (WC.reg ?_))
     refine WL.e 1 rfl ?_
     refine WL.v (Runs.llen Tryz.underlying120 rfl rfl) rfl ?_
     refine WL.v (Runs.gtr rfl rfl) rfl ?_
     refine WL.nil (WN.thn ?_)
     refine WC.cond rfl (fun c18 => ?_) (fun c18 => ?_)
     ·try simp only [dt, df, nt, nf, ba, il, ie] at c18
      first
      |(exfalso; omega)
      |skip
       refine WC.skip (WN.thn (WC.seq (WC.block (WC.reg ?_))))
       obtain ⟨n, rfl⟩ : ∃ m, n = m + 1 := ⟨n - 1, by omega⟩
       obtain ⟨ad, rfl, hrd⟩ := rd1 hR (by omega)
       refine WL.e 1 rfl ?_
       refine WL.v (Runs.lsl_hi Tryz.underlying120 inf5 rfl rfl (n := 64) rfl (by omega)) rfl ?_
       have e64 : (l.take 64).length = 64 := by rw [List.length_take]; omega
       have hb := block_c (bs := l.take 64) (ad := ad) (cap := cap') w17 dd hL (fun i x hx => hrd i x (by rw [List.getElem?_take] at hx; split at hx <;> first | exact hx | cases hx)) e64
       rw [e64] at hb
       refine WL.call can186 rfl rfl hb ?_
       rintro _ wb ⟨rfl, hb2⟩
       refine ⟨_, rfl, ?_⟩
       refine WL.nil (WN.blk (WN.thn (WC.reg ?_)))
       refine WL.e 1 rfl ?_
       refine WL.v (Runs.lsl_lo Tryz.underlying120 inf5 rfl rfl (n := 64) rfl (by omega)) rfl ?_
       refine WL.e 1 rfl ?_
       refine WL.nil ?_
       refine WN.again (⟨n, ShaM.block dd (l.take 64), l.drop 64, (if cap' = 64 then some ad else (some ad).map (·.add (64 * 1))), cap' - 64⟩ : Nat × D8 × List UInt8 × Option Addr × Nat) (by show n < n + 1; omega) ⟨?_, rfl, trivial⟩ ⟨?_, hB, hR.drop 64 (cap := cap') (by omega), ?_, hb2⟩
       ·show _ = some (Value.slice _ (l.drop 64).length _)
        rw [List.length_drop]; rfl
       ·show (l.drop 64).length = 64 * n
        rw [List.length_drop]; omega
       ·show (l.drop 64).length ≤ cap' - 64
        rw [List.length_drop]; omega
     ·try simp only [dt, df, nt, nf, ba, il, ie] at c18
      first
      |(exfalso; omega)
      |skip
       refine WC.exit (WX.thn (WX.cut (WX.hit (WN.thn (WC.seq ?_)))))
       refine WC.reg ?_
       refine WL.e 1 rfl ?_
       refine WL.nil (WN.thn (WC.seq (WC.seq (WC.reg ?_))))
       obtain rfl : n = 0 := by omega
       obtain rfl : dd = ShaM.blocks ((ShaM.pad S).length / 64) ShaM.first (ShaM.pad S) := hB
       generalize hD : ShaM.blocks ((ShaM.pad S).length / 64) ShaM.first (ShaM.pad S) = dd at *
       have hN := hL.nilRes
       refine WL.v (Runs.loadAll hL 0 rfl Tryz.underlying216 rfl inf216 rfl rfl) rfl ?_
       refine WL.e 1 rfl ?_
       refine WL.nil (WN.thn (WC.block ?_))
       refine WC.loop (σ := Nat × Res × Value) (fun q_ => [(6, q_.2.2), (42, .agg (dd.list.map V32).toArray), (43, .int .i64 (q_.1 : Int))]) (fun q_ w => q_.1 ≤ 8 ∧ Row 5 V8 q_.2.1 q_.2.2 ((dd.list.take q_.1).flatMap ShaM.out4) ∧ St W G (q_.2.1 :: [(b5, .cells ((dd.list).map V32).toArray 216 (0, 0))] :: cs) w) (fun q_ => 8 - q_.1) (⟨0, [], .slice none 0 0⟩) (by repeat (first | exact trivial | refine ⟨rfl, ?_⟩)) (⟨by omega, Row.nil _ _, hN⟩) ?_
       rintro ⟨i, r, v⟩ w19 ⟨hi, hro, hL⟩
       try dsimp only at hi hro hL
       refine WC.sub (s := [(6, v), (42, .agg (dd.list.map V32).toArray), (43, .int .i64 (i : Int))]) (by repeat (first | exact trivial | refine ⟨rfl, ?_⟩)) ?_
       obtain ⟨A, cap, rfl, hcap⟩ := hro.val
       have hlen : ((dd.list.take i).flatMap ShaM.out4).length = 4 * i := by rw [flat_len, List.length_take, list_len]; omega
       refine WC.seq (WC.reg ?_)
       refine WL.v (Runs.lss rfl rfl) rfl ?_
       refine WL.nil (WN.thn (WC.seq ?_))
       refine WC.cond rfl (fun c20 => ?_) (fun c20 => ?_)
       ·try simp only [dt, df, nt, nf, ba, il, ie] at c20
        first
        |(exfalso; omega)
        |skip
         refine WC.skip (WN.thn (WC.seq (WC.block (WC.seq (WC.reg ?_)))))
         refine WL.v (Runs.aggIdx Tryz.underlying216 Tryz.underlying199 rfl inf199 rfl rfl (n := i) rfl (by omega) (u := V32 (dd.list.getD i 0)) (by have : i < dd.list.length := (by rw [list_len]; omega); simp [List.getD_eq_getElem?_getD, List.getElem?_eq_getElem this])) rfl ?_
         refine WL.e 1 rfl ?_
         refine WL.nil (WN.thn (WC.reg ?_))
         refine WL.e 2 rfl ?_
         refine WL.v (Runs.shr32 rfl rfl (by decide)) rfl ?_
         refine WL.v (Runs.to8 Tryz.underlying199 Tryz.underlying5 rfl) rfl ?_
         refine WL.e 1 rfl ?_
         refine WL.v (Runs.shr32 rfl rfl (by decide)) rfl ?_
         refine WL.v (Runs.to8 Tryz.underlying199 Tryz.underlying5 rfl) rfl ?_
         refine WL.e 1 rfl ?_
         refine WL.v (Runs.shr32 rfl rfl (by decide)) rfl ?_
         refine WL.v (Runs.to8 Tryz.underlying199 Tryz.underlying5 rfl) rfl ?_
         refine WL.e 1 rfl ?_
         refine WL.v (Runs.to8 Tryz.underlying199 Tryz.underlying5 rfl) rfl ?_
         refine WL.lit (vs := (ShaM.out4 (dd.list.getD i 0)).map V8) hL rfl Tryz.underlying120 inf5 rfl rfl rfl rfl rfl ?_
         intro lit58 w21 h21
         refine WL.app (ys := ShaM.out4 (dd.list.getD i 0)) 1 h21 rfl rfl rfl rfl Tryz.underlying120 Tryz.underlying120 (.inr ⟨_, rfl⟩) inf5 rfl hro (Src.lit h21 0 rfl rfl rfl) rfl rfl (by first | omega | (simp [lenb_len, flat_len, list_len, ShaM.out4]; done) | (simp [lenb_len, flat_len, list_len, ShaM.out4]; omega)) (by first | omega | (simp [lenb_len, flat_len, list_len, ShaM.out4]; done) | (simp [lenb_len, flat_len, list_len, ShaM.out4]; omega)) ?_
         intro r22 v22 w23 hr22 h23
         simp only [lz, ls] at h23
         replace h23 := h23.drop 0
         simp only [ez, es'] at h23
         refine WL.e 1 rfl ?_
         refine WL.nil (WN.blk (WN.thn (WC.reg ?_)))
         refine WL.v (Runs.addn rfl rfl (by omega)) rfl ?_
         refine WL.e 1 rfl ?_
         refine WL.nil ?_
         refine WN.again (⟨i + 1, r22, v22⟩ : Nat × Res × Value) (by show 8 - (i + 1) < 8 - i; omega) ⟨rfl, rfl, rfl, trivial⟩ ⟨by show i + 1 ≤ 8; omega, ?_, h23⟩
         have := hr22
         rwa [← take_flat (by rw [list_len]; omega)] at this
       ·try simp only [dt, df, nt, nf, ba, il, ie] at c20
        first
        |(exfalso; omega)
        |skip
         refine WC.exit (WX.thn (WX.cut (WX.hit (WN.thn (WC.seq ?_)))))
         refine WC.reg ?_
         refine WL.e 1 rfl ?_
         obtain rfl : i = 8 := by omega
         refine WL.v (Runs.b2s (bs := dd.list.flatMap ShaM.out4) Tryz.underlying120 Tryz.underlying5 Tryz.underlying9 rfl (by rfl) (hro.wcell hL (i := 0) rfl rfl)) rfl ?_
         refine WL.e 1 rfl ?_
         refine WL.nil (WN.thn (WC.ret ?_))
         refine ret1 rfl rfl ⟨?_, ((hL.drop 0).drop 0).weak hG1⟩
         rw [show ShaM.of S = dd.list.flatMap ShaM.out4 by unfold ShaM.of; rw [hD]]
end Sha
end Go.Proofs.YtifdpllfbaogcaaGreat
namespace Go.Proofs.YtifdpllfbaogcaaGreat
open Go Go.RowKit B
namespace Sha
open ShaM (rotr Wd D8)
theorem inf219 : Inf Tryz.prog 219 (.agg (List.replicate 64 (.int .u8 0)).toArray) 64 64 := by unfold Inf; kernel_rfl
theorem can177 : B.Can Tryz.prog 177 := ⟨_, Tryz.func177, by kernel_rfl, rfl⟩
theorem can178 : B.Can Tryz.prog 178 := ⟨_, Tryz.func178, by kernel_rfl, rfl⟩
theorem dl_mk (l : List UInt8) : (⟨l.toArray⟩ : ByteArray).data.toList = l := by simp
theorem dl_app (a b : ByteArray) : (a ++ b).data.toList = a.data.toList ++ b.data.toList := by simp
theorem size_mk (l : List UInt8) : (⟨l.toArray⟩ : ByteArray).size = l.length := by simp [ByteArray.size]
theorem padded_len (k : List UInt8) (b : UInt8) : (ShaM.padded k b).length = 64 := by simp [ShaM.padded]
theorem of_len (s : List UInt8) : (ShaM.of s).length = 32 := by unfold ShaM.of; rw [flat_len]; rfl
def mix {α : Type} (f : α → α) (L : List α) (i : Nat) : List α := (L.map f).take i ++ L.drop i
theorem mix_len {α : Type} (f : α → α) (L : List α) (i : Nat) (h : i ≤ L.length) : (mix f L i).length = L.length := by simp [mix]; omega
theorem mix_at {α : Type} (f : α → α) (L : List α) (d : α) (i : Nat) (h : i < L.length) : (mix f L i).getD i d = L.getD i d := by
 have : ((L.map f).take i).length = i := by simp; omega
 rw [List.getD_eq_getElem?_getD, List.getD_eq_getElem?_getD, mix, List.getElem?_append_right (by omega), this, List.getElem?_drop]
 simp
theorem mix_set {α : Type} (f : α → α) (L : List α) (d : α) (i : Nat) (h : i < L.length) : (mix f L i).set i (f (L.getD i d)) = mix f L (i + 1) := by
 have h1 : ((L.map f).take i).length = i := by simp; omega
 unfold mix
 rw [List.set_append_right _ _ (by omega), h1, Nat.sub_self, List.take_succ_eq_append_getElem (by simpa using h), List.drop_eq_getElem_cons h, List.set_cons_zero]
 simp [List.getD_eq_getElem?_getD, List.getElem?_eq_getElem h]
theorem mix_all {α : Type} (f : α → α) (L : List α) : mix f L L.length = L.map f := by simp [mix, List.take_of_length_le]
def key0 (S : List UInt8) : List UInt8 := S.take 64 ++ List.replicate (64 - S.length) 0
theorem key0_len (S : List UInt8) : (key0 S).length = 64 := by simp [key0]; omega
theorem key0_map (S : List UInt8) (b : UInt8) : (key0 S).map (· ^^^ b) = ShaM.padded S b := by
 apply List.ext_getElem?
 intro i
 by_cases hi : i < 64
 ·have h1 : i < (key0 S).length := by rw [key0_len]; exact hi
  simp only [ShaM.padded, List.getElem?_map, List.getElem?_range hi, Option.map_some, List.getElem?_eq_getElem h1]
  congr 2
  have : (key0 S)[i]? = some (S.getD i 0) := by
   unfold key0
   by_cases hs : i < S.length
   ·rw [List.getElem?_append_left (by simp; omega), List.getElem?_take_of_lt hi, List.getD_eq_getElem?_getD, List.getElem?_eq_getElem hs]; rfl
   ·have e1 : S[i]? = none := List.getElem?_eq_none (by omega)
    rw [List.getElem?_append_right (by simp; omega), List.getD_eq_getElem?_getD, e1, List.length_take, Nat.min_eq_right (by omega), List.getElem?_replicate, if_pos (by omega)]; rfl
  rw [List.getElem?_eq_getElem h1] at this
  exact Option.some.inj this
 ·rw [List.getElem?_eq_none (by simp [key0_len]; omega), List.getElem?_eq_none (by simp [ShaM.padded]; omega)]
theorem first_str {P : Program} (w : World) (s : ByteArray) (n : Nat) : (Builtin.firstCells 1 n (.string s)).run P w = .ok ((s.data.toList.take n).map V8).toArray w := by
 simp only [Builtin.firstCells, Sem.run, pure]
 congr 1
 apply Array.toList_inj.1
 have : (s.extract 0 n).data.toList = s.data.toList.take n := by simp [ByteArray.data_extract]
 simp [this]
theorem blit_key (S : List UInt8) : blit ((List.replicate 64 (0 : UInt8)).map V8).toArray 0 ((S.take (min S.length 64)).map V8) = ((key0 S).map V8).toArray := by
 apply Array.toList_inj.1
 rw [blit_toList _ _ _ (by simp; omega)]
 have e : S.take (min S.length 64) = S.take 64 := by
  rcases Nat.le_total S.length 64 with h | h
  ·rw [Nat.min_eq_left h, List.take_of_length_le (Nat.le_refl _), List.take_of_length_le h]
  ·rw [Nat.min_eq_right h]
 rw [e]
 simp only [List.take_zero, List.nil_append, Nat.zero_add, List.length_map, List.length_take, List.map_replicate, List.drop_replicate, key0, List.map_append]
 congr 2
 omega
theorem padded_c {W : World} {F : Snap} {cs : List Res} (w : World) (s : ByteArray) (by_ : UInt8) (h : St W F cs w) : Calls Tryz.prog 178 #[.string s, V8 by_] w fun e w' => e = .returned (.string ⟨(ShaM.padded s.data.toList by_).toArray⟩) ∧ St W F cs w'  := by
 refine enter (P := Tryz.prog) (args := [.string s, V8 by_]) Tryz.func178 rfl rfl rfl ?_
 obtain ⟨S, hS⟩ : ∃ S, S = s.data.toList := ⟨_, rfl⟩
 have hSl : S.length = s.size := by rw [hS]; simp
 rw [← hS]
 refine WC.seq (WC.reg ?_)
 refine WL.e 1 rfl ?_
 refine WL.nil (WN.thn (WC.seq (WC.reg ?_)))
 refine WL.alloc' rfl h inf219 ?_
 intro b5 w1 h1
 refine WL.nil (WN.thn (WC.seq (WC.reg ?_)))
 refine WL.v (Runs.asl Tryz.underlying219 inf5 rfl (l := none) (h := none) rfl rfl okb_no) rfl ?_
 refine WL.e 1 rfl ?_
 refine WL.copy (m := s.size) (off := 0) (len := 64) (cap := 64) (src := (S.take (min S.length 64)).map V8) h1 0 rfl rfl Tryz.underlying120 (inf5.elem rfl rfl) rfl rfl rfl (by rw [hSl]; exact hS ▸ first_str _ s _) (by rw [List.all_eq_true]; intro u hu; obtain ⟨x, _, rfl⟩ := List.mem_map.1 hu; rfl) (Free.zero _) (by simp [Value.cells]; omega) ?_
 intro  w2 h2
 try simp only [lz, ls, ez, es'] at h2
 refine WL.nil (WN.thn (WC.seq (WC.seq (WC.reg ?_))))
 refine WL.e 1 rfl ?_
 refine WL.nil (WN.thn (WC.block ?_))
 refine WC.loop (σ := Nat) (fun q_ => [(1, V8 by_), (5, .pointer (some ⟨b5, 0, none⟩)), (10, .int .i64 (q_ : Int))]) (fun q_ w => q_ ≤ 64 ∧ St W F ([(b5, .cells ((mix (· ^^^ by_) (key0 S) q_).map V8).toArray 219 (0, 0))] :: cs) w) (fun q_ => 64 - q_) (0) (by repeat (first | exact trivial | refine ⟨rfl, ?_⟩)) (⟨by omega, by have e : mix (· ^^^ by_) (key0 S) 0 = key0 S := (by simp [mix]); rw [e, ← blit_key]; exact h2⟩) ?_
 rintro i w3 ⟨hi, hL⟩
 try dsimp only at hi hL
 refine WC.sub (s := [(1, V8 by_), (5, .pointer (some ⟨b5, 0, none⟩)), (10, .int .i64 (i : Int))]) (by repeat (first | exact trivial | refine ⟨rfl, ?_⟩)) ?_
 refine WC.seq (WC.reg ?_)
 refine WL.v (Runs.lss rfl rfl) rfl ?_
 refine WL.nil (WN.thn (WC.seq ?_))
 refine WC.cond rfl (fun c4 => ?_) (fun c4 => ?_)
 ·try simp only [dt, df, nt, nf, ba, il, ie] at c4
  first
  |(exfalso; omega)
  |skip
   refine WC.skip (WN.thn (WC.seq (WC.block (WC.seq (WC.reg ?_)))))
   refine WL.e 2 rfl ?_
   refine WL.nil (WN.thn (WC.reg ?_))
   refine WL.e 1 rfl ?_
   refine WL.v (Runs.aidxN Tryz.underlying219 inf5 rfl rfl (n := i) (by omega) (by omega)) rfl ?_
   refine WL.v (Runs.loadArr (0 : UInt8) hL 0 rfl (n := i) (by rw [mix_len _ _ _ (by rw [key0_len]; omega), key0_len]; omega) Tryz.underlying5 rfl rfl) rfl ?_
   refine WL.e 1 rfl ?_
   refine WL.v (Runs.xor8 rfl rfl) rfl ?_
   refine WL.v (Runs.aidxN Tryz.underlying219 inf5 rfl rfl (n := i) (by omega) (by omega)) rfl ?_
   refine WL.storeArr hL 0 rfl rfl rfl inf5 rfl rfl (Free.zero _) (by rw [mix_len _ _ _ (by rw [key0_len]; omega), key0_len]; omega) ?_
   intro  w5 h5
   try simp only [lz, ls, ez, es'] at h5
   refine WL.nil (WN.blk (WN.thn (WC.reg ?_)))
   refine WL.v (Runs.addn rfl rfl (by omega)) rfl ?_
   refine WL.e 1 rfl ?_
   refine WL.nil ?_
   refine WN.again (i + 1) (by omega) ⟨rfl, rfl, rfl, trivial⟩ ⟨by omega, ?_⟩
   rw [← mix_set (· ^^^ by_) (key0 S) 0 i (by rw [key0_len]; omega), ← mix_at (· ^^^ by_) (key0 S) 0 i (by rw [key0_len]; omega)]
   exact h5
 ·try simp only [dt, df, nt, nf, ba, il, ie] at c4
  first
  |(exfalso; omega)
  |skip
   refine WC.exit (WX.thn (WX.cut (WX.hit (WN.thn (WC.seq ?_)))))
   refine WC.reg ?_
   obtain rfl : i = 64 := by omega
   have hm : mix (· ^^^ by_) (key0 S) 64 = ShaM.padded S by_ := by rw [← key0_map, ← mix_all, key0_len]
   rw [hm] at hL
   refine WL.v (Runs.asl Tryz.underlying219 inf5 rfl (l := none) (h := none) rfl rfl okb_no) rfl ?_
   refine WL.v (Runs.b2s (bs := ShaM.padded S by_) Tryz.underlying120 Tryz.underlying5 Tryz.underlying9 rfl (by rw [padded_len]; rfl) (.inr ⟨_, rfl, fun j b hb => by rw [add_mk]; exact hL.ocell (i := 0) rfl (by simp [lo_, hb])⟩)) rfl ?_
   refine WL.e 1 rfl ?_
   refine WL.nil (WN.thn (WC.ret ?_))
   exact ret1 rfl rfl ⟨rfl, hL.drop 0⟩
theorem hmac_c {W : World} {F : Snap} {cs : List Res} (w : World) (key s : ByteArray) (h : St W F cs w) (hk : key.size ≤ 900000) (hs : s.size ≤ 900000) : Calls Tryz.prog 169 #[.string key, .string s] w fun e w' => e = .returned (.string ⟨(ShaM.hmac key.data.toList s.data.toList).toArray⟩) ∧ St W F cs w'  := by
 refine enter (P := Tryz.prog) (args := [.string key, .string s]) Tryz.func169 rfl rfl rfl ?_
 refine WC.seq (WC.reg ?_)
 refine WL.e 1 rfl ?_
 refine WL.nil (WN.thn (WC.seq (WC.seq (WC.reg ?_))))
 refine WL.e 1 rfl ?_
 refine WL.v (Runs.slen Tryz.underlying9 rfl rfl) rfl ?_
 refine WL.v (Runs.gtr rfl rfl) rfl ?_
 refine WL.nil (WN.thn ?_)
 refine WC.cond rfl (fun c1 => ?_) (fun c1 => ?_)
 ·try simp only [dt, df, nt, nf, ba, il, ie] at c1
  first
  |(exfalso; omega)
  |skip
   refine WC.reg ?_
   refine WL.e 1 rfl ?_
   refine WL.call can177 rfl rfl (of_c _ _ h (by first | omega | (simp [ByteArray.size_append, padded_len, of_len, size_mk]; done) | (simp [ByteArray.size_append, padded_len, of_len, size_mk]; omega))) ?_
   rintro _ w2 ⟨rfl, h2⟩
   refine ⟨_, rfl, ?_⟩
   refine WL.e 1 rfl ?_
   refine WL.nil (WN.thn (WC.seq (WC.reg ?_)))
   refine WL.e 1 rfl ?_
   refine WL.call can178 rfl rfl (padded_c _ _ 92 h2) ?_
   rintro _ w3 ⟨rfl, h3⟩
   refine ⟨_, rfl, ?_⟩
   refine WL.e 1 rfl ?_
   refine WL.call can178 rfl rfl (padded_c _ _ 54 h3) ?_
   rintro _ w4 ⟨rfl, h4⟩
   refine ⟨_, rfl, ?_⟩
   refine WL.e 1 rfl ?_
   refine WL.v (Runs.sadd rfl rfl (by simp [padded_len, size_mk]; omega)) rfl ?_
   refine WL.call can177 rfl rfl (of_c _ _ h4 (by first | omega | (simp [ByteArray.size_append, padded_len, of_len, size_mk]; done) | (simp [ByteArray.size_append, padded_len, of_len, size_mk]; omega))) ?_
   rintro _ w5 ⟨rfl, h5⟩
   refine ⟨_, rfl, ?_⟩
   refine WL.v (Runs.sadd rfl rfl (by simp [padded_len, of_len, size_mk])) rfl ?_
   refine WL.call can177 rfl rfl (of_c _ _ h5 (by first | omega | (simp [ByteArray.size_append, padded_len, of_len, size_mk]; done) | (simp [ByteArray.size_append, padded_len, of_len, size_mk]; omega))) ?_
   rintro _ w6 ⟨rfl, h6⟩
   refine ⟨_, rfl, ?_⟩
   refine WL.e 1 rfl ?_
   refine WL.nil (WN.thn (WC.ret ?_))
   refine ret1 rfl rfl ⟨?_, h6⟩
   have hkl : key.data.toList.length = key.size := by simp
   simp only [dl_mk, dl_app, ShaM.hmac, hkl]
   first
   |rw [if_pos (by omega)]
   |rw [if_neg (by omega)]
 ·try simp only [dt, df, nt, nf, ba, il, ie] at c1
  first
  |(exfalso; omega)
  |skip
   refine WC.skip (WN.thn (WC.seq (WC.reg ?_)))
   refine WL.e 1 rfl ?_
   refine WL.call can178 rfl rfl (padded_c _ _ 92 h) ?_
   rintro _ w7 ⟨rfl, h7⟩
   refine ⟨_, rfl, ?_⟩
   refine WL.e 1 rfl ?_
   refine WL.call can178 rfl rfl (padded_c _ _ 54 h7) ?_
   rintro _ w8 ⟨rfl, h8⟩
   refine ⟨_, rfl, ?_⟩
   refine WL.e 1 rfl ?_
   refine WL.v (Runs.sadd rfl rfl (by simp [padded_len, size_mk]; omega)) rfl ?_
   refine WL.call can177 rfl rfl (of_c _ _ h8 (by first | omega | (simp [ByteArray.size_append, padded_len, of_len, size_mk]; done) | (simp [ByteArray.size_append, padded_len, of_len, size_mk]; omega))) ?_
   rintro _ w9 ⟨rfl, h9⟩
   refine ⟨_, rfl, ?_⟩
   refine WL.v (Runs.sadd rfl rfl (by simp [padded_len, of_len, size_mk])) rfl ?_
   refine WL.call can177 rfl rfl (of_c _ _ h9 (by first | omega | (simp [ByteArray.size_append, padded_len, of_len, size_mk]; done) | (simp [ByteArray.size_append, padded_len, of_len, size_mk]; omega))) ?_
   rintro _ w10 ⟨rfl, h10⟩
   refine ⟨_, rfl, ?_⟩
   refine WL.e 1 rfl ?_
   refine WL.nil (WN.thn (WC.ret ?_))
   refine ret1 rfl rfl ⟨?_, h10⟩
   have hkl : key.data.toList.length = key.size := by simp
   simp only [dl_mk, dl_app, ShaM.hmac, hkl]
   first
   |rw [if_pos (by omega)]
   |rw [if_neg (by omega)]
end Sha
end Go.Proofs.YtifdpllfbaogcaaGreat
namespace Go.Proofs.YtifdpllfbaogcaaGreat
open Go Go.RowKit B
namespace Sha
open ShaM (rotr Wd D8)
end Sha
end Go.Proofs.YtifdpllfbaogcaaGreat
namespace Go.Proofs.YtifdpllfbaogcaaGreat
open Go Go.RowKit B
namespace Sha
open ShaM (rotr Wd D8)
end Sha
end Go.Proofs.YtifdpllfbaogcaaGreat
namespace Go.Proofs.YtifdpllfbaogcaaGreat
open Go Go.RowKit B
namespace Sha
open ShaM (rotr Wd D8)
end Sha
end Go.Proofs.YtifdpllfbaogcaaGreat
namespace Go.Proofs.YtifdpllfbaogcaaGreat
open Go Go.RowKit B
namespace Sha
open ShaM (rotr Wd D8)
end Sha
end Go.Proofs.YtifdpllfbaogcaaGreat
namespace Go.Proofs.YtifdpllfbaogcaaGreat
open Go Go.RowKit B
namespace Cr
open Wir (Vi mayN)
theorem node_ge {xs : List Int} {n : Nat} (h : ∀ i, i < n → ndAt xs i) : ∀ i, i < n → (i : Int) ≤ xs.getD i 0
 |0, hi => by
  have := (h 0 hi).1
  have e : lastOf xs 0 = -1 := rfl
  omega
 |i + 1, hi => by
  have h1 := node_ge h i (by omega)
  have h2 := (h (i + 1) hi).1
  have e : lastOf xs (i + 1) = xs.getD i 0 := rfl
  omega
theorem nodes_len {xs : List Int} (h : nodesOk xs) : xs.length ≤ 16 := by
 have h0 := h.2
 have h1 := node_ge h.1 (xs.length - 1) (by omega)
 have h2 := (h.1 (xs.length - 1) (by omega)).2
 omega
end Cr
end Go.Proofs.YtifdpllfbaogcaaGreat
namespace Go.Proofs.YtifdpllfbaogcaaGreat
open Go Go.RowKit B
namespace Cr
open Wir (Vi mayN numB listB)
theorem inf169 : Inf Tryz.prog 169 (.agg #[.int .i64 0, .int .i64 0, .int .i64 0, .int .i64 0, .int .i64 0, .slice none 0 0, .int .i64 0]) 7 72 := by unfold Inf; kernel_rfl
theorem can76 : B.Can Tryz.prog 76 := ⟨_, Tryz.func76, by kernel_rfl, rfl⟩
theorem can175 : B.Can Tryz.prog 175 := ⟨_, Tryz.func175, by kernel_rfl, rfl⟩
theorem can176 : B.Can Tryz.prog 176 := ⟨_, Tryz.func176, by kernel_rfl, rfl⟩
def numsC (c : C) : List Int := [c.jb, c.ep, c.st, c.fr, c.un, c.co]
def encC (c : C) : List UInt8 := if okC c then (numsC c).flatMap numB ++ listB c.nd else []
theorem encC_y {c : C} (h : okC c) : encC c = (numsC c).flatMap numB ++ listB c.nd := if_pos h
theorem encC_n {c : C} (h : ¬ okC c) : encC c = [] := if_neg h
theorem nums_at (c : C) {k : Nat} (hk : k < 6) : (#[Vi c.jb, Vi c.ep, Vi c.st, Vi c.fr, Vi c.un, Vi c.co])[k]? = some (Vi ((numsC c).getD k 0)) := by
 have : k = 0 ∨ k = 1 ∨ k = 2 ∨ k = 3 ∨ k = 4 ∨ k = 5 := by omega
 rcases this with rfl | rfl | rfl | rfl | rfl | rfl <;> rfl
theorem list_len (xs : List Int) : (listB xs).length ≤ 7 + 7 * xs.length := by
 unfold Wir.listB
 have h1 := Wir.numB_len (xs.length : Int)
 have h2 := Wir.flat_len xs
 split
 ·simp
 ·split
  ·rw [List.length_append]; omega
  ·simp
theorem encC_len {c : C} : (encC c).length ≤ 200 := by
 by_cases h : okC c
 ·rw [encC_y h, List.length_append]
  have h1 := list_len c.nd
  have h2 := Wir.flat_len (numsC c)
  have h3 := nodes_len h.2.2.2.2.2.2
  have h4 : (numsC c).length = 6 := rfl
  omega
 ·rw [encC_n h]; exact Nat.zero_le _
theorem chk_0 {c : C} : checkM c = 0 ↔ okC c := by
 unfold checkM
 by_cases h : okC c
 ·rw [if_pos h]; simp [h]
 ·rw [if_neg h]; simp [h]
theorem encode_c {W : World} {F : Snap} {cs : List Res} (w : World) {A : Option Addr} {cap : Nat} {c : C} (h : St W F cs w) (hR : RdS (Kd.one Vi) F A c.nd) (hn : c.nd.length ≤ 100000) : Calls Tryz.prog 168 #[.agg #[Vi c.jb, Vi c.ep, Vi c.st, Vi c.fr, Vi c.un, .slice A c.nd.length cap, Vi c.co]] w fun r w' => r = .returned (.string (bs (encC c))) ∧ St W F cs w'  := by
 refine enter (P := Tryz.prog) (args := [.agg #[Vi c.jb, Vi c.ep, Vi c.st, Vi c.fr, Vi c.un, .slice A c.nd.length cap, Vi c.co]]) Tryz.func168 rfl rfl rfl ?_
 refine WC.seq (WC.reg ?_)
 refine WL.box rfl h rfl ?_
 intro b1 w1 h1
 refine WL.e 1 rfl ?_
 refine WL.nil (WN.thn (WC.seq (WC.seq (WC.reg ?_))))
 refine WL.v (Runs.loadAll h1 0 rfl Tryz.underlying169 rfl inf169 rfl rfl) rfl ?_
 refine WL.call can175 rfl rfl (check_c _ h1 hR (by omega)) ?_
 rintro _ w2 ⟨rfl, h2⟩
 refine ⟨_, rfl, ?_⟩
 refine WL.v (Runs.neq rfl rfl) rfl ?_
 refine WL.nil (WN.thn ?_)
 refine WC.cond rfl (fun c3 => ?_) (fun c3 => ?_)
 ·try simp only [dt, df, nt, nf, ba, il, ie] at c3
  first
  |(exfalso; omega)
  |skip
   refine WC.seq (WC.reg ?_)
   refine WL.e 1 rfl ?_
   refine WL.nil (WN.thn (WC.ret ?_))
   refine ret1 rfl rfl ⟨?_, h2.drop 0⟩
   rw [encC_n (fun hh => c3 (chk_0.2 hh))]; rfl
 ·try simp only [dt, df, nt, nf, ba, il, ie] at c3
  first
  |(exfalso; omega)
  |skip
   refine WC.skip (WN.thn (WC.seq (WC.reg ?_)))
   refine WL.e 1 rfl ?_
   refine WL.nil (WN.thn (WC.seq (WC.seq (WC.reg ?_))))
   refine WL.e 1 rfl ?_
   refine WL.v (Runs.load1 Tryz.underlying3 rfl rfl (h2.ocell (i := 0) rfl rfl)) rfl ?_
   refine WL.e 1 rfl ?_
   refine WL.v (Runs.load1 Tryz.underlying3 rfl rfl (h2.ocell (i := 0) rfl rfl)) rfl ?_
   refine WL.e 1 rfl ?_
   refine WL.v (Runs.load1 Tryz.underlying3 rfl rfl (h2.ocell (i := 0) rfl rfl)) rfl ?_
   refine WL.e 1 rfl ?_
   refine WL.v (Runs.load1 Tryz.underlying3 rfl rfl (h2.ocell (i := 0) rfl rfl)) rfl ?_
   refine WL.e 1 rfl ?_
   refine WL.v (Runs.load1 Tryz.underlying3 rfl rfl (h2.ocell (i := 0) rfl rfl)) rfl ?_
   refine WL.e 1 rfl ?_
   refine WL.v (Runs.load1 Tryz.underlying3 rfl rfl (h2.ocell (i := 0) rfl rfl)) rfl ?_
   refine WL.v (Runs.build (vs := [(0, Vi c.jb), (1, Vi c.ep), (2, Vi c.st), (3, Vi c.fr), (4, Vi c.un), (5, Vi c.co)]) (cells := #[Vi c.jb, Vi c.ep, Vi c.st, Vi c.fr, Vi c.un, Vi c.co]) rfl (by kernel_rfl)) rfl ?_
   refine WL.e 1 rfl ?_
   refine WL.nil (WN.thn (WC.block ?_))
   refine WC.loop (σ := Nat) (fun q_ => [(1, .pointer (some ⟨b1, 0, none⟩)), (3, .string (bs (((numsC c).take q_).flatMap numB))), (21, .agg #[Vi c.jb, Vi c.ep, Vi c.st, Vi c.fr, Vi c.un, Vi c.co]), (22, .int .i64 (q_ : Int))]) (fun q_ w => q_ ≤ 6 ∧ St W F ([(b1, .cells #[Vi c.jb, Vi c.ep, Vi c.st, Vi c.fr, Vi c.un, .slice A c.nd.length cap, Vi c.co] 169 (0, 0))] :: cs) w) (fun q_ => 6 - q_) (0) (by repeat (first | exact trivial | refine ⟨rfl, ?_⟩)) (⟨Nat.zero_le _, h2⟩) ?_
   rintro k w4 ⟨hk, hL⟩
   try dsimp only at hk hL
   refine WC.sub (s := [(1, .pointer (some ⟨b1, 0, none⟩)), (3, .string (bs (((numsC c).take k).flatMap numB))), (21, .agg #[Vi c.jb, Vi c.ep, Vi c.st, Vi c.fr, Vi c.un, Vi c.co]), (22, .int .i64 (k : Int))]) (by repeat (first | exact trivial | refine ⟨rfl, ?_⟩)) ?_
   have hfl := Wir.flat_len ((numsC c).take k)
   rw [List.length_take, show (numsC c).length = 6 from rfl] at hfl
   refine WC.seq (WC.reg ?_)
   refine WL.v (Runs.lss rfl rfl) rfl ?_
   refine WL.nil (WN.thn (WC.seq ?_))
   refine WC.cond rfl (fun c5 => ?_) (fun c5 => ?_)
   ·try simp only [dt, df, nt, nf, ba, il, ie] at c5
    first
    |(exfalso; omega)
    |skip
     refine WC.skip (WN.thn (WC.seq (WC.block (WC.seq (WC.reg ?_)))))
     refine WL.v (Runs.intT (n := (numsC c).getD k 0) (Runs.aggIdx Tryz.underlying211 Tryz.underlying3 rfl inf3 rfl rfl (n := k) rfl (by omega) (u := Vi ((numsC c).getD k 0)) (nums_at c (by omega))) rfl) rfl ?_
     refine WL.e 1 rfl ?_
     refine WL.nil (WN.thn (WC.reg ?_))
     refine WL.e 2 rfl ?_
     refine WL.call can76 rfl rfl (Wir.wnum_c _ _ hL) ?_
     rintro _ w6 ⟨rfl, h6⟩
     refine ⟨_, rfl, ?_⟩
     refine WL.v (Runs.lsadd rfl rfl (by have := Wir.numB_len ((numsC c).getD k 0); omega)) rfl ?_
     refine WL.e 1 rfl ?_
     refine WL.nil (WN.blk (WN.thn (WC.reg ?_)))
     refine WL.v (Runs.addn rfl rfl (by omega)) rfl ?_
     refine WL.e 1 rfl ?_
     refine WL.nil ?_
     exact WN.again (k + 1) (by omega) ⟨rfl, (by show some (Value.string _) = some (Value.string _); rw [Wir.flat_take (by show k < 6; omega)]), rfl, rfl, trivial⟩ ⟨by omega, h6⟩
   ·try simp only [dt, df, nt, nf, ba, il, ie] at c5
    first
    |(exfalso; omega)
    |skip
     refine WC.exit (WX.thn (WX.cut (WX.hit (WN.thn (WC.seq ?_)))))
     refine WC.reg ?_
     refine WL.e 2 rfl ?_
     refine WL.v (Runs.load1 Tryz.underlying33 rfl rfl (hL.ocell (i := 0) rfl rfl)) rfl ?_
     refine WL.call can176 rfl rfl (Wir.wlist_c _ hL hR hn) ?_
     rintro _ w7 ⟨rfl, h7⟩
     refine ⟨_, rfl, ?_⟩
     refine WL.v (Runs.lsadd rfl rfl (by have := list_len c.nd; omega)) rfl ?_
     refine WL.e 1 rfl ?_
     refine WL.nil (WN.thn (WC.ret ?_))
     obtain rfl : k = 6 := by omega
     refine ret1 rfl rfl ⟨?_, h7.drop 0⟩
     rw [encC_y (chk_0.1 (by simpa using c3))]; rfl
end Cr
end Go.Proofs.YtifdpllfbaogcaaGreat
namespace Go.Proofs.YtifdpllfbaogcaaGreat
open Go Go.RowKit B
namespace Cr
open Wir (Vi mayN numB listB rdN rdL rdEnd)
theorem can168 : B.Can Tryz.prog 168 := ⟨_, Tryz.func168, by kernel_rfl, rfl⟩
theorem can169 : B.Can Tryz.prog 169 := ⟨_, Tryz.func169, by kernel_rfl, rfl⟩
theorem bs_dl (l : List UInt8) : (bs l).data.toList = l := by simp [bs]
theorem hmac_len (k s : List UInt8) : (ShaM.hmac k s).length = 32 := by unfold ShaM.hmac; exact Sha.of_len _
theorem hmac_b {W : World} {F : Snap} {cs : List Res} (w : World) (k s : List UInt8) (h : St W F cs w) (hk : k.length ≤ 900000) (hs : s.length ≤ 900000) : Calls Tryz.prog 169 #[.string (bs k), .string (bs s)] w fun e w' => e = .returned (.string (bs (ShaM.hmac k s))) ∧ St W F cs w' := by
 have := Sha.hmac_c w (bs k) (bs s) h (by rw [bs_size]; exact hk) (by rw [bs_size]; exact hs)
 rw [bs_dl, bs_dl] at this
 exact this
def signM (k : List UInt8) (c : C) : List UInt8 := if encC c = [] then [] else encC c ++ ShaM.hmac k (encC c)
theorem sign_c {W : World} {F : Snap} {cs : List Res} (w : World) {A : Option Addr} {cap : Nat} {c : C} (k : List UInt8) (hk : k.length ≤ 900000) (h : St W F cs w) (hR : RdS (Kd.one Vi) F A c.nd) (hn : c.nd.length ≤ 100000) : Calls Tryz.prog 152 #[.string (bs k), .agg #[Vi c.jb, Vi c.ep, Vi c.st, Vi c.fr, Vi c.un, .slice A c.nd.length cap, Vi c.co]] w fun r w' => r = .returned (.string (bs (signM k c))) ∧ St W F cs w'  := by
 refine enter (P := Tryz.prog) (args := [.string (bs k), .agg #[Vi c.jb, Vi c.ep, Vi c.st, Vi c.fr, Vi c.un, .slice A c.nd.length cap, Vi c.co]]) Tryz.func152 rfl rfl rfl ?_
 refine WC.seq (WC.reg ?_)
 refine WL.box rfl h rfl ?_
 intro b3 w1 h1
 refine WL.e 1 rfl ?_
 refine WL.nil (WN.thn (WC.seq (WC.reg ?_)))
 refine WL.v (Runs.loadAll h1 0 rfl Tryz.underlying169 rfl inf169 rfl rfl) rfl ?_
 refine WL.call can168 rfl rfl (encode_c _ h1 hR hn) ?_
 rintro _ w2 ⟨rfl, h2⟩
 refine ⟨_, rfl, ?_⟩
 refine WL.e 1 rfl ?_
 refine WL.nil (WN.thn (WC.seq (WC.seq (WC.reg ?_))))
 refine WL.e 1 rfl ?_
 refine WL.v (Runs.lseql rfl rfl) rfl ?_
 refine WL.nil (WN.thn ?_)
 refine WC.cond rfl (fun c3 => ?_) (fun c3 => ?_)
 ·try simp only [dt, df, nt, nf, ba, il, ie] at c3
  first
  |(exfalso; omega)
  |skip
   refine WC.seq (WC.reg ?_)
   refine WL.e 1 rfl ?_
   refine WL.nil (WN.thn (WC.ret ?_))
   refine ret1 rfl rfl ⟨?_, h2.drop 0⟩
   unfold signM
   rw [if_pos (by simpa using c3)]; try rfl
 ·try simp only [dt, df, nt, nf, ba, il, ie] at c3
  first
  |(exfalso; omega)
  |skip
   refine WC.skip (WN.thn (WC.seq (WC.reg ?_)))
   refine WL.e 3 rfl ?_
   refine WL.call can169 rfl rfl (hmac_b _ k (encC c) h2 hk (by have := encC_len (c := c); omega)) ?_
   rintro _ w4 ⟨rfl, h4⟩
   refine ⟨_, rfl, ?_⟩
   refine WL.v (Runs.lsadd rfl rfl (by have := encC_len (c := c); have := hmac_len k (encC c); omega)) rfl ?_
   refine WL.e 1 rfl ?_
   refine WL.nil (WN.thn (WC.ret ?_))
   refine ret1 rfl rfl ⟨?_, h4.drop 0⟩
   unfold signM
   rw [if_neg (by simpa using c3)]; try rfl
end Cr
end Go.Proofs.YtifdpllfbaogcaaGreat
namespace Go.Proofs.YtifdpllfbaogcaaGreat
open Go Go.RowKit B
namespace Ct
open Dg (S E S0 E0 KS KE chkM settleM readyM overM withM okAll)
open Tal (T TR RR okN)
open Wir (M encB decB mayM mayN numB textB)
open Cr (C signM)
theorem mixed : Tryz.prog.follows .mixedOrders = true := by kernel_rfl
abbrev Vi (n : Int) : Value := .int .i64 n
instance (ns : List Int) : Decidable (Tal.oks ns) := decidable_of_iff ((∀ k, k < ns.length → 0 ≤ ns.getD k 0 ∧ ns.getD k 0 < 16) ∧ ∀ k, k < ns.length - 1 → ns.getD k 0 < ns.getD (k + 1) 0) ⟨fun h => ⟨h.1, fun k hk => h.2 k (by omega)⟩, fun h => ⟨h.1, fun k hk => h.2 k (by omega)⟩⟩
instance (ns : List Int) : Decidable (okN ns) := inferInstanceAs (Decidable (_ ∧ _))
structure J where
 ns : List Int
 ss : List S
 id : Int
 ep : Int
 ph : Int
 ft : Int
 cd : Int
 cs : List Int
 ts : List (Option T)
 rd : List Int
 gn : List Int
 ak : Bool
def J.begin (x : J) : J := { x with ph := 0, ft := 0, cd := 0, cs := List.replicate x.ss.length (-1), ts := List.replicate x.ss.length none, rd := [], gn := [] }
def J.fin (x : J) (ft cd : Int) : J := { x with ph := 2, ft := ft, cd := cd }
def cod (ak : Bool) (c : Int) (o : Option T) : Int :=
 if c ≠ -1 then c else match o with
 |none => if ak then 256 else -1
 |some t => if t.state = 2 then 255 else if t.state = 3 then t.code else -1
def seen (ak : Bool) (cs : List Int) (ts : List (Option T)) : List Int := List.zipWith (cod ak) cs ts
def opn1 (ns : List Int) (ts : List (Option T)) (i : Int) : List (Option T) := if (ts.getD i.toNat none).isNone then ts.set i.toNat (some (T.new ns)) else ts
def opnL (ns : List Int) (ts : List (Option T)) (l : List Int) : List (Option T) := l.foldl (opn1 ns) ts
def J.cs' (x : J) : List Int := settleM x.ss (seen x.ak x.cs x.ts)
def J.mid (x : J) : J := { x with cs := x.cs', ts := opnL x.ns x.ts (readyM x.ss x.cs') }
def J.end_ (x : J) : J := if (overM x.ss x.cs).2 = false then x else if x.ak = true ∨ (overM x.ss x.cs).1 ≠ 0 then x.fin 1 (overM x.ss x.cs).1 else x.fin 0 0
def J.look (x : J) : J := x.mid.end_
def J.ask (x : J) : J := { x with ak := true }
def J.cancel (x : J) : J := if x.ph = 1 then x.ask.look else x.ask
def with_ (l : List Int) (n : Int) : List Int := if n ∈ l then l else l ++ [n]
def J.hasR (x : J) (n : Int) : J := { x with rd := with_ x.rd n }
def J.run (x : J) : J := { x with ph := 1 }
def J.started (x : J) (n a : Int) : J :=
 if a = 0 then if (x.hasR n).rd.length = x.ns.length then (x.hasR n).run.look else x.hasR n
 else if x.ep < 3 then x.fin 2 0 else x.fin 1 0
def says (t : T) (m : M) : Int × T := if m.k = 3 then t.vote m.f (decide (m.ar = 1)) else t.exit m.f m.ar
def J.put (x : J) (i : Nat) (t : T) : J := { x with ts := x.ts.set i (some t) }
def J.said (x : J) (m : M) : Bool × J :=
 if (x.ts.length : Int) ≤ m.st then (false, x) else match x.ts.getD m.st.toNat none with
 |none => (false, x)
 |some t => if (says t m).1 ≠ 0 then (false, x) else (true, (x.put m.st.toNat (says t m).2).look)
def J.hasG (x : J) (n : Int) : J := { x with gn := with_ x.gn n }
def J.left (x : J) (n : Int) : J :=
 if (x.hasG n).gn.length < x.ns.length then x.hasG n
 else if x.ft = 2 then { x.hasG n with ep := x.ep + 1 }.begin else { x.hasG n with ph := 3 }
def J.hear (x : J) (m : M) : Bool × J :=
 if m.k = 1 ∧ x.ph = 0 then (true, x.started m.f m.ar)
 else if (m.k = 3 ∨ m.k = 6) ∧ x.ph = 1 then x.said m
 else if m.k = 9 ∧ x.ph = 2 then (true, x.left m.f)
 else (false, x)
def J.mine (x : J) (m : M) : Prop := m.t = -1 ∧ m.ep = x.ep ∧ m.f ∈ x.ns
instance (x : J) (m : M) : Decidable (x.mine m) := inferInstanceAs (Decidable (_ ∧ _ ∧ _))
def newJ (ns : List Int) (ss : List S) (n : Nat) : J := J.begin ⟨ns, ss, (n : Int) + 1, 0, 0, 0, 0, [], [], [], [], false⟩
def wideM (ss : List S) : Bool := ss.any fun s => decide (256 < s.rk * s.per)
def subE (js : List J) (ns : List Int) (ss : List S) : Int := if ¬ okN ns then 1 else if chkM ss ≠ 0 then chkM ss else if wideM ss = true then 1 else if js.length = 16 then 6 else 0
def subM (js : List J) (ns : List Int) (ss : List S) : (Int × Int) × List J := if subE js ns ss = 0 then (((js.length : Int) + 1, 0), js ++ [newJ ns ss js.length]) else ((0, subE js ns ss), js)
def at_ (js : List J) (id : Int) : Option Nat := if id < 1 ∨ (js.length : Int) < id then none else some (id - 1).toNat
def canM (js : List J) (id : Int) : Int × List J := match at_ js id with
 |none => (1, js)
 |some i => match js[i]? with
  |none => (1, js)
  |some x => if 2 ≤ x.ph then (14, js) else (0, js.set i x.cancel)
def delM (js : List J) (l : List UInt8) : Bool × List J := if (decB l).2 ≠ 0 then (false, js) else match at_ js (decB l).1.j with
 |none => (false, js)
 |some i => match js[i]? with
  |none => (false, js)
  |some x => if x.mine (decB l).1 then ((x.hear (decB l).1).1, js.set i (x.hear (decB l).1).2) else (false, js)
def packM (cr : List UInt8) (s : S) : List UInt8 := textB cr ++ numB s.rk ++ numB s.per ++ numB s.ds ++ numB s.lim
def J.cred (x : J) (i : Nat) (now : Int) : C := ⟨x.id, x.ep, i, now, IntKind.i64.wrap (now + 8), x.ns, (x.ss.getD i S0).rk * (x.ss.getD i S0).per⟩
def J.order (x : J) (key : List UInt8) (i : Nat) (now : Int) : List UInt8 := packM (signM key (x.cred i now)) (x.ss.getD i S0)
def J.msg (x : J) (k n : Int) (i : Nat) (tx : List UInt8) : M := ⟨k, -1, n, x.id, x.ep, i, 0, tx⟩
def J.stepO (x : J) (key : List UInt8) (now : Int) (i : Nat) : List M := match x.ts.getD i none with
 |none => []
 |some t =>
  if t.state = 0 then t.missing.map fun n => x.msg 2 n i (x.order key i now)
  else if t.state = 1 then t.missing.flatMap fun n => x.msg 4 n i [] :: (if x.ak = true then [x.msg 7 n i []] else [])
  else if t.state = 2 then x.ns.map fun n => x.msg 5 n i []
  else []
def J.stepsO (x : J) (key : List UInt8) (now : Int) : List M := (List.range x.ts.length).flatMap (x.stepO key now)
def no2 (o : Option T) : Bool := match o with
 |none => false
 |some t => decide (t.state = 2)
def J.abrt (x : J) (n : Int) : List M := ((List.range x.ts.length).filter fun i => no2 (x.ts.getD i none)).map fun i => x.msg 5 n i []
def J.lastO (x : J) : List M := (x.ns.filter fun n => decide (n ∉ x.gn)).flatMap fun n => x.abrt n ++ [x.msg 8 n 0 []]
def J.firstO (x : J) : List M := (x.ns.filter fun n => decide (n ∉ x.rd)).map fun n => x.msg 0 n 0 []
def J.out (x : J) (key : List UInt8) (now : Int) : List M := if x.ph = 0 then x.firstO else if x.ph = 1 then x.stepsO key now else if x.ph = 2 then x.lastO else []
def outM (js : List J) (key : List UInt8) (now : Int) : List (List UInt8) := (js.flatMap fun x => x.out key now).map encB
structure J.ok (x : J) : Prop where
 ns : okN x.ns
 ss : chkM x.ss = 0
 wd : wideM x.ss = false
 id : 1 ≤ x.id ∧ x.id ≤ 16
 ep : 0 ≤ x.ep ∧ x.ep ≤ 3
 rq : x.ft = 2 → x.ep < 3
 ph : 0 ≤ x.ph ∧ x.ph ≤ 3
 lc : x.cs.length = x.ss.length
 lt : x.ts.length = x.ss.length
 cv : ∀ c ∈ x.cs, -1 ≤ c ∧ c ≤ 256
 tv : ∀ t, some t ∈ x.ts → t.ns = x.ns ∧ t.vs.length = t.ns.length ∧ t.cs.length = t.ns.length ∧ ∀ c, some c ∈ t.cs → 0 ≤ c ∧ c ≤ 255
 rn : ∀ n ∈ x.rd, n ∈ x.ns
 gn : ∀ n ∈ x.gn, n ∈ x.ns
end Ct
end Go.Proofs.YtifdpllfbaogcaaGreat
