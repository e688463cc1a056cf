/- What a credential allows. -/
import Derived.Test.YtbkfjedecepfoaaMC7
namespace Go.Proofs.Ytbkfjedecepfoaa
open Go Go.RowKit B
set_option linter.unusedVariables false
set_option linter.unusedSimpArgs false
namespace Cr
open Wir (Vi mayN numB listB rdN rdL rdEnd)

theorem inf66 : Inf Try.prog 66 (.agg #[.int .i64 0, .nilFunc]) 2 16 := by unfold Inf; kernel_rfl
theorem fld66_0 : fldB Try.prog 66 0 0 = true := by kernel_rfl
theorem fld66_1 : fldB Try.prog 66 1 1 = true := by kernel_rfl
theorem can43 : B.Can Try.prog 43 := ⟨_, Try.func43, by kernel_rfl, rfl⟩   -- roundhouse/cred.Allows$1
theorem can44 : B.Can Try.prog 44 := ⟨_, Try.func44, by kernel_rfl, rfl⟩   -- roundhouse/cred.Allows$2
theorem can45 : B.Can Try.prog 45 := ⟨_, Try.func45, by kernel_rfl, rfl⟩   -- roundhouse/cred.Allows$3
theorem can47 : B.Can Try.prog 47 := ⟨_, Try.func47, by kernel_rfl, rfl⟩   -- roundhouse/cred.Allows$4
def ruleE : Nat → Int
  | 0 => 1
  | 1 => 9
  | 2 => 9
  | 3 => 8
  | _ => 0
theorem al_at {c : C} {a : Q} {k : Nat} (hk : k < 4) (h : ∀ j, j < k → ruleB c a j = true) (h2 : ruleB c a k = false) : allowsM c a = ruleE k := by
  have : k = 0 ∨ k = 1 ∨ k = 2 ∨ k = 3 := by omega
  rcases this with rfl | rfl | rfl | rfl
  · exact al0 (of_decide_eq_false h2)
  · exact al1 (of_decide_eq_true (h 0 (by omega))) (of_decide_eq_false h2)
  · exact al2 (of_decide_eq_true (h 0 (by omega))) (of_decide_eq_true (h 1 (by omega))) (of_decide_eq_false h2)
  · exact al3 (of_decide_eq_true (h 0 (by omega))) (of_decide_eq_true (h 1 (by omega))) (of_decide_eq_true (h 2 (by omega))) (of_decide_eq_false h2)
theorem al_all {c : C} {a : Q} (h : ∀ j, j < 4 → ruleB c a j = true) : allowsM c a = 0 :=
  al4 (of_decide_eq_true (h 0 (by omega))) (of_decide_eq_true (h 1 (by omega))) (of_decide_eq_true (h 2 (by omega))) (of_decide_eq_true (h 3 (by omega)))
theorem Runs.loadAt {W : World} {F : Snap} {cs : List Res} {P : Program} {sl : Sl} {w : World} {t T : TypeId} {x : Operand} {zv u v : Value} {bytes b off : Nat} {arr : Array Value} {tt : TypeId} {fz : Nat × Nat} {d : TypeDesc} (h : St W F cs w) (i : Nat) (hi : cs[i]? = some [(b, .cells arr tt fz)]) (hu : P.underlying T = some d) (hs : scal d = false) (hT : Inf P T zv 2 bytes) (hx : evs sl x = some (.pointer (some ⟨b, off, none⟩))) (h0 : arr[off]? = some u) (h1 : arr[off + 1]? = some v) : Runs P sl (.load T x) t w (.agg #[u, v]) := by
  obtain ⟨ti, e1, _, e3, _⟩ := hT.get
  refine Runs.loadA (vs := [u, v]) hu hs e1 (by rw [e3]; rfl) hx (fun j y hy => ?_)
  rw [add_mk]
  match j, hy with
  | 0, hy => obtain rfl : u = y := by simpa using hy
             exact h.ocell hi h0
  | 1, hy => obtain rfl : v = y := by simpa using hy
             exact h.ocell hi h1
set_option maxRecDepth 100000 in
set_option maxHeartbeats 8000000 in
theorem allows_c {W : World} {F : Snap} {cs : List Res} (w : World) {A : Option Addr} {cap : Nat} {c : C} (a : Q) (h : St W F cs w) (hR : RdS (Kd.one Vi) F A c.nd) (hn : c.nd.length ≤ 100000) : Calls Try.prog 21 #[.agg #[Vi c.jb, Vi c.ep, Vi c.st, Vi c.fr, Vi c.un, .slice A c.nd.length cap, Vi c.co], .agg #[Vi a.jb, Vi a.ep, Vi a.st, Vi a.nd, Vi a.co, Vi a.tm]] w fun r w' => r = .returned (Vi (allowsM c a)) ∧ St W F cs w'  := by
  refine enter (P := Try.prog) (args := [.agg #[Vi c.jb, Vi c.ep, Vi c.st, Vi c.fr, Vi c.un, .slice A c.nd.length cap, Vi c.co], .agg #[Vi a.jb, Vi a.ep, Vi a.st, Vi a.nd, Vi a.co, Vi a.tm]]) Try.func21 rfl rfl rfl ?_
  refine WC.seq ?_
  refine WC.reg ?_
  refine WL.box rfl h rfl ?_
  intro b2 w1 h1
  refine WL.box rfl h1 rfl ?_
  intro b3 w2 h2
  refine WL.v (Runs.assign rfl) rfl ?_
  refine WL.nil ?_
  refine WN.thn ?_
  refine WC.seq ?_
  refine WC.seq ?_
  refine WC.reg ?_
  refine WL.v (Runs.makeFunc rfl rfl) rfl ?_
  refine WL.v (Runs.build (vs := [(0, Vi 1), (1, .func (.func 43) ([] : List Value).toArray [.pointer (some ⟨b2, 0, none⟩)].toArray)]) (cells := #[Vi 1, .func (.func 43) ([] : List Value).toArray [.pointer (some ⟨b2, 0, none⟩)].toArray]) rfl (by kernel_rfl)) rfl ?_
  refine WL.v (Runs.makeFunc rfl rfl) rfl ?_
  refine WL.v (Runs.build (vs := [(0, Vi 9), (1, .func (.func 44) ([] : List Value).toArray [.pointer (some ⟨b2, 0, none⟩), .pointer (some ⟨b3, 0, none⟩)].toArray)]) (cells := #[Vi 9, .func (.func 44) ([] : List Value).toArray [.pointer (some ⟨b2, 0, none⟩), .pointer (some ⟨b3, 0, none⟩)].toArray]) rfl (by kernel_rfl)) rfl ?_
  refine WL.v (Runs.makeFunc rfl rfl) rfl ?_
  refine WL.v (Runs.build (vs := [(0, Vi 9), (1, .func (.func 45) ([] : List Value).toArray [.pointer (some ⟨b2, 0, none⟩), .pointer (some ⟨b3, 0, none⟩)].toArray)]) (cells := #[Vi 9, .func (.func 45) ([] : List Value).toArray [.pointer (some ⟨b2, 0, none⟩), .pointer (some ⟨b3, 0, none⟩)].toArray]) rfl (by kernel_rfl)) rfl ?_
  refine WL.v (Runs.makeFunc rfl rfl) rfl ?_
  refine WL.v (Runs.build (vs := [(0, Vi 8), (1, .func (.func 47) ([] : List Value).toArray [.pointer (some ⟨b3, 0, none⟩), .pointer (some ⟨b2, 0, none⟩)].toArray)]) (cells := #[Vi 8, .func (.func 47) ([] : List Value).toArray [.pointer (some ⟨b3, 0, none⟩), .pointer (some ⟨b2, 0, none⟩)].toArray]) rfl (by kernel_rfl)) rfl ?_
  refine WL.buildSlice (vs := [.agg #[Vi 1, .func (.func 43) ([] : List Value).toArray [.pointer (some ⟨b2, 0, none⟩)].toArray], .agg #[Vi 9, .func (.func 44) ([] : List Value).toArray [.pointer (some ⟨b2, 0, none⟩), .pointer (some ⟨b3, 0, none⟩)].toArray], .agg #[Vi 9, .func (.func 45) ([] : List Value).toArray [.pointer (some ⟨b2, 0, none⟩), .pointer (some ⟨b3, 0, none⟩)].toArray], .agg #[Vi 8, .func (.func 47) ([] : List Value).toArray [.pointer (some ⟨b3, 0, none⟩), .pointer (some ⟨b2, 0, none⟩)].toArray]]) h2 rfl Try.underlying68 (inf66.elem rfl rfl) rfl rfl rfl (by decide) ?_
  intro lit15 w3 h3
  try simp only [List.set_cons_zero, List.set_cons_succ, List.eraseIdx_cons_zero, List.eraseIdx_cons_succ] at h3
  replace h3 : St W F ([(lit15, .cells #[Vi 1, .func (.func 43) ([] : List Value).toArray [.pointer (some ⟨b2, 0, none⟩)].toArray, Vi 9, .func (.func 44) ([] : List Value).toArray [.pointer (some ⟨b2, 0, none⟩), .pointer (some ⟨b3, 0, none⟩)].toArray, Vi 9, .func (.func 45) ([] : List Value).toArray [.pointer (some ⟨b2, 0, none⟩), .pointer (some ⟨b3, 0, none⟩)].toArray, Vi 8, .func (.func 47) ([] : List Value).toArray [.pointer (some ⟨b3, 0, none⟩), .pointer (some ⟨b2, 0, none⟩)].toArray] 66 (0, 0))] :: [(b3, .cells #[Vi a.jb, Vi a.ep, Vi a.st, Vi a.nd, Vi a.co, Vi a.tm] 39 (0, 0))] :: [(b2, .cells #[Vi c.jb, Vi c.ep, Vi c.st, Vi c.fr, Vi c.un, .slice A c.nd.length cap, Vi c.co] 24 (0, 0))] :: cs) w3 := h3
  refine WL.v (Runs.intT (n := 4) (Runs.llen Try.underlying68 rfl rfl) rfl) rfl ?_
  refine WL.v (Runs.move rfl) rfl ?_
  refine WL.nil ?_
  refine WN.thn ?_
  refine WC.block ?_
  refine WC.loop (σ := Nat) (fun q_ => [(15, .slice (some ⟨lit15, 0, none⟩) 4 4), (16, Vi 4), (17, .int .i64 (q_ : Int))]) (fun q_ w => q_ ≤ 4 ∧ (∀ j, j < q_ → ruleB c a j = true) ∧ St W F ([(lit15, .cells #[Vi 1, .func (.func 43) ([] : List Value).toArray [.pointer (some ⟨b2, 0, none⟩)].toArray, Vi 9, .func (.func 44) ([] : List Value).toArray [.pointer (some ⟨b2, 0, none⟩), .pointer (some ⟨b3, 0, none⟩)].toArray, Vi 9, .func (.func 45) ([] : List Value).toArray [.pointer (some ⟨b2, 0, none⟩), .pointer (some ⟨b3, 0, none⟩)].toArray, Vi 8, .func (.func 47) ([] : List Value).toArray [.pointer (some ⟨b3, 0, none⟩), .pointer (some ⟨b2, 0, none⟩)].toArray] 66 (0, 0))] :: [(b3, .cells #[Vi a.jb, Vi a.ep, Vi a.st, Vi a.nd, Vi a.co, Vi a.tm] 39 (0, 0))] :: [(b2, .cells #[Vi c.jb, Vi c.ep, Vi c.st, Vi c.fr, Vi c.un, .slice A c.nd.length cap, Vi c.co] 24 (0, 0))] :: cs) w) (fun q_ => 4 - q_) (0) (by repeat (first | exact trivial | refine ⟨rfl, ?_⟩)) (⟨Nat.zero_le _, fun j hj => absurd hj (Nat.not_lt_zero _), h3⟩) ?_
  rintro k w4 ⟨hk, hall, hL⟩
  try dsimp only at hk hall hL
  refine WC.sub (s := [(15, .slice (some ⟨lit15, 0, none⟩) 4 4), (16, Vi 4), (17, .int .i64 (k : Int))]) (by repeat (first | exact trivial | refine ⟨rfl, ?_⟩)) ?_
  refine WC.seq ?_
  refine WC.reg ?_
  refine WL.v (Runs.lss rfl rfl) rfl ?_
  refine WL.nil ?_
  refine WN.thn ?_
  refine WC.seq ?_
  refine WC.cond rfl (fun c5 => ?_) (fun c5 => ?_)
  · try simp only [decide_eq_true_eq, decide_eq_false_iff_not, Bool.not_eq_true', Bool.not_eq_false', Bool.and_eq_true, Int.not_lt, Int.not_le] at c5
    first
    | (exfalso; omega)
    | skip
      refine WC.skip ?_
      refine WN.thn ?_
      refine WC.seq ?_
      refine WC.block ?_
      refine WC.seq ?_
      obtain rfl | rfl | rfl | rfl : k = 0 ∨ k = 1 ∨ k = 2 ∨ k = 3 := by omega
      · skip
        refine WC.reg ?_
        refine WL.v (Runs.lidxK Try.underlying68 inf66 rfl rfl (n := 0) rfl (by omega)) rfl ?_
        refine WL.v (Runs.loadAt hL 0 rfl Try.underlying66 rfl inf66 rfl (u := Vi 1) (v := .func (.func 43) ([] : List Value).toArray [.pointer (some ⟨b2, 0, none⟩)].toArray) rfl rfl) rfl ?_
        refine WL.alloc' rfl hL inf66 ?_
        intro b6 w6 h6
        refine WL.storeAll h6 0 rfl rfl rfl inf66 rfl rfl rfl (Free.zero _) ?_
        intro  w7 h7
        try simp only [List.set_cons_zero, List.set_cons_succ, List.eraseIdx_cons_zero, List.eraseIdx_cons_succ] at h7
        refine WL.nil ?_
        refine WN.thn ?_
        refine WC.seq ?_
        refine WC.reg ?_
        refine WL.v (Runs.fld fld66_1 rfl) rfl ?_
        refine WL.v (Runs.load1 Try.underlying25 rfl rfl (h7.ocell (i := 0) rfl rfl)) rfl ?_
        refine WL.callv can43 rfl rfl rfl (rule1_c _ a (c := c) (A := A) (cap := cap) (j := 0) (ba := 0) h7 hR hn (i := 3) rfl) ?_
        rintro _ w8 ⟨rfl, h8⟩
        refine ⟨_, rfl, ?_⟩
        refine WL.v (Runs.not rfl) rfl ?_
        refine WL.nil ?_
        refine WN.thn ?_
        refine WC.cond rfl (fun c9 => ?_) (fun c9 => ?_)
        · try simp only [decide_eq_true_eq, decide_eq_false_iff_not, Bool.not_eq_true', Bool.not_eq_false', Bool.and_eq_true, Int.not_lt, Int.not_le] at c9
          first
          | (exfalso; omega)
          | skip
            refine WC.seq ?_
            refine WC.reg ?_
            refine WL.v (Runs.fld fld66_0 rfl) rfl ?_
            refine WL.v (Runs.load1 Try.underlying26 rfl rfl (h8.ocell (i := 0) rfl rfl)) rfl ?_
            refine WL.v (Runs.assign rfl) rfl ?_
            refine WL.nil ?_
            refine WN.thn ?_
            refine WC.ret ?_
            refine ret1 rfl rfl ⟨?_, ((((h8.drop 0).drop 0).drop 0).drop 0)⟩
            rw [al_at (k := 0) (by omega) hall (by simpa using c9)] <;> rfl
        · try simp only [decide_eq_true_eq, decide_eq_false_iff_not, Bool.not_eq_true', Bool.not_eq_false', Bool.and_eq_true, Int.not_lt, Int.not_le] at c9
          first
          | (exfalso; omega)
          | skip
            refine WC.skip ?_
            refine WN.blk ?_
            refine WN.thn ?_
            refine WC.reg ?_
            refine WL.v (Runs.addn rfl rfl (by omega)) rfl ?_
            refine WL.v (Runs.move rfl) rfl ?_
            refine WL.nil ?_
            exact WN.again 1 (by omega) ⟨rfl, rfl, rfl, trivial⟩ ⟨by omega, fun j hj => (by
              by_cases e : j = 0
              · subst e; simpa using c9
              · exact hall j (by omega)), h8.drop 0⟩
      · skip
        refine WC.reg ?_
        refine WL.v (Runs.lidxK Try.underlying68 inf66 rfl rfl (n := 1) rfl (by omega)) rfl ?_
        refine WL.v (Runs.loadAt hL 0 rfl Try.underlying66 rfl inf66 rfl (u := Vi 9) (v := .func (.func 44) ([] : List Value).toArray [.pointer (some ⟨b2, 0, none⟩), .pointer (some ⟨b3, 0, none⟩)].toArray) rfl rfl) rfl ?_
        refine WL.alloc' rfl hL inf66 ?_
        intro b6 w10 h10
        refine WL.storeAll h10 0 rfl rfl rfl inf66 rfl rfl rfl (Free.zero _) ?_
        intro  w11 h11
        try simp only [List.set_cons_zero, List.set_cons_succ, List.eraseIdx_cons_zero, List.eraseIdx_cons_succ] at h11
        refine WL.nil ?_
        refine WN.thn ?_
        refine WC.seq ?_
        refine WC.reg ?_
        refine WL.v (Runs.fld fld66_1 rfl) rfl ?_
        refine WL.v (Runs.load1 Try.underlying25 rfl rfl (h11.ocell (i := 0) rfl rfl)) rfl ?_
        refine WL.callv can44 rfl rfl rfl (rule2_c _ (c := c) (a := a) (A := A) (cap := cap) (i := 3) (j := 2) h11 rfl rfl) ?_
        rintro _ w12 ⟨rfl, h12⟩
        refine ⟨_, rfl, ?_⟩
        refine WL.v (Runs.not rfl) rfl ?_
        refine WL.nil ?_
        refine WN.thn ?_
        refine WC.cond rfl (fun c13 => ?_) (fun c13 => ?_)
        · try simp only [decide_eq_true_eq, decide_eq_false_iff_not, Bool.not_eq_true', Bool.not_eq_false', Bool.and_eq_true, Int.not_lt, Int.not_le] at c13
          first
          | (exfalso; omega)
          | skip
            refine WC.seq ?_
            refine WC.reg ?_
            refine WL.v (Runs.fld fld66_0 rfl) rfl ?_
            refine WL.v (Runs.load1 Try.underlying26 rfl rfl (h12.ocell (i := 0) rfl rfl)) rfl ?_
            refine WL.v (Runs.assign rfl) rfl ?_
            refine WL.nil ?_
            refine WN.thn ?_
            refine WC.ret ?_
            refine ret1 rfl rfl ⟨?_, ((((h12.drop 0).drop 0).drop 0).drop 0)⟩
            rw [al_at (k := 1) (by omega) hall (by simpa using c13)] <;> rfl
        · try simp only [decide_eq_true_eq, decide_eq_false_iff_not, Bool.not_eq_true', Bool.not_eq_false', Bool.and_eq_true, Int.not_lt, Int.not_le] at c13
          first
          | (exfalso; omega)
          | skip
            refine WC.skip ?_
            refine WN.blk ?_
            refine WN.thn ?_
            refine WC.reg ?_
            refine WL.v (Runs.addn rfl rfl (by omega)) rfl ?_
            refine WL.v (Runs.move rfl) rfl ?_
            refine WL.nil ?_
            exact WN.again 2 (by omega) ⟨rfl, rfl, rfl, trivial⟩ ⟨by omega, fun j hj => (by
              by_cases e : j = 1
              · subst e; simpa using c13
              · exact hall j (by omega)), h12.drop 0⟩
      · skip
        refine WC.reg ?_
        refine WL.v (Runs.lidxK Try.underlying68 inf66 rfl rfl (n := 2) rfl (by omega)) rfl ?_
        refine WL.v (Runs.loadAt hL 0 rfl Try.underlying66 rfl inf66 rfl (u := Vi 9) (v := .func (.func 45) ([] : List Value).toArray [.pointer (some ⟨b2, 0, none⟩), .pointer (some ⟨b3, 0, none⟩)].toArray) rfl rfl) rfl ?_
        refine WL.alloc' rfl hL inf66 ?_
        intro b6 w14 h14
        refine WL.storeAll h14 0 rfl rfl rfl inf66 rfl rfl rfl (Free.zero _) ?_
        intro  w15 h15
        try simp only [List.set_cons_zero, List.set_cons_succ, List.eraseIdx_cons_zero, List.eraseIdx_cons_succ] at h15
        refine WL.nil ?_
        refine WN.thn ?_
        refine WC.seq ?_
        refine WC.reg ?_
        refine WL.v (Runs.fld fld66_1 rfl) rfl ?_
        refine WL.v (Runs.load1 Try.underlying25 rfl rfl (h15.ocell (i := 0) rfl rfl)) rfl ?_
        refine WL.callv can45 rfl rfl rfl (rule3_c _ (c := c) (a := a) (A := A) (cap := cap) (i := 3) (j := 2) h15 hR hn rfl rfl) ?_
        rintro _ w16 ⟨rfl, h16⟩
        refine ⟨_, rfl, ?_⟩
        refine WL.v (Runs.not rfl) rfl ?_
        refine WL.nil ?_
        refine WN.thn ?_
        refine WC.cond rfl (fun c17 => ?_) (fun c17 => ?_)
        · try simp only [decide_eq_true_eq, decide_eq_false_iff_not, Bool.not_eq_true', Bool.not_eq_false', Bool.and_eq_true, Int.not_lt, Int.not_le] at c17
          first
          | (exfalso; omega)
          | skip
            refine WC.seq ?_
            refine WC.reg ?_
            refine WL.v (Runs.fld fld66_0 rfl) rfl ?_
            refine WL.v (Runs.load1 Try.underlying26 rfl rfl (h16.ocell (i := 0) rfl rfl)) rfl ?_
            refine WL.v (Runs.assign rfl) rfl ?_
            refine WL.nil ?_
            refine WN.thn ?_
            refine WC.ret ?_
            refine ret1 rfl rfl ⟨?_, ((((h16.drop 0).drop 0).drop 0).drop 0)⟩
            rw [al_at (k := 2) (by omega) hall (by simpa using c17)] <;> rfl
        · try simp only [decide_eq_true_eq, decide_eq_false_iff_not, Bool.not_eq_true', Bool.not_eq_false', Bool.and_eq_true, Int.not_lt, Int.not_le] at c17
          first
          | (exfalso; omega)
          | skip
            refine WC.skip ?_
            refine WN.blk ?_
            refine WN.thn ?_
            refine WC.reg ?_
            refine WL.v (Runs.addn rfl rfl (by omega)) rfl ?_
            refine WL.v (Runs.move rfl) rfl ?_
            refine WL.nil ?_
            exact WN.again 3 (by omega) ⟨rfl, rfl, rfl, trivial⟩ ⟨by omega, fun j hj => (by
              by_cases e : j = 2
              · subst e; simpa using c17
              · exact hall j (by omega)), h16.drop 0⟩
      · skip
        refine WC.reg ?_
        refine WL.v (Runs.lidxK Try.underlying68 inf66 rfl rfl (n := 3) rfl (by omega)) rfl ?_
        refine WL.v (Runs.loadAt hL 0 rfl Try.underlying66 rfl inf66 rfl (u := Vi 8) (v := .func (.func 47) ([] : List Value).toArray [.pointer (some ⟨b3, 0, none⟩), .pointer (some ⟨b2, 0, none⟩)].toArray) rfl rfl) rfl ?_
        refine WL.alloc' rfl hL inf66 ?_
        intro b6 w18 h18
        refine WL.storeAll h18 0 rfl rfl rfl inf66 rfl rfl rfl (Free.zero _) ?_
        intro  w19 h19
        try simp only [List.set_cons_zero, List.set_cons_succ, List.eraseIdx_cons_zero, List.eraseIdx_cons_succ] at h19
        refine WL.nil ?_
        refine WN.thn ?_
        refine WC.seq ?_
        refine WC.reg ?_
        refine WL.v (Runs.fld fld66_1 rfl) rfl ?_
        refine WL.v (Runs.load1 Try.underlying25 rfl rfl (h19.ocell (i := 0) rfl rfl)) rfl ?_
        refine WL.callv can47 rfl rfl rfl (rule4_c _ (c := c) (a := a) (A := A) (cap := cap) (i := 3) (j := 2) h19 rfl rfl) ?_
        rintro _ w20 ⟨rfl, h20⟩
        refine ⟨_, rfl, ?_⟩
        refine WL.v (Runs.not rfl) rfl ?_
        refine WL.nil ?_
        refine WN.thn ?_
        refine WC.cond rfl (fun c21 => ?_) (fun c21 => ?_)
        · try simp only [decide_eq_true_eq, decide_eq_false_iff_not, Bool.not_eq_true', Bool.not_eq_false', Bool.and_eq_true, Int.not_lt, Int.not_le] at c21
          first
          | (exfalso; omega)
          | skip
            refine WC.seq ?_
            refine WC.reg ?_
            refine WL.v (Runs.fld fld66_0 rfl) rfl ?_
            refine WL.v (Runs.load1 Try.underlying26 rfl rfl (h20.ocell (i := 0) rfl rfl)) rfl ?_
            refine WL.v (Runs.assign rfl) rfl ?_
            refine WL.nil ?_
            refine WN.thn ?_
            refine WC.ret ?_
            refine ret1 rfl rfl ⟨?_, ((((h20.drop 0).drop 0).drop 0).drop 0)⟩
            rw [al_at (k := 3) (by omega) hall (by simpa using c21)] <;> rfl
        · try simp only [decide_eq_true_eq, decide_eq_false_iff_not, Bool.not_eq_true', Bool.not_eq_false', Bool.and_eq_true, Int.not_lt, Int.not_le] at c21
          first
          | (exfalso; omega)
          | skip
            refine WC.skip ?_
            refine WN.blk ?_
            refine WN.thn ?_
            refine WC.reg ?_
            refine WL.v (Runs.addn rfl rfl (by omega)) rfl ?_
            refine WL.v (Runs.move rfl) rfl ?_
            refine WL.nil ?_
            exact WN.again 4 (by omega) ⟨rfl, rfl, rfl, trivial⟩ ⟨by omega, fun j hj => (by
              by_cases e : j = 3
              · subst e; simpa using c21
              · exact hall j (by omega)), h20.drop 0⟩
  · try simp only [decide_eq_true_eq, decide_eq_false_iff_not, Bool.not_eq_true', Bool.not_eq_false', Bool.and_eq_true, Int.not_lt, Int.not_le] at c5
    first
    | (exfalso; omega)
    | skip
      refine WC.exit ?_
      refine WX.thn ?_
      refine WX.cut ?_
      refine WX.hit ?_
      refine WN.thn ?_
      refine WC.seq ?_
      refine WC.reg ?_
      refine WL.v (Runs.assign rfl) rfl ?_
      refine WL.nil ?_
      refine WN.thn ?_
      refine WC.ret ?_
      refine ret1 rfl rfl ⟨?_, (((hL.drop 0).drop 0).drop 0)⟩
      rw [al_all (fun j hj => hall j (by omega))]
end Cr
end Go.Proofs.Ytbkfjedecepfoaa
