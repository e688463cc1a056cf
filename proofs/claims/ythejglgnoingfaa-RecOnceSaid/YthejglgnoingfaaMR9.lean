/- Walks of package rec: Fold. -/
import Derived.Test.YthejglgnoingfaaProg
import Derived.KernelRfl
import Derived.Test.YthejglgnoingfaaMBaseAH
import Derived.Test.YthejglgnoingfaaMR8
namespace Go.Proofs.Ythejglgnoingfaa
open Go Go.RowKit B
set_option linter.unusedVariables false
set_option linter.unusedSimpArgs false
namespace Rc

theorem can18 : B.Can Try.prog 18 := ⟨_, Try.func18, by kernel_rfl, rfl⟩   -- roundhouse/rec.Apply
def R0 : R := ⟨0, 0, 0, 0, 0, []⟩
def KR : Kd R := ⟨6, fun F x c => ∃ A cap, c = [Vi x.kd, Vi x.jb, Vi x.ep, Vi x.st, Vi x.ar, .slice A x.ls.length cap] ∧ RdS (Kd.one Vi) F A x.ls, fun h => by obtain ⟨_, _, rfl, _⟩ := h; rfl, fun hle h => by obtain ⟨A, cap, h1, h2⟩ := h; exact ⟨A, cap, h1, h2.mono hle⟩⟩
structure fewN (n : Nat) (z : Z) : Prop where
  j : z.js.length ≤ n
  s : z.ss.length ≤ n
  p : ∀ x ∈ z.ss, x.ps.length ≤ 100000
theorem fewN.few {n : Nat} {z : Z} (h : fewN n z) (hn : n ≤ 90000) : few z := ⟨Nat.le_trans h.j hn, Nat.le_trans h.s hn, h.p⟩
theorem fewN0 : fewN 0 Z0 := ⟨Nat.le_refl _, Nat.le_refl _, fun x hx => by cases hx⟩
theorem fewN.up {n : Nat} {z : Z} (h : fewN n z) : fewN (n + 1) z := ⟨Nat.le_succ_of_le h.j, Nat.le_succ_of_le h.s, h.p⟩
theorem fewN.ap {n : Nat} {z : Z} (h : fewN n z) {x : Rc.J} {dr : Bool} : fewN (n + 1) { z with js := z.js ++ [x], dr := dr } := ⟨by have := h.j; show (z.js ++ [x]).length ≤ _; simp; omega, Nat.le_succ_of_le h.s, h.p⟩
theorem fewN.next {n : Nat} {z : Z} {r : R} (h : fewN n z) (hr : r.ls.length ≤ 100000) : fewN (n + 1) (applyM z r).1 := by
  unfold applyM
  split
  · unfold doM prologM beginsM turnsM epilogM voidM
    repeat' split
    all_goals first
      | exact h.up
      | exact h.ap
      | (refine ⟨?_, ?_, ?_⟩
         · have := h.j; simp; omega
         · have := h.s; simp; omega
         · intro x hx
           have hp := h.p
           simp only [List.mem_append, List.mem_singleton] at hx
           first
             | (rcases hx with hx | rfl
                · exact hp x hx
                · exact hr)
             | exact hp x hx
             | (rcases List.mem_or_eq_of_mem_set hx with hx | rfl
                · exact hp x hx
                · show (z.ss.getD _ S0).ps.length ≤ _
                  rw [List.getD_eq_getElem?_getD]
                  cases he : z.ss[(sIx z r.jb r.ep r.st).toNat]? with
                  | none => exact Nat.zero_le _
                  | some y => exact hp y (List.mem_of_getElem? he)))
  · exact h.up
theorem drop_at {α : Type} {l : List α} {i : Nat} (d : α) (h : i < l.length) : l.drop i = l.getD i d :: l.drop (i + 1) := by
  rw [List.drop_eq_getElem_cons h, List.getD_eq_getElem?_getD, List.getElem?_eq_getElem h]; rfl
theorem fold_stop {l : List R} {i : Nat} {z : Z} (h : i < l.length) (he : (applyM z (l.getD i R0)).2 ≠ 0) : foldM z (l.drop i) = (z, 0) := by
  rw [drop_at R0 h]
  unfold foldM
  rw [if_neg he]
theorem fold_go {l : List R} {i : Nat} {z : Z} (h : i < l.length) (he : (applyM z (l.getD i R0)).2 = 0) : foldM z (l.drop i) = ((foldM (applyM z (l.getD i R0)).1 (l.drop (i + 1))).1, (foldM (applyM z (l.getD i R0)).1 (l.drop (i + 1))).2 + 1) := by
  rw [drop_at R0 h]
  conv => lhs; unfold foldM
  rw [if_pos he]
theorem fold_end {l : List R} {z : Z} : foldM z (l.drop l.length) = (z, 0) := by
  rw [List.drop_length]; rfl
set_option maxRecDepth 100000 in
set_option maxHeartbeats 4000000 in
theorem fold_c {W : World} {F : Snap} {cs : List Res} (w : World) {A : Option Addr} {cap : Nat} {l : List R} (hl : l.length ≤ 1000) (hls : ∀ r ∈ l, r.ls.length ≤ 100000) (hR : RdS KR F A l) (h : St W F cs w) : Calls Try.prog 29 #[.slice A l.length cap] w fun e w' => ∃ G AJ AS cj cS, Le F G ∧ e = .returned (.tuple #[.agg #[.slice AJ ((((foldM Z0 l).1, ((foldM Z0 l).2 : Int))).1).js.length cj, .slice AS ((((foldM Z0 l).1, ((foldM Z0 l).2 : Int))).1).ss.length cS, .bool ((((foldM Z0 l).1, ((foldM Z0 l).2 : Int))).1).dr], Vi (((foldM Z0 l).1, ((foldM Z0 l).2 : Int))).2]) ∧ ZR G AJ AS (((foldM Z0 l).1, ((foldM Z0 l).2 : Int))).1 ∧ St W G cs w'  := by
  refine enter (P := Try.prog) (args := [.slice A l.length cap]) Try.func29 rfl rfl rfl ?_
  refine WC.seq (WC.reg ?_)
  refine WL.alloc' rfl h inf40 ?_
  intro b2 w1 h1
  refine WL.v (Runs.assign rfl) rfl ?_
  refine WL.nil (WN.thn (WC.seq (WC.reg ?_)))
  refine WL.alloc' rfl h1 inf40 ?_
  intro b4 w2 h2
  refine WL.nil (WN.thn (WC.seq (WC.seq (WC.reg ?_))))
  refine WL.v (Runs.move rfl) rfl ?_
  refine WL.v (Runs.llen Try.underlying65 rfl rfl) rfl ?_
  refine WL.v (Runs.move rfl) rfl ?_
  refine WL.nil (WN.thn (WC.block ?_))
  refine WC.loop (σ := Nat × Snap × Option Addr × Option Addr × Nat × Nat × Z) (fun q_ => [(0, .slice A l.length cap), (2, .pointer (some ⟨b2, 0, none⟩)), (4, .pointer (some ⟨b4, 0, none⟩)), (9, .slice A l.length cap), (10, .int .i64 (l.length : Int)), (11, .int .i64 (q_.1 : Int))]) (fun q_ w => q_.1 ≤ l.length ∧ Le F q_.2.1 ∧ ZR q_.2.1 q_.2.2.1 q_.2.2.2.1 q_.2.2.2.2.2.2 ∧ foldM Z0 l = ((foldM q_.2.2.2.2.2.2 (l.drop q_.1)).1, q_.1 + (foldM q_.2.2.2.2.2.2 (l.drop q_.1)).2) ∧ fewN q_.1 q_.2.2.2.2.2.2 ∧ St W q_.2.1 ([(b4, .cells #[.slice q_.2.2.1 q_.2.2.2.2.2.2.js.length q_.2.2.2.2.1, .slice q_.2.2.2.1 q_.2.2.2.2.2.2.ss.length q_.2.2.2.2.2.1, .bool q_.2.2.2.2.2.2.dr] 40 (0, 0))] :: [(b2, .cells #[.slice none 0 0, .slice none 0 0, .bool false] 40 (0, 0))] :: cs) w) (fun q_ => l.length - q_.1) (⟨0, F, none, none, 0, 0, Z0⟩) (by repeat (first | exact trivial | refine ⟨rfl, ?_⟩)) (⟨Nat.zero_le _, Le.refl F, ⟨.inl rfl, .inl rfl⟩, by simp, fewN0, h2⟩) ?_
  rintro ⟨i, G, AJ, AS, cj, cS, z⟩ w3 ⟨hi, hleG, hZ, hfo, hN, hL⟩
  try dsimp only at hi hleG hZ hfo hN hL
  refine WC.sub (s := [(0, .slice A l.length cap), (2, .pointer (some ⟨b2, 0, none⟩)), (4, .pointer (some ⟨b4, 0, none⟩)), (9, .slice A l.length cap), (10, .int .i64 (l.length : Int)), (11, .int .i64 (i : Int))]) (by repeat (first | exact trivial | refine ⟨rfl, ?_⟩)) ?_
  refine WC.seq (WC.reg ?_)
  refine WL.v (Runs.lss rfl rfl) rfl ?_
  refine WL.nil (WN.thn (WC.seq ?_))
  refine WC.cond rfl (fun c4 => ?_) (fun c4 => ?_)
  · try simp only [dt, df, nt, nf, ba, il, ie] at c4
    first
    | (exfalso; omega)
    | skip
      refine WC.skip (WN.thn (WC.seq (WC.block (WC.seq ?_))))
      have hi2 : i < l.length := by omega
      obtain ⟨ad, c, rfl, ⟨A1, cap1, rfl, hps⟩, hcell⟩ := (hR.mono hleG).atD R0 hi2
      refine WC.reg ?_
      refine WL.v (Runs.move rfl) rfl ?_
      refine WL.v (Runs.lidxK Try.underlying65 inf24 rfl rfl (n := i) rfl hi2) rfl ?_
      refine WL.v (Runs.loadKF hL hcell Try.underlying24 rfl inf24 rfl rfl) rfl ?_
      refine WL.alloc' rfl hL inf24 ?_
      intro b6 w5 h5
      refine WL.v (Runs.assign rfl) rfl ?_
      refine WL.storeAll h5 0 rfl rfl rfl inf24 rfl rfl rfl (Free.zero _) ?_
      intro  w6 h6
      try simp only [lz, ls, ez, es'] at h6
      refine WL.nil (WN.thn (WC.seq (WC.reg ?_)))
      refine WL.v (Runs.loadAll h6 1 rfl Try.underlying40 rfl inf40 rfl rfl) rfl ?_
      refine WL.v (Runs.loadAll h6 0 rfl Try.underlying24 rfl inf24 rfl rfl) rfl ?_
      refine WL.call can18 rfl rfl (apply_c _ hps (hls _ (memD R0 hi2)) (hN.few (by omega)) hZ h6) ?_
      rintro _ w7 ⟨G7, AJ7, AS7, cj7, cS7, hG7, rfl, hZ7, h7⟩
      refine ⟨_, rfl, ?_⟩
      replace hleG := Le.trans hleG hG7
      replace hZ := hZ.mono hG7
      refine WL.v (Runs.move rfl) rfl ?_
      refine WL.v (Runs.extract rfl rfl) rfl ?_
      refine WL.v (Runs.extract rfl rfl) rfl ?_
      refine WL.alloc' rfl h7 inf40 ?_
      intro b7 w8 h8
      refine WL.storeAll h8 0 rfl rfl rfl inf40 rfl rfl rfl (Free.zero _) ?_
      intro  w9 h9
      try simp only [lz, ls, ez, es'] at h9
      refine WL.v (Runs.assign rfl) rfl ?_
      refine WL.nil (WN.thn (WC.seq (WC.seq (WC.reg ?_))))
      refine WL.v (Runs.move rfl) rfl ?_
      refine WL.v (Runs.neq rfl rfl) rfl ?_
      refine WL.nil (WN.thn ?_)
      refine WC.cond rfl (fun c10 => ?_) (fun c10 => ?_)
      · try simp only [dt, df, nt, nf, ba, il, ie] at c10
        first
        | (exfalso; omega)
        | skip
          refine WC.seq (WC.reg ?_)
          refine WL.v (Runs.loadAll h9 2 rfl Try.underlying40 rfl inf40 rfl rfl) rfl ?_
          refine WL.v (Runs.move rfl) rfl ?_
          refine WL.storeAll h9 3 rfl rfl rfl inf40 rfl rfl rfl (Free.zero _) ?_
          intro  w11 h11
          try simp only [lz, ls, ez, es'] at h11
          refine WL.v (Runs.assign rfl) rfl ?_
          refine WL.nil (WN.thn (WC.ret ?_))
          refine retB rfl (ResOk.blk h11 3 rfl Try.underlying40 rfl inf40 rfl rfl) (show lk _ _ = _ from rfl) ⟨_, AJ, AS, cj, cS, hleG, by rw [hfo, fold_stop hi2 c10] <;> rfl, by rw [hfo, fold_stop hi2 c10]; exact hZ, ((((h11.drop 0).drop 0).drop 0).drop 0)⟩
      · try simp only [dt, df, nt, nf, ba, il, ie] at c10
        first
        | (exfalso; omega)
        | skip
          refine WC.skip (WN.thn (WC.reg ?_))
          refine WL.v (Runs.loadAll h9 0 rfl Try.underlying40 rfl inf40 rfl rfl) rfl ?_
          refine WL.storeAll h9 2 rfl rfl rfl inf40 rfl rfl rfl (Free.zero _) ?_
          intro  w12 h12
          try simp only [lz, ls, ez, es'] at h12
          refine WL.nil (WN.blk (WN.thn (WC.reg ?_)))
          refine WL.v (Runs.addn rfl rfl (by omega)) rfl ?_
          refine WL.v (Runs.move rfl) rfl ?_
          refine WL.nil ?_
          have hok := c10
          exact WN.again (⟨i + 1, G7, AJ7, AS7, cj7, cS7, (applyM z (l.getD i R0)).1⟩ : Nat × Snap × Option Addr × Option Addr × Nat × Nat × Z) (by show l.length - (i + 1) < l.length - i; omega) ⟨rfl, rfl, rfl, rfl, rfl, rfl,  trivial⟩ ⟨by show i + 1 ≤ _; omega, hleG, hZ7, by rw [hfo, fold_go hi2 (by simpa using hok)]; exact Prod.ext rfl (show i + ((foldM (applyM z (l.getD i R0)).1 (l.drop (i + 1))).2 + 1) = i + 1 + (foldM (applyM z (l.getD i R0)).1 (l.drop (i + 1))).2 by omega), hN.next (hls _ (memD R0 hi2)), ((h12.drop 1).drop 0)⟩
  · try simp only [dt, df, nt, nf, ba, il, ie] at c4
    first
    | (exfalso; omega)
    | skip
      refine WC.exit (WX.thn (WX.cut (WX.hit (WN.thn (WC.seq ?_)))))
      refine WC.reg ?_
      refine WL.v (Runs.loadAll hL 0 rfl Try.underlying40 rfl inf40 rfl rfl) rfl ?_
      refine WL.v (Runs.move rfl) rfl ?_
      refine WL.v (Runs.llen Try.underlying65 rfl rfl) rfl ?_
      refine WL.storeAll hL 1 rfl rfl rfl inf40 rfl rfl rfl (Free.zero _) ?_
      intro  w13 h13
      try simp only [lz, ls, ez, es'] at h13
      refine WL.v (Runs.assign rfl) rfl ?_
      refine WL.nil (WN.thn (WC.ret ?_))
      obtain rfl : i = l.length := by omega
      refine retB rfl (ResOk.blk h13 1 rfl Try.underlying40 rfl inf40 rfl rfl) (show lk _ _ = _ from rfl) ⟨_, AJ, AS, cj, cS, hleG, by rw [hfo, fold_end] <;> rfl, by rw [hfo, fold_end]; exact hZ, ((h13.drop 0).drop 0)⟩
end Rc
end Go.Proofs.Ythejglgnoingfaa
