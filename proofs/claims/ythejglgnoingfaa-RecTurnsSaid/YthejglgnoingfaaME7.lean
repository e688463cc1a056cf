/- The law RecTurns. -/
import Derived.Test.YthejglgnoingfaaProg
import Derived.KernelRfl
import Derived.Test.YthejglgnoingfaaMBaseAH
import Derived.Test.YthejglgnoingfaaME5
namespace Go.Proofs.Ythejglgnoingfaa
open Go Go.RowKit B
set_option linter.unusedVariables false
set_option linter.unusedSimpArgs false
namespace Rc
open Wir (numB listB rdN rdL rdEnd)


def Turn (z y : Z) : Prop := (z.dr = true → y.dr = true) ∧ ((∃ x, y.js = z.js ++ [x] ∧ y.ss = z.ss) ∨ (∃ i x, i < z.js.length ∧ y.js = z.js.set i x ∧ z.js.getD i J0 ≠ x ∧ y.ss = z.ss) ∨ (∃ x, y.ss = z.ss ++ [x] ∧ y.js = z.js) ∨ (∃ i x, i < z.ss.length ∧ y.ss = z.ss.set i x ∧ z.ss.getD i S0 ≠ x ∧ y.js = z.js))
def TurnQ (z : Z) (q : Z × Int) : Prop := (q.2 = 0 → Turn z q.1) ∧ (q.2 ≠ 0 → q.1 = z)
theorem TurnQ.no {z : Z} {n : Int} (h : n ≠ 0) : TurnQ z (z, n) := ⟨fun hh => absurd hh h, fun _ => rfl⟩
theorem TurnQ.yes {z y : Z} (h : Turn z y) : TurnQ z (y, 0) := ⟨fun _ => h, fun hh => absurd rfl hh⟩
theorem begins_turn {z : Z} {r : R} {ph : Int} : TurnQ z (beginsM z r ph) := by
  unfold beginsM
  split
  · exact .no (by decide)
  · exact .yes ⟨id, .inr (.inr (.inl ⟨_, rfl, rfl⟩))⟩
theorem turns_turn {z : Z} {r : R} {fr to : Int} (hne : fr ≠ to) : TurnQ z (turnsM z r fr to) := by
  unfold turnsM
  split
  · exact .no (by decide)
  · rename_i c
    rcases ix_at (sAt r.jb r.ep r.st) z.ss S0 with ⟨h1, _⟩ | ⟨i, hi, h1, _⟩
    · exact absurd (.inl (by show ix _ _ < 0; rw [h1]; decide)) c
    · have h2 : sIx z r.jb r.ep r.st = (i : Int) := h1
      have c2 : (z.ss.getD (sIx z r.jb r.ep r.st).toNat S0).ph = fr := Classical.byContradiction fun hh => c (.inr hh)
      rw [h2, Int.toNat_natCast] at c2 ⊢
      refine .yes ⟨id, .inr (.inr (.inr ⟨i, _, hi, rfl, fun he => ?_, rfl⟩))⟩
      have := congrArg S.ph he
      exact hne (c2.symm.trans this)
theorem epilog_turn {z : Z} {r : R} : TurnQ z (epilogM z r) := by
  unfold epilogM
  split
  · exact .no (by decide)
  · rename_i c
    rcases ix_at (jAt r.jb r.ep) z.js J0 with ⟨h1, _⟩ | ⟨i, hi, h1, _⟩
    · exact absurd (.inl (by show ix _ _ < 0; rw [h1]; decide)) c
    · have h2 : jIx z r.jb r.ep = (i : Int) := h1
      have c2 : (z.js.getD (jIx z r.jb r.ep).toNat J0).ph ≠ 2 := fun hh => c (.inr (.inl hh))
      rw [h2, Int.toNat_natCast] at c2 ⊢
      refine .yes ⟨fun hd => by show (z.dr || _) = true; rw [hd]; rfl, .inr (.inl ⟨i, _, hi, rfl, fun he => ?_, rfl⟩)⟩
      have := congrArg J.ph he
      exact c2 this
theorem do_turn {z : Z} {r : R} : TurnQ z (doM z r) := by
  unfold doM
  split
  · unfold prologM
    split
    · exact .no (by decide)
    · split
      · exact .no (by decide)
      · rename_i hd
        exact .yes ⟨fun hh => absurd hh hd, .inl ⟨_, rfl, rfl⟩⟩
  · split
    · exact begins_turn
    · split
      · exact begins_turn
      · split
        · exact turns_turn (by decide)
        · split
          · exact turns_turn (by decide)
          · split
            · exact turns_turn (by decide)
            · split
              · exact epilog_turn
              · unfold voidM
                split
                · exact .no (by decide)
                · exact .yes ⟨id, .inl ⟨_, rfl, rfl⟩⟩
theorem apply_turn {z : Z} {r : R} : TurnQ z (applyM z r) := by
  unfold applyM
  split
  · exact do_turn
  · exact .no (by decide)
def cnt (p : Nat → Bool) : Nat → Nat
  | 0 => 0
  | n + 1 => cnt p n + (if p n = true then 1 else 0)
theorem cnt_le (p : Nat → Bool) : ∀ n, cnt p n ≤ n
  | 0 => Nat.le_refl _
  | n + 1 => by
    have := cnt_le p n
    unfold cnt
    split <;> omega
theorem cnt_0 {p : Nat → Bool} : ∀ n, (∀ k, k < n → p k = false) → cnt p n = 0
  | 0, _ => rfl
  | n + 1, h => by
    unfold cnt
    rw [cnt_0 n (fun k hk => h k (by omega)), h n (by omega)]; rfl
theorem cnt_1 {p : Nat → Bool} {i : Nat} (h1 : p i = true) : ∀ n, i < n → (∀ k, k < n → k ≠ i → p k = false) → cnt p n = 1
  | 0, h, _ => absurd h (Nat.not_lt_zero _)
  | n + 1, h, h2 => by
    unfold cnt
    by_cases e : i = n
    · subst e
      rw [cnt_0 i (fun k hk => h2 k (by omega) (by omega)), h1]; rfl
    · rw [cnt_1 h1 n (by omega) (fun k hk hne => h2 k (by omega) hne), h2 n (by omega) (fun hh => e hh.symm)]; rfl
theorem cnt_t {p : Nat → Bool} {d i : Nat} (h : p i = true) : ((d + cnt p (i + 1) : Nat) : Int) = ((d + cnt p i : Nat) : Int) + 1 := by
  have : cnt p (i + 1) = cnt p i + 1 := by conv => lhs; unfold cnt
                                           rw [if_pos h]
  rw [this]; omega
theorem cnt_f {p : Nat → Bool} {d i : Nat} (h : p i = false) : ((d + cnt p (i + 1) : Nat) : Int) = ((d + cnt p i : Nat) : Int) := by
  have : cnt p (i + 1) = cnt p i := by conv => lhs; unfold cnt
                                       rw [if_neg (by rw [h]; decide)]; rfl
  rw [this]
def dfr {α : Type} [DecidableEq α] (xs ys : List α) (d : α) (k : Nat) : Bool := decide (xs.getD k d ≠ ys.getD k d)
theorem dfr_self {α : Type} [DecidableEq α] {xs ys : List α} {d : α} (e : ys = xs) (n : Nat) : cnt (dfr xs ys d) n = 0 := cnt_0 n fun k _ => by
  subst e
  unfold dfr
  simp
theorem dfr_app {α : Type} [DecidableEq α] {xs ys : List α} {d x : α} (e : ys = xs ++ [x]) : cnt (dfr xs ys d) xs.length = 0 := cnt_0 _ fun k hk => by
  subst e
  unfold dfr
  rw [List.getD_eq_getElem?_getD (l := xs ++ [x]), List.getElem?_append_left hk, ← List.getD_eq_getElem?_getD]
  simp
theorem dfr_set {α : Type} [DecidableEq α] {xs ys : List α} {d x : α} {i : Nat} (hi : i < xs.length) (e : ys = xs.set i x) (hne : xs.getD i d ≠ x) : cnt (dfr xs ys d) xs.length = 1 := by
  subst e
  refine cnt_1 (i := i) ?_ _ hi fun k hk hki => ?_
  · unfold dfr
    rw [List.getD_eq_getElem?_getD (l := xs.set i x), List.getElem?_set_self hi]
    exact decide_eq_true hne
  · unfold dfr
    rw [List.getD_eq_getElem?_getD (l := xs.set i x), List.getElem?_set_ne (fun hh => hki hh.symm), ← List.getD_eq_getElem?_getD]
    simp
theorem turn_one {z y : Z} (h : Turn z y) : ((y.js.length - z.js.length) + (y.ss.length - z.ss.length)) + cnt (dfr z.js y.js J0) z.js.length + cnt (dfr z.ss y.ss S0) z.ss.length = 1 ∧ z.js.length ≤ y.js.length ∧ z.ss.length ≤ y.ss.length := by
  rcases h.2 with ⟨x, e1, e2⟩ | ⟨i, x, hi, e1, hne, e2⟩ | ⟨x, e1, e2⟩ | ⟨i, x, hi, e1, hne, e2⟩
  · rw [dfr_app e1, dfr_self e2, e1, e2, List.length_append]; simp
  · rw [dfr_set hi e1 hne, dfr_self e2, e1, e2, List.length_set]; simp
  · rw [dfr_self e2, dfr_app e1, e1, e2, List.length_append]; simp
  · rw [dfr_self e2, dfr_set hi e1 hne, e1, e2, List.length_set]; simp
set_option maxRecDepth 100000 in
set_option maxHeartbeats 32000000 in
theorem turns_law {W : World} {F : Snap} {cs : List Res} (w : World) {AJ AS : Option Addr} {cj cS : Nat} {z : Z} {Al : Option Addr} {cl : Nat} {r : R} (hls : z.ss.length ≤ 9223372036854775807) (hR : ZR F AJ AS z) (hl : RdS (Kd.one Vi) F Al r.ls) (h : St W F cs w) : Calls Try.prog 9 #[.agg #[.slice AJ z.js.length cj, .slice AS z.ss.length cS, .bool z.dr], .agg #[Vi r.kd, Vi r.jb, Vi r.ep, Vi r.st, Vi r.ar, .slice Al r.ls.length cl]] w fun e w' => e = .returned (.bool true) ∧ St W F cs w'  := by
  refine enter (P := Try.prog) (args := [.agg #[.slice AJ z.js.length cj, .slice AS z.ss.length cS, .bool z.dr], .agg #[Vi r.kd, Vi r.jb, Vi r.ep, Vi r.st, Vi r.ar, .slice Al r.ls.length cl]]) Try.func9 rfl rfl rfl ?_
  have hleF := Le.refl F
  refine WC.seq (WC.reg ?_)
  refine WL.box rfl h rfl ?_
  intro b2 w1 h1
  refine WL.box rfl h1 rfl ?_
  intro b3 w2 h2
  refine WL.v (Runs.assign rfl) rfl ?_
  refine WL.nil (WN.thn (WC.seq (WC.seq ?_)))
  rcases two (smallZ z) (r.ls.length ≤ 300) with q0 | ⟨q0, q1⟩ | ⟨q0, q1⟩
  · skip
    refine WC.reg ?_
    refine WL.v (Runs.loadAll h2 1 rfl Try.underlying35 rfl inf35 rfl rfl) rfl ?_
    refine WL.call can16 rfl rfl (qsmall_c _ h2 hR.s hls) ?_
    rintro _ w3 ⟨rfl, h3⟩
    refine ⟨_, rfl, ?_⟩
    refine WL.v (Runs.boolT (c := true) (Runs.not rfl) (by rw [decide_eq_false q0]; rfl)) rfl ?_
    refine WL.v (Runs.move rfl) rfl ?_
    refine WL.goff rfl rfl rfl rfl ?_
    refine WL.goff rfl rfl rfl rfl ?_
    refine WL.goff rfl rfl rfl rfl ?_
    refine WL.goff rfl rfl rfl rfl ?_
    refine WL.v (Runs.pick rfl rfl rfl) rfl ?_
    refine WL.nil (WN.thn ?_)
    refine WC.condT rfl (rfl) ?_
    refine WC.seq (WC.reg ?_)
    refine WL.call can10 rfl rfl (live_c _ h3) ?_
    rintro _ w4 ⟨G20, hG20, rfl, h4⟩
    refine ⟨_, rfl, ?_⟩
    replace hleF := Le.trans hleF hG20
    replace hR := hR.mono hG20
    replace hl := hl.mono hG20
    refine WL.v (Runs.assign rfl) rfl ?_
    refine WL.nil (WN.thn (WC.ret ?_))
    have h90 := ((h4.drop 0).drop 0)
    try simp only [List.eraseIdx_cons_zero] at h90
    exact ret1 rfl rfl ⟨rfl, h90.weak hleF⟩
  · skip
    refine WC.reg ?_
    refine WL.v (Runs.loadAll h2 1 rfl Try.underlying35 rfl inf35 rfl rfl) rfl ?_
    refine WL.call can16 rfl rfl (qsmall_c _ h2 hR.s hls) ?_
    rintro _ w5 ⟨rfl, h5⟩
    refine ⟨_, rfl, ?_⟩
    refine WL.v (Runs.boolT (c := false) (Runs.not rfl) (by rw [decide_eq_true q0]; rfl)) rfl ?_
    refine WL.v (Runs.move rfl) rfl ?_
    refine WL.gon rfl rfl rfl ?_
    refine WL.v (Runs.fld fld24_5 rfl) rfl ?_
    refine WL.gon rfl rfl rfl ?_
    refine WL.v (Runs.load1 Try.underlying22 rfl rfl (h5.ocell (i := 0) rfl rfl)) rfl ?_
    refine WL.gon rfl rfl rfl ?_
    refine WL.v (Runs.llen Try.underlying22 rfl rfl) rfl ?_
    refine WL.gon rfl rfl rfl ?_
    refine WL.v (Runs.boolT (c := true) (Runs.gtr rfl rfl) (by rw [decide_eq_true_eq]; omega)) rfl ?_
    refine WL.v (Runs.pick rfl rfl rfl) rfl ?_
    refine WL.nil (WN.thn ?_)
    refine WC.condT rfl (rfl) ?_
    refine WC.seq (WC.reg ?_)
    refine WL.call can10 rfl rfl (live_c _ h5) ?_
    rintro _ w6 ⟨G20, hG20, rfl, h6⟩
    refine ⟨_, rfl, ?_⟩
    replace hleF := Le.trans hleF hG20
    replace hR := hR.mono hG20
    replace hl := hl.mono hG20
    refine WL.v (Runs.assign rfl) rfl ?_
    refine WL.nil (WN.thn (WC.ret ?_))
    have h90 := ((h6.drop 0).drop 0)
    try simp only [List.eraseIdx_cons_zero] at h90
    exact ret1 rfl rfl ⟨rfl, h90.weak hleF⟩
  · have hz := q0.few
    have hrn : r.ls.length ≤ 100000 := by omega
    have hz1 : few (applyM z r).1 := (q0.fewN.next hrn).few (by omega)
    refine WC.reg ?_
    refine WL.v (Runs.loadAll h2 1 rfl Try.underlying35 rfl inf35 rfl rfl) rfl ?_
    refine WL.call can16 rfl rfl (qsmall_c _ h2 hR.s hls) ?_
    rintro _ w7 ⟨rfl, h7⟩
    refine ⟨_, rfl, ?_⟩
    refine WL.v (Runs.boolT (c := false) (Runs.not rfl) (by rw [decide_eq_true q0]; rfl)) rfl ?_
    refine WL.v (Runs.move rfl) rfl ?_
    refine WL.gon rfl rfl rfl ?_
    refine WL.v (Runs.fld fld24_5 rfl) rfl ?_
    refine WL.gon rfl rfl rfl ?_
    refine WL.v (Runs.load1 Try.underlying22 rfl rfl (h7.ocell (i := 0) rfl rfl)) rfl ?_
    refine WL.gon rfl rfl rfl ?_
    refine WL.v (Runs.llen Try.underlying22 rfl rfl) rfl ?_
    refine WL.gon rfl rfl rfl ?_
    refine WL.v (Runs.boolT (c := false) (Runs.gtr rfl rfl) (by rw [decide_eq_false_iff_not]; omega)) rfl ?_
    refine WL.v (Runs.pick rfl rfl rfl) rfl ?_
    refine WL.nil (WN.thn ?_)
    refine WC.condF rfl (rfl) ?_
    refine WC.skip (WN.thn (WC.seq ?_))
    refine WC.eregK h7 h7 (fun s_ => ([8] : List Nat).any (Nat.beq s_)) mixed (by kernel_rfl) (fun hx => ?_)
    intro w8 h8
    refine WE.v0 12 hx 0 (by rfl) (fun w_ hE_ => Runs.loadAll hE_ 1 rfl Try.underlying35 rfl inf35 rfl rfl) rfl ?_
    refine WE.v0 12 hx 2 (by rfl) (fun w_ hE_ => Runs.loadAll hE_ 0 rfl Try.underlying24 rfl inf24 rfl rfl) rfl ?_
    refine WE.op2 (.inr h8) (i := 1) (j := 7) (by rfl) (by rfl) (by kernel_rfl) ?_ ?_
    · skip
      refine WL.call can17 rfl rfl (own_c _ hz hR h8) ?_
      rintro _ w9 ⟨G23, AJ23, AS23, cj23, cS23, hG23, rfl, hZ23, h9⟩
      refine ⟨_, rfl, ?_⟩
      replace hleF := Le.trans hleF hG23
      replace hR := hR.mono hG23
      replace hl := hl.mono hG23
      refine WL.nil (WE.next ?_)
      refine WE.op2 (.inr (h9.weak hG23)) (i := 3) (j := 7) (by rfl) (by rfl) (by kernel_rfl) ?_ ?_
      · skip
        refine WL.call can18 rfl rfl (apply_c (r := r) _ hl hrn hz hZ23 h9) ?_
        rintro _ w10 ⟨G25, AJ25, AS25, cj25, cS25, hG25, rfl, hZ25, h10⟩
        refine ⟨_, rfl, ?_⟩
        replace hleF := Le.trans hleF hG25
        replace hR := hR.mono hG25
        replace hl := hl.mono hG25
        replace hZ23 := hZ23.mono hG25
        refine WL.nil (WE.next ?_)
        refine WE.p0 hx 4 (by rfl) (fun w_ => Runs.move rfl) rfl ?_
        refine WE.p0 hx 5 (by rfl) (fun w_ => Runs.extract rfl rfl) rfl ?_
        refine WE.p0 hx 6 (by rfl) (fun w_ => Runs.extract rfl rfl) rfl ?_
        refine WE.op (.inr (h10.weak (Le.trans hG23 hG25))) (i := 7) (by rfl) (by kernel_rfl) ?_
        refine WL.alloc' rfl h10 inf40 ?_
        intro b5 w11 h11
        refine WL.nil (WE.next ?_)
        refine WE.op (.inr ((h11.weak (Le.trans hG23 hG25)).drop 0)) (i := 8) (by rfl) (by kernel_rfl) ?_
        refine WL.storeAll h11 0 rfl rfl rfl inf40 rfl rfl rfl (Free.zero _) ?_
        intro  w12 h12
        try simp only [lz, ls, ez, es'] at h12
        refine WL.nil (WE.next ?_)
        refine WE.p0 hx 9 (by rfl) (fun w_ => Runs.assign rfl) rfl ?_
        refine WE.fin (.inl ⟨8, rfl, by kernel_rfl⟩) (by kernel_rfl) ?_
        refine WN.thn (WC.seq (WC.seq (WC.reg ?_)))
        refine WL.v (Runs.move rfl) rfl ?_
        refine WL.v (Runs.boolT (c := decide ((applyM z r).2 ≠ 0)) (Runs.neq rfl rfl) (by simp)) rfl ?_
        refine WL.nil (WN.thn ?_)
        refine WC.cond rfl (fun c13 => ?_) (fun c13 => ?_)
        · try simp only [dt, df, nt, nf, ba, il, ie] at c13
          first
          | (exfalso; omega)
          | skip
            refine WC.seq ?_
            refine WC.eregK h12 h12 (fun s_ => ([] : List Nat).any (Nat.beq s_)) mixed (by kernel_rfl) (fun hx => ?_)
            intro w14 h14
            refine WE.v0 12 hx 0 (by rfl) (fun w_ hE_ => Runs.loadAll hE_ 0 rfl Try.underlying40 rfl inf40 rfl rfl) rfl ?_
            refine WE.v0 12 hx 2 (by rfl) (fun w_ hE_ => Runs.loadAll hE_ 2 rfl Try.underlying35 rfl inf35 rfl rfl) rfl ?_
            refine WE.op (.inr h14) (i := 1) (by rfl) (by kernel_rfl) ?_
            refine WL.call can25 rfl rfl ((show Calls _ _ #[_] _ _ from told_c (z := (applyM z r).1) _ hz1 hZ25 h14)) ?_
            rintro _ w15 ⟨G31, AJ31, AS31, cj31, cS31, hG31, rfl, hZ31, h15⟩
            refine ⟨_, rfl, ?_⟩
            replace hleF := Le.trans hleF hG31
            replace hR := hR.mono hG31
            replace hl := hl.mono hG31
            replace hZ23 := hZ23.mono hG31
            replace hZ25 := hZ25.mono hG31
            refine WL.nil (WE.next ?_)
            refine WE.op (.inr (h15.weak hG31)) (i := 3) (by rfl) (by kernel_rfl) ?_
            refine WL.call can24 rfl rfl ((show Calls _ _ #[_, _] _ _ from qsameT _ (apply_turn.2 (by simpa using c13)) hz1 hZ31 hR h15)) ?_
            rintro _ w16 ⟨rfl, h16⟩
            refine ⟨_, rfl, ?_⟩
            refine WL.nil (WE.next ?_)
            refine WE.p0 hx 4 (by rfl) (fun w_ => Runs.move rfl) rfl ?_
            refine WE.op (.inr (h16.weak hG31)) (i := 5) (by rfl) (by kernel_rfl) ?_
            refine WL.gon rfl rfl rfl ?_
            refine WL.call can10 rfl rfl (live_c _ h16) ?_
            rintro _ w17 ⟨G35, hG35, rfl, h17⟩
            refine ⟨_, rfl, ?_⟩
            replace hleF := Le.trans hleF hG35
            replace hR := hR.mono hG35
            replace hl := hl.mono hG35
            replace hZ23 := hZ23.mono hG35
            replace hZ25 := hZ25.mono hG35
            replace hZ31 := hZ31.mono hG35
            refine WL.nil (WE.next ?_)
            refine WE.p0 hx 6 (by rfl) (fun w_ => Runs.pick rfl rfl rfl) rfl ?_
            refine WE.p0 hx 7 (by rfl) (fun w_ => Runs.assign rfl) rfl ?_
            refine WE.fin (.inr (h17.weak (Le.trans hG31 hG35))) (by kernel_rfl) ?_
            refine WN.thn (WC.ret ?_)
            have h90 := (((h17.drop 0).drop 0).drop 0)
            try simp only [List.eraseIdx_cons_zero] at h90
            exact ret1 rfl rfl ⟨rfl, h90.weak hleF⟩
        · try simp only [dt, df, nt, nf, ba, il, ie] at c13
          first
          | (exfalso; omega)
          | skip
            refine WC.skip (WN.thn (WC.seq (WC.reg ?_)))
            refine WL.v (Runs.loadAll h12 0 rfl Try.underlying40 rfl inf40 rfl rfl) rfl ?_
            refine WL.call can25 rfl rfl ((show Calls _ _ #[_] _ _ from told_c (z := (applyM z r).1) _ hz1 hZ25 h12)) ?_
            rintro _ w18 ⟨G38, AJ38, AS38, cj38, cS38, hG38, rfl, hZ38, h18⟩
            refine ⟨_, rfl, ?_⟩
            replace hleF := Le.trans hleF hG38
            replace hR := hR.mono hG38
            replace hl := hl.mono hG38
            replace hZ23 := hZ23.mono hG38
            replace hZ25 := hZ25.mono hG38
            refine WL.alloc' rfl h18 inf35 ?_
            intro b7 w19 h19
            refine WL.storeAll h19 0 rfl rfl rfl inf35 rfl rfl rfl (Free.zero _) ?_
            intro  w20 h20
            try simp only [lz, ls, ez, es'] at h20
            refine WL.nil (WN.thn (WC.seq (WC.seq ?_)))
            have htn := apply_turn.1 (show (applyM z r).2 = 0 by simpa using c13)
            obtain ⟨ht1, hlj, hlss⟩ := turn_one htn
            have h1j := hz1.j
            have h1s := hz1.s
            have h0j := hz.j
            have h0s := hz.s
            refine WC.reg ?_
            refine WL.v (Runs.fld fld35_0 rfl) rfl ?_
            refine WL.v (Runs.load1 Try.underlying32 rfl rfl (h20.ocell (i := 0) rfl rfl)) rfl ?_
            refine WL.v (Runs.llen Try.underlying32 rfl rfl) rfl ?_
            refine WL.v (Runs.fld fld35_0 rfl) rfl ?_
            refine WL.v (Runs.load1 Try.underlying32 rfl rfl (h20.ocell (i := 3) rfl rfl)) rfl ?_
            refine WL.v (Runs.llen Try.underlying32 rfl rfl) rfl ?_
            refine WL.v (Runs.boolT (c := false) (Runs.lss rfl rfl) (decide_eq_false (by omega))) rfl ?_
            refine WL.v (Runs.move rfl) rfl ?_
            refine WL.gon rfl rfl rfl ?_
            refine WL.v (Runs.fld fld35_1 rfl) rfl ?_
            refine WL.gon rfl rfl rfl ?_
            refine WL.v (Runs.load1 Try.underlying33 rfl rfl (h20.ocell (i := 0) rfl rfl)) rfl ?_
            refine WL.gon rfl rfl rfl ?_
            refine WL.v (Runs.llen Try.underlying33 rfl rfl) rfl ?_
            refine WL.gon rfl rfl rfl ?_
            refine WL.v (Runs.fld fld35_1 rfl) rfl ?_
            refine WL.gon rfl rfl rfl ?_
            refine WL.v (Runs.load1 Try.underlying33 rfl rfl (h20.ocell (i := 3) rfl rfl)) rfl ?_
            refine WL.gon rfl rfl rfl ?_
            refine WL.v (Runs.llen Try.underlying33 rfl rfl) rfl ?_
            refine WL.gon rfl rfl rfl ?_
            refine WL.v (Runs.boolT (c := false) (Runs.lss rfl rfl) (decide_eq_false (by omega))) rfl ?_
            refine WL.v (Runs.pick rfl rfl rfl) rfl ?_
            refine WL.nil (WN.thn ?_)
            refine WC.condF rfl (rfl) ?_
            refine WC.skip (WN.thn (WC.seq (WC.reg ?_)))
            refine WL.v (Runs.fld fld35_0 rfl) rfl ?_
            refine WL.v (Runs.load1 Try.underlying32 rfl rfl (h20.ocell (i := 0) rfl rfl)) rfl ?_
            refine WL.v (Runs.llen Try.underlying32 rfl rfl) rfl ?_
            refine WL.v (Runs.fld fld35_0 rfl) rfl ?_
            refine WL.v (Runs.load1 Try.underlying32 rfl rfl (h20.ocell (i := 3) rfl rfl)) rfl ?_
            refine WL.v (Runs.llen Try.underlying32 rfl rfl) rfl ?_
            refine WL.v (Runs.subn rfl rfl (by omega)) rfl ?_
            refine WL.v (Runs.fld fld35_1 rfl) rfl ?_
            refine WL.v (Runs.load1 Try.underlying33 rfl rfl (h20.ocell (i := 0) rfl rfl)) rfl ?_
            refine WL.v (Runs.llen Try.underlying33 rfl rfl) rfl ?_
            refine WL.v (Runs.addn rfl rfl (by omega)) rfl ?_
            refine WL.v (Runs.fld fld35_1 rfl) rfl ?_
            refine WL.v (Runs.load1 Try.underlying33 rfl rfl (h20.ocell (i := 3) rfl rfl)) rfl ?_
            refine WL.v (Runs.llen Try.underlying33 rfl rfl) rfl ?_
            refine WL.v (Runs.intT (n := (((((applyM z r).1.js.length - z.js.length) + ((applyM z r).1.ss.length - z.ss.length)) : Nat) : Int)) (Runs.subn rfl rfl (by omega)) (by omega)) rfl ?_
            refine WL.v (Runs.assign rfl) rfl ?_
            refine WL.nil (WN.thn (WC.seq (WC.seq (WC.reg ?_))))
            refine WL.v (Runs.assign rfl) rfl ?_
            refine WL.nil (WN.thn (WC.block ?_))
            
            refine WC.loop (σ := Nat) (fun q_ => [(2, .pointer (some ⟨b2, 0, none⟩)), (7, .pointer (some ⟨b7, 0, none⟩)), (8, Vi (((((applyM z r).1.js.length - z.js.length) + ((applyM z r).1.ss.length - z.ss.length)) + cnt (dfr z.js (applyM z r).1.js J0) q_ : Nat) : Int)), (9, .int .i64 (q_ : Int))]) (fun q_ w => q_ ≤ z.js.length ∧ St W G38 ([(b7, .cells #[.slice AJ38 (applyM z r).1.js.length cj38, .slice AS38 (applyM z r).1.ss.length cS38, .bool (applyM z r).1.dr] 35 (0, 0))] :: [(b2, .cells #[.slice AJ z.js.length cj, .slice AS z.ss.length cS, .bool z.dr] 35 (0, 0))] :: cs) w) (fun q_ => z.js.length - q_) (0) (by repeat (first | exact trivial | refine ⟨rfl, ?_⟩)) (⟨Nat.zero_le _, (h20.drop 1).drop 1⟩) ?_
            rintro i w21 ⟨hi, hL⟩
            try dsimp only at hi hL
            refine WC.sub (s := [(2, .pointer (some ⟨b2, 0, none⟩)), (7, .pointer (some ⟨b7, 0, none⟩)), (8, Vi (((((applyM z r).1.js.length - z.js.length) + ((applyM z r).1.ss.length - z.ss.length)) + cnt (dfr z.js (applyM z r).1.js J0) i : Nat) : Int)), (9, .int .i64 (i : Int))]) (by repeat (first | exact trivial | refine ⟨rfl, ?_⟩)) ?_
            refine WC.seq (WC.seq (WC.reg ?_))
            refine WL.v (Runs.move rfl) rfl ?_
            refine WL.v (Runs.fld fld35_0 rfl) rfl ?_
            refine WL.v (Runs.load1 Try.underlying32 rfl rfl (hL.ocell (i := 1) rfl rfl)) rfl ?_
            refine WL.v (Runs.llen Try.underlying32 rfl rfl) rfl ?_
            refine WL.v (Runs.lss rfl rfl) rfl ?_
            refine WL.nil (WN.thn ?_)
            refine WC.cond rfl (fun c22 => ?_) (fun c22 => ?_)
            · try simp only [dt, df, nt, nf, ba, il, ie] at c22
              first
              | (exfalso; omega)
              | skip
                refine WC.skip (WN.thn (WC.seq (WC.block (WC.seq ?_))))
                have hi2 : i < z.js.length := by omega
                obtain ⟨ad, c, rfl, hc, hcell⟩ := hR.j.atD J0 hi2
                obtain rfl : c = jc (z.js.getD i J0) := hc
                have hi3 : i < (applyM z r).1.js.length := by omega
                obtain ⟨ad2, c2, rfl, hc2, hcell2⟩ := hZ38.j.atD J0 hi3
                obtain rfl : c2 = jc ((applyM z r).1.js.getD i J0) := hc2
                have hcl := cnt_le (dfr z.js (applyM z r).1.js J0) i
                refine WC.eregK hL hL (fun s_ => ([] : List Nat).any (Nat.beq s_)) mixed (by kernel_rfl) (fun hx => ?_)
                intro w23 h23
                refine WE.p0 hx 0 (by rfl) (fun w_ => Runs.fld fld35_0 rfl) rfl ?_
                refine WE.p0 hx 2 (by rfl) (fun w_ => Runs.move rfl) rfl ?_
                refine WE.p0 hx 5 (by rfl) (fun w_ => Runs.fld fld35_0 rfl) rfl ?_
                refine WE.p0 hx 7 (by rfl) (fun w_ => Runs.move rfl) rfl ?_
                refine WE.v0 12 hx 1 (by rfl) (fun w_ hE_ => Runs.load1 Try.underlying32 rfl rfl (hE_.ocell (i := 1) rfl rfl)) rfl ?_
                refine WE.p0 hx 3 (by rfl) (fun w_ => Runs.lidxK Try.underlying32 inf50 rfl rfl (n := i) rfl hi2) rfl ?_
                refine WE.v0 12 hx 4 (by rfl) (fun w_ hE_ => Runs.loadKF hE_ hcell Try.underlying50 rfl inf50 rfl rfl) rfl ?_
                refine WE.v0 12 hx 6 (by rfl) (fun w_ hE_ => Runs.load1 Try.underlying32 rfl rfl (hE_.ocell (i := 0) rfl rfl)) rfl ?_
                refine WE.p0 hx 8 (by rfl) (fun w_ => Runs.lidxK Try.underlying32 inf50 rfl rfl (n := i) rfl hi3) rfl ?_
                refine WE.v0 12 hx 9 (by rfl) (fun w_ hE_ => Runs.loadKF hE_ hcell2 Try.underlying50 rfl inf50 rfl rfl) rfl ?_
                refine WE.p0 hx 10 (by rfl) (fun w_ => Runs.boolT (c := dfr z.js (applyM z r).1.js J0 i) (Runs.aneq (by kernel_rfl) rfl rfl (eqJob _ (.inr rfl) _ (z.js.getD i J0) ((applyM z r).1.js.getD i J0))) (by unfold dfr; simp)) rfl ?_
                refine WE.fin (.inr h23) (by kernel_rfl) ?_
                refine WN.thn ?_
                refine WC.cond rfl (fun c24 => ?_) (fun c24 => ?_)
                · try simp only [dt, df, nt, nf, ba, il, ie] at c24
                  first
                  | (exfalso; omega)
                  | skip
                    refine WC.reg ?_
                    refine WL.v (Runs.move rfl) rfl ?_
                    refine WL.v (Runs.addn rfl rfl (by omega)) rfl ?_
                    refine WL.v (Runs.assign rfl) rfl ?_
                    refine WL.nil (WN.blk (WN.thn (WC.reg ?_)))
                    refine WL.v (Runs.move rfl) rfl ?_
                    refine WL.v (Runs.addn rfl rfl (by omega)) rfl ?_
                    refine WL.v (Runs.assign rfl) rfl ?_
                    refine WL.nil ?_
                    exact WN.again (i + 1) (by omega) ⟨rfl, rfl, (by show some (Vi _) = some (Vi _); rw [cnt_t (id c24)]), rfl, trivial⟩ ⟨by omega, h23⟩
                · try simp only [dt, df, nt, nf, ba, il, ie] at c24
                  first
                  | (exfalso; omega)
                  | skip
                    refine WC.skip (WN.blk (WN.thn (WC.reg ?_)))
                    refine WL.v (Runs.move rfl) rfl ?_
                    refine WL.v (Runs.addn rfl rfl (by omega)) rfl ?_
                    refine WL.v (Runs.assign rfl) rfl ?_
                    refine WL.nil ?_
                    exact WN.again (i + 1) (by omega) ⟨rfl, rfl, (by show some (Vi _) = some (Vi _); rw [cnt_f (id c24)]), rfl, trivial⟩ ⟨by omega, h23⟩
            · try simp only [dt, df, nt, nf, ba, il, ie] at c22
              first
              | (exfalso; omega)
              | skip
                refine WC.exit (WX.thn (WX.cut (WX.hit (WN.thn (WC.seq ?_)))))
                refine WC.seq (WC.reg ?_)
                refine WL.v (Runs.assign rfl) rfl ?_
                refine WL.nil (WN.thn (WC.block ?_))
                obtain rfl : i = z.js.length := by omega
                refine WC.loop (σ := Nat) (fun q_ => [(2, .pointer (some ⟨b2, 0, none⟩)), (7, .pointer (some ⟨b7, 0, none⟩)), (8, Vi (((((applyM z r).1.js.length - z.js.length) + ((applyM z r).1.ss.length - z.ss.length)) + cnt (dfr z.js (applyM z r).1.js J0) z.js.length + cnt (dfr z.ss (applyM z r).1.ss S0) q_ : Nat) : Int)), (10, .int .i64 (q_ : Int))]) (fun q_ w => q_ ≤ z.ss.length ∧ St W G38 ([(b7, .cells #[.slice AJ38 (applyM z r).1.js.length cj38, .slice AS38 (applyM z r).1.ss.length cS38, .bool (applyM z r).1.dr] 35 (0, 0))] :: [(b2, .cells #[.slice AJ z.js.length cj, .slice AS z.ss.length cS, .bool z.dr] 35 (0, 0))] :: cs) w) (fun q_ => z.ss.length - q_) (0) (by repeat (first | exact trivial | refine ⟨rfl, ?_⟩)) (⟨Nat.zero_le _, hL⟩) ?_
                rintro i w25 ⟨hi, hL⟩
                try dsimp only at hi hL
                refine WC.sub (s := [(2, .pointer (some ⟨b2, 0, none⟩)), (7, .pointer (some ⟨b7, 0, none⟩)), (8, Vi (((((applyM z r).1.js.length - z.js.length) + ((applyM z r).1.ss.length - z.ss.length)) + cnt (dfr z.js (applyM z r).1.js J0) z.js.length + cnt (dfr z.ss (applyM z r).1.ss S0) i : Nat) : Int)), (10, .int .i64 (i : Int))]) (by repeat (first | exact trivial | refine ⟨rfl, ?_⟩)) ?_
                refine WC.seq (WC.seq (WC.reg ?_))
                refine WL.v (Runs.move rfl) rfl ?_
                refine WL.v (Runs.fld fld35_1 rfl) rfl ?_
                refine WL.v (Runs.load1 Try.underlying33 rfl rfl (hL.ocell (i := 1) rfl rfl)) rfl ?_
                refine WL.v (Runs.llen Try.underlying33 rfl rfl) rfl ?_
                refine WL.v (Runs.lss rfl rfl) rfl ?_
                refine WL.nil (WN.thn ?_)
                refine WC.cond rfl (fun c26 => ?_) (fun c26 => ?_)
                · try simp only [dt, df, nt, nf, ba, il, ie] at c26
                  first
                  | (exfalso; omega)
                  | skip
                    refine WC.skip (WN.thn (WC.seq (WC.block (WC.seq ?_))))
                    have hi2 : i < z.ss.length := by omega
                    obtain ⟨ad, c, rfl, hc, hcell⟩ := hR.s.atD S0 hi2
                    obtain ⟨A1, cap1, rfl, hps⟩ := hc
                    have hi3 : i < (applyM z r).1.ss.length := by omega
                    obtain ⟨ad2, c2, rfl, ⟨A2, cap2, rfl, hps2⟩, hcell2⟩ := hZ38.s.atD S0 hi3
                    have hcl := cnt_le (dfr z.ss (applyM z r).1.ss S0) i
                    have hcl0 := cnt_le (dfr z.js (applyM z r).1.js J0) z.js.length
                    refine WC.eregK hL hL (fun s_ => ([] : List Nat).any (Nat.beq s_)) mixed (by kernel_rfl) (fun hx => ?_)
                    intro w27 h27
                    refine WE.p0 hx 0 (by rfl) (fun w_ => Runs.fld fld35_1 rfl) rfl ?_
                    refine WE.p0 hx 2 (by rfl) (fun w_ => Runs.move rfl) rfl ?_
                    refine WE.p0 hx 5 (by rfl) (fun w_ => Runs.fld fld35_1 rfl) rfl ?_
                    refine WE.p0 hx 7 (by rfl) (fun w_ => Runs.move rfl) rfl ?_
                    refine WE.v0 12 hx 1 (by rfl) (fun w_ hE_ => Runs.load1 Try.underlying33 rfl rfl (hE_.ocell (i := 1) rfl rfl)) rfl ?_
                    refine WE.p0 hx 3 (by rfl) (fun w_ => Runs.lidxK Try.underlying33 inf57 rfl rfl (n := i) rfl hi2) rfl ?_
                    refine WE.v0 12 hx 4 (by rfl) (fun w_ hE_ => Runs.loadKF hE_ hcell Try.underlying57 rfl inf57 rfl rfl) rfl ?_
                    refine WE.v0 12 hx 6 (by rfl) (fun w_ hE_ => Runs.load1 Try.underlying33 rfl rfl (hE_.ocell (i := 0) rfl rfl)) rfl ?_
                    refine WE.p0 hx 8 (by rfl) (fun w_ => Runs.lidxK Try.underlying33 inf57 rfl rfl (n := i) rfl hi3) rfl ?_
                    refine WE.v0 12 hx 9 (by rfl) (fun w_ hE_ => Runs.loadKF hE_ hcell2 Try.underlying57 rfl inf57 rfl rfl) rfl ?_
                    refine WE.op (.inr h27) (i := 10) (by rfl) (by kernel_rfl) ?_
                    refine WL.call can31 rfl rfl ((show Calls _ _ #[_, _] _ _ from one_c (a := (z.ss.getD i S0)) (b := ((applyM z r).1.ss.getD i S0)) _ hps hps2 (hz.p _ (memD S0 hi2)) h27)) ?_
                    rintro _ w28 ⟨rfl, h28⟩
                    refine ⟨_, rfl, ?_⟩
                    refine WL.nil (WE.next ?_)
                    refine WE.p0 hx 11 (by rfl) (fun w_ => Runs.boolT (c := dfr z.ss (applyM z r).1.ss S0 i) (Runs.not rfl) (by unfold dfr; simp)) rfl ?_
                    refine WE.fin (.inr h28) (by kernel_rfl) ?_
                    refine WN.thn ?_
                    refine WC.cond rfl (fun c29 => ?_) (fun c29 => ?_)
                    · try simp only [dt, df, nt, nf, ba, il, ie] at c29
                      first
                      | (exfalso; omega)
                      | skip
                        refine WC.reg ?_
                        refine WL.v (Runs.move rfl) rfl ?_
                        refine WL.v (Runs.addn rfl rfl (by omega)) rfl ?_
                        refine WL.v (Runs.assign rfl) rfl ?_
                        refine WL.nil (WN.blk (WN.thn (WC.reg ?_)))
                        refine WL.v (Runs.move rfl) rfl ?_
                        refine WL.v (Runs.addn rfl rfl (by omega)) rfl ?_
                        refine WL.v (Runs.assign rfl) rfl ?_
                        refine WL.nil ?_
                        exact WN.again (i + 1) (by omega) ⟨rfl, rfl, (by show some (Vi _) = some (Vi _); rw [cnt_t (id c29)]), rfl, trivial⟩ ⟨by omega, h28⟩
                    · try simp only [dt, df, nt, nf, ba, il, ie] at c29
                      first
                      | (exfalso; omega)
                      | skip
                        refine WC.skip (WN.blk (WN.thn (WC.reg ?_)))
                        refine WL.v (Runs.move rfl) rfl ?_
                        refine WL.v (Runs.addn rfl rfl (by omega)) rfl ?_
                        refine WL.v (Runs.assign rfl) rfl ?_
                        refine WL.nil ?_
                        exact WN.again (i + 1) (by omega) ⟨rfl, rfl, (by show some (Vi _) = some (Vi _); rw [cnt_f (id c29)]), rfl, trivial⟩ ⟨by omega, h28⟩
                · try simp only [dt, df, nt, nf, ba, il, ie] at c26
                  first
                  | (exfalso; omega)
                  | skip
                    refine WC.exit (WX.thn (WX.cut (WX.hit (WN.thn (WC.seq ?_)))))
                    rcases Bool.eq_false_or_eq_true z.dr with hdr | hdr
                    · obtain rfl : i = z.ss.length := by omega
                      refine WC.reg ?_
                      refine WL.v (Runs.move rfl) rfl ?_
                      refine WL.v (Runs.boolT (c := true) (Runs.eql rfl rfl) (decide_eq_true (by omega))) rfl ?_
                      refine WL.v (Runs.move rfl) rfl ?_
                      refine WL.gon rfl rfl rfl ?_
                      refine WL.v (Runs.fld fld35_2 rfl) rfl ?_
                      refine WL.gon rfl rfl rfl ?_
                      refine WL.v (Runs.load1 Try.underlying4 rfl rfl (hL.ocell (i := 1) rfl rfl)) rfl ?_
                      refine WL.gon rfl rfl rfl ?_
                      refine WL.v (Runs.boolT (c := false) (Runs.not rfl) (by rw [hdr]; rfl)) rfl ?_
                      refine WL.gon rfl rfl rfl ?_
                      refine WL.v (Runs.move rfl) rfl ?_
                      refine WL.gon rfl rfl rfl ?_
                      refine WL.v (Runs.fld fld35_2 rfl) rfl ?_
                      refine WL.gon rfl rfl rfl ?_
                      refine WL.v (Runs.boolT (c := true) (Runs.load1 Try.underlying4 rfl rfl (hL.ocell (i := 0) rfl rfl)) (htn.1 hdr)) rfl ?_
                      refine WL.gon rfl rfl rfl ?_
                      refine WL.v (Runs.pick rfl rfl rfl) rfl ?_
                      refine WL.v (Runs.pick rfl rfl rfl) rfl ?_
                      refine WL.v (Runs.move rfl) rfl ?_
                      refine WL.gon rfl rfl rfl ?_
                      refine WL.call can10 rfl rfl (live_c _ hL) ?_
                      rintro _ w30 ⟨G123, hG123, rfl, h30⟩
                      refine ⟨_, rfl, ?_⟩
                      replace hleF := Le.trans hleF hG123
                      replace hR := hR.mono hG123
                      replace hl := hl.mono hG123
                      replace hZ23 := hZ23.mono hG123
                      replace hZ25 := hZ25.mono hG123
                      replace hZ38 := hZ38.mono hG123
                      refine WL.v (Runs.pick rfl rfl rfl) rfl ?_
                      refine WL.v (Runs.assign rfl) rfl ?_
                      refine WL.nil (WN.thn (WC.ret ?_))
                      have h90 := ((h30.drop 0).drop 0)
                      try simp only [List.eraseIdx_cons_zero] at h90
                      exact ret1 rfl rfl ⟨rfl, h90.weak hleF⟩
                    · obtain rfl : i = z.ss.length := by omega
                      refine WC.reg ?_
                      refine WL.v (Runs.move rfl) rfl ?_
                      refine WL.v (Runs.boolT (c := true) (Runs.eql rfl rfl) (decide_eq_true (by omega))) rfl ?_
                      refine WL.v (Runs.move rfl) rfl ?_
                      refine WL.gon rfl rfl rfl ?_
                      refine WL.v (Runs.fld fld35_2 rfl) rfl ?_
                      refine WL.gon rfl rfl rfl ?_
                      refine WL.v (Runs.load1 Try.underlying4 rfl rfl (hL.ocell (i := 1) rfl rfl)) rfl ?_
                      refine WL.gon rfl rfl rfl ?_
                      refine WL.v (Runs.boolT (c := true) (Runs.not rfl) (by rw [hdr]; rfl)) rfl ?_
                      refine WL.gon rfl rfl rfl ?_
                      refine WL.v (Runs.move rfl) rfl ?_
                      refine WL.goff rfl rfl rfl rfl ?_
                      refine WL.goff rfl rfl rfl rfl ?_
                      refine WL.gon rfl rfl rfl ?_
                      refine WL.v (Runs.pick rfl rfl rfl) rfl ?_
                      refine WL.v (Runs.pick rfl rfl rfl) rfl ?_
                      refine WL.v (Runs.move rfl) rfl ?_
                      refine WL.gon rfl rfl rfl ?_
                      refine WL.call can10 rfl rfl (live_c _ hL) ?_
                      rintro _ w31 ⟨G123, hG123, rfl, h31⟩
                      refine ⟨_, rfl, ?_⟩
                      replace hleF := Le.trans hleF hG123
                      replace hR := hR.mono hG123
                      replace hl := hl.mono hG123
                      replace hZ23 := hZ23.mono hG123
                      replace hZ25 := hZ25.mono hG123
                      replace hZ38 := hZ38.mono hG123
                      refine WL.v (Runs.pick rfl rfl rfl) rfl ?_
                      refine WL.v (Runs.assign rfl) rfl ?_
                      refine WL.nil (WN.thn (WC.ret ?_))
                      have h90 := ((h31.drop 0).drop 0)
                      try simp only [List.eraseIdx_cons_zero] at h90
                      exact ret1 rfl rfl ⟨rfl, h90.weak hleF⟩
      · skip
        refine WL.alloc' rfl h9 inf40 ?_
        intro b5 w32 h32
        refine WL.nil (WE.next ?_)
        refine WE.op (.inr ((h32.weak hG23).drop 0)) (i := 3) (by rfl) (by kernel_rfl) ?_
        refine WL.call can18 rfl rfl (apply_c (r := r) _ hl hrn hz hZ23 h32) ?_
        rintro _ w33 ⟨G25, AJ25, AS25, cj25, cS25, hG25, rfl, hZ25, h33⟩
        refine ⟨_, rfl, ?_⟩
        replace hleF := Le.trans hleF hG25
        replace hR := hR.mono hG25
        replace hl := hl.mono hG25
        replace hZ23 := hZ23.mono hG25
        refine WL.nil (WE.next ?_)
        refine WE.p0 hx 4 (by rfl) (fun w_ => Runs.move rfl) rfl ?_
        refine WE.p0 hx 5 (by rfl) (fun w_ => Runs.extract rfl rfl) rfl ?_
        refine WE.p0 hx 6 (by rfl) (fun w_ => Runs.extract rfl rfl) rfl ?_
        refine WE.op (.inr ((h33.weak (Le.trans hG23 hG25)).drop 0)) (i := 8) (by rfl) (by kernel_rfl) ?_
        refine WL.storeAll h33 0 rfl rfl rfl inf40 rfl rfl rfl (Free.zero _) ?_
        intro  w34 h34
        try simp only [lz, ls, ez, es'] at h34
        refine WL.nil (WE.next ?_)
        refine WE.p0 hx 9 (by rfl) (fun w_ => Runs.assign rfl) rfl ?_
        refine WE.fin (.inl ⟨8, rfl, by kernel_rfl⟩) (by kernel_rfl) ?_
        refine WN.thn (WC.seq (WC.seq (WC.reg ?_)))
        refine WL.v (Runs.move rfl) rfl ?_
        refine WL.v (Runs.boolT (c := decide ((applyM z r).2 ≠ 0)) (Runs.neq rfl rfl) (by simp)) rfl ?_
        refine WL.nil (WN.thn ?_)
        refine WC.cond rfl (fun c35 => ?_) (fun c35 => ?_)
        · try simp only [dt, df, nt, nf, ba, il, ie] at c35
          first
          | (exfalso; omega)
          | skip
            refine WC.seq ?_
            refine WC.eregK h34 h34 (fun s_ => ([] : List Nat).any (Nat.beq s_)) mixed (by kernel_rfl) (fun hx => ?_)
            intro w36 h36
            refine WE.v0 12 hx 0 (by rfl) (fun w_ hE_ => Runs.loadAll hE_ 0 rfl Try.underlying40 rfl inf40 rfl rfl) rfl ?_
            refine WE.v0 12 hx 2 (by rfl) (fun w_ hE_ => Runs.loadAll hE_ 2 rfl Try.underlying35 rfl inf35 rfl rfl) rfl ?_
            refine WE.op (.inr h36) (i := 1) (by rfl) (by kernel_rfl) ?_
            refine WL.call can25 rfl rfl ((show Calls _ _ #[_] _ _ from told_c (z := (applyM z r).1) _ hz1 hZ25 h36)) ?_
            rintro _ w37 ⟨G31, AJ31, AS31, cj31, cS31, hG31, rfl, hZ31, h37⟩
            refine ⟨_, rfl, ?_⟩
            replace hleF := Le.trans hleF hG31
            replace hR := hR.mono hG31
            replace hl := hl.mono hG31
            replace hZ23 := hZ23.mono hG31
            replace hZ25 := hZ25.mono hG31
            refine WL.nil (WE.next ?_)
            refine WE.op (.inr (h37.weak hG31)) (i := 3) (by rfl) (by kernel_rfl) ?_
            refine WL.call can24 rfl rfl ((show Calls _ _ #[_, _] _ _ from qsameT _ (apply_turn.2 (by simpa using c35)) hz1 hZ31 hR h37)) ?_
            rintro _ w38 ⟨rfl, h38⟩
            refine ⟨_, rfl, ?_⟩
            refine WL.nil (WE.next ?_)
            refine WE.p0 hx 4 (by rfl) (fun w_ => Runs.move rfl) rfl ?_
            refine WE.op (.inr (h38.weak hG31)) (i := 5) (by rfl) (by kernel_rfl) ?_
            refine WL.gon rfl rfl rfl ?_
            refine WL.call can10 rfl rfl (live_c _ h38) ?_
            rintro _ w39 ⟨G35, hG35, rfl, h39⟩
            refine ⟨_, rfl, ?_⟩
            replace hleF := Le.trans hleF hG35
            replace hR := hR.mono hG35
            replace hl := hl.mono hG35
            replace hZ23 := hZ23.mono hG35
            replace hZ25 := hZ25.mono hG35
            replace hZ31 := hZ31.mono hG35
            refine WL.nil (WE.next ?_)
            refine WE.p0 hx 6 (by rfl) (fun w_ => Runs.pick rfl rfl rfl) rfl ?_
            refine WE.p0 hx 7 (by rfl) (fun w_ => Runs.assign rfl) rfl ?_
            refine WE.fin (.inr (h39.weak (Le.trans hG31 hG35))) (by kernel_rfl) ?_
            refine WN.thn (WC.ret ?_)
            have h90 := (((h39.drop 0).drop 0).drop 0)
            try simp only [List.eraseIdx_cons_zero] at h90
            exact ret1 rfl rfl ⟨rfl, h90.weak hleF⟩
        · try simp only [dt, df, nt, nf, ba, il, ie] at c35
          first
          | (exfalso; omega)
          | skip
            refine WC.skip (WN.thn (WC.seq (WC.reg ?_)))
            refine WL.v (Runs.loadAll h34 0 rfl Try.underlying40 rfl inf40 rfl rfl) rfl ?_
            refine WL.call can25 rfl rfl ((show Calls _ _ #[_] _ _ from told_c (z := (applyM z r).1) _ hz1 hZ25 h34)) ?_
            rintro _ w40 ⟨G38, AJ38, AS38, cj38, cS38, hG38, rfl, hZ38, h40⟩
            refine ⟨_, rfl, ?_⟩
            replace hleF := Le.trans hleF hG38
            replace hR := hR.mono hG38
            replace hl := hl.mono hG38
            replace hZ23 := hZ23.mono hG38
            replace hZ25 := hZ25.mono hG38
            refine WL.alloc' rfl h40 inf35 ?_
            intro b7 w41 h41
            refine WL.storeAll h41 0 rfl rfl rfl inf35 rfl rfl rfl (Free.zero _) ?_
            intro  w42 h42
            try simp only [lz, ls, ez, es'] at h42
            refine WL.nil (WN.thn (WC.seq (WC.seq ?_)))
            have htn := apply_turn.1 (show (applyM z r).2 = 0 by simpa using c35)
            obtain ⟨ht1, hlj, hlss⟩ := turn_one htn
            have h1j := hz1.j
            have h1s := hz1.s
            have h0j := hz.j
            have h0s := hz.s
            refine WC.reg ?_
            refine WL.v (Runs.fld fld35_0 rfl) rfl ?_
            refine WL.v (Runs.load1 Try.underlying32 rfl rfl (h42.ocell (i := 0) rfl rfl)) rfl ?_
            refine WL.v (Runs.llen Try.underlying32 rfl rfl) rfl ?_
            refine WL.v (Runs.fld fld35_0 rfl) rfl ?_
            refine WL.v (Runs.load1 Try.underlying32 rfl rfl (h42.ocell (i := 3) rfl rfl)) rfl ?_
            refine WL.v (Runs.llen Try.underlying32 rfl rfl) rfl ?_
            refine WL.v (Runs.boolT (c := false) (Runs.lss rfl rfl) (decide_eq_false (by omega))) rfl ?_
            refine WL.v (Runs.move rfl) rfl ?_
            refine WL.gon rfl rfl rfl ?_
            refine WL.v (Runs.fld fld35_1 rfl) rfl ?_
            refine WL.gon rfl rfl rfl ?_
            refine WL.v (Runs.load1 Try.underlying33 rfl rfl (h42.ocell (i := 0) rfl rfl)) rfl ?_
            refine WL.gon rfl rfl rfl ?_
            refine WL.v (Runs.llen Try.underlying33 rfl rfl) rfl ?_
            refine WL.gon rfl rfl rfl ?_
            refine WL.v (Runs.fld fld35_1 rfl) rfl ?_
            refine WL.gon rfl rfl rfl ?_
            refine WL.v (Runs.load1 Try.underlying33 rfl rfl (h42.ocell (i := 3) rfl rfl)) rfl ?_
            refine WL.gon rfl rfl rfl ?_
            refine WL.v (Runs.llen Try.underlying33 rfl rfl) rfl ?_
            refine WL.gon rfl rfl rfl ?_
            refine WL.v (Runs.boolT (c := false) (Runs.lss rfl rfl) (decide_eq_false (by omega))) rfl ?_
            refine WL.v (Runs.pick rfl rfl rfl) rfl ?_
            refine WL.nil (WN.thn ?_)
            refine WC.condF rfl (rfl) ?_
            refine WC.skip (WN.thn (WC.seq (WC.reg ?_)))
            refine WL.v (Runs.fld fld35_0 rfl) rfl ?_
            refine WL.v (Runs.load1 Try.underlying32 rfl rfl (h42.ocell (i := 0) rfl rfl)) rfl ?_
            refine WL.v (Runs.llen Try.underlying32 rfl rfl) rfl ?_
            refine WL.v (Runs.fld fld35_0 rfl) rfl ?_
            refine WL.v (Runs.load1 Try.underlying32 rfl rfl (h42.ocell (i := 3) rfl rfl)) rfl ?_
            refine WL.v (Runs.llen Try.underlying32 rfl rfl) rfl ?_
            refine WL.v (Runs.subn rfl rfl (by omega)) rfl ?_
            refine WL.v (Runs.fld fld35_1 rfl) rfl ?_
            refine WL.v (Runs.load1 Try.underlying33 rfl rfl (h42.ocell (i := 0) rfl rfl)) rfl ?_
            refine WL.v (Runs.llen Try.underlying33 rfl rfl) rfl ?_
            refine WL.v (Runs.addn rfl rfl (by omega)) rfl ?_
            refine WL.v (Runs.fld fld35_1 rfl) rfl ?_
            refine WL.v (Runs.load1 Try.underlying33 rfl rfl (h42.ocell (i := 3) rfl rfl)) rfl ?_
            refine WL.v (Runs.llen Try.underlying33 rfl rfl) rfl ?_
            refine WL.v (Runs.intT (n := (((((applyM z r).1.js.length - z.js.length) + ((applyM z r).1.ss.length - z.ss.length)) : Nat) : Int)) (Runs.subn rfl rfl (by omega)) (by omega)) rfl ?_
            refine WL.v (Runs.assign rfl) rfl ?_
            refine WL.nil (WN.thn (WC.seq (WC.seq (WC.reg ?_))))
            refine WL.v (Runs.assign rfl) rfl ?_
            refine WL.nil (WN.thn (WC.block ?_))
            
            refine WC.loop (σ := Nat) (fun q_ => [(2, .pointer (some ⟨b2, 0, none⟩)), (7, .pointer (some ⟨b7, 0, none⟩)), (8, Vi (((((applyM z r).1.js.length - z.js.length) + ((applyM z r).1.ss.length - z.ss.length)) + cnt (dfr z.js (applyM z r).1.js J0) q_ : Nat) : Int)), (9, .int .i64 (q_ : Int))]) (fun q_ w => q_ ≤ z.js.length ∧ St W G38 ([(b7, .cells #[.slice AJ38 (applyM z r).1.js.length cj38, .slice AS38 (applyM z r).1.ss.length cS38, .bool (applyM z r).1.dr] 35 (0, 0))] :: [(b2, .cells #[.slice AJ z.js.length cj, .slice AS z.ss.length cS, .bool z.dr] 35 (0, 0))] :: cs) w) (fun q_ => z.js.length - q_) (0) (by repeat (first | exact trivial | refine ⟨rfl, ?_⟩)) (⟨Nat.zero_le _, (h42.drop 1).drop 1⟩) ?_
            rintro i w43 ⟨hi, hL⟩
            try dsimp only at hi hL
            refine WC.sub (s := [(2, .pointer (some ⟨b2, 0, none⟩)), (7, .pointer (some ⟨b7, 0, none⟩)), (8, Vi (((((applyM z r).1.js.length - z.js.length) + ((applyM z r).1.ss.length - z.ss.length)) + cnt (dfr z.js (applyM z r).1.js J0) i : Nat) : Int)), (9, .int .i64 (i : Int))]) (by repeat (first | exact trivial | refine ⟨rfl, ?_⟩)) ?_
            refine WC.seq (WC.seq (WC.reg ?_))
            refine WL.v (Runs.move rfl) rfl ?_
            refine WL.v (Runs.fld fld35_0 rfl) rfl ?_
            refine WL.v (Runs.load1 Try.underlying32 rfl rfl (hL.ocell (i := 1) rfl rfl)) rfl ?_
            refine WL.v (Runs.llen Try.underlying32 rfl rfl) rfl ?_
            refine WL.v (Runs.lss rfl rfl) rfl ?_
            refine WL.nil (WN.thn ?_)
            refine WC.cond rfl (fun c44 => ?_) (fun c44 => ?_)
            · try simp only [dt, df, nt, nf, ba, il, ie] at c44
              first
              | (exfalso; omega)
              | skip
                refine WC.skip (WN.thn (WC.seq (WC.block (WC.seq ?_))))
                have hi2 : i < z.js.length := by omega
                obtain ⟨ad, c, rfl, hc, hcell⟩ := hR.j.atD J0 hi2
                obtain rfl : c = jc (z.js.getD i J0) := hc
                have hi3 : i < (applyM z r).1.js.length := by omega
                obtain ⟨ad2, c2, rfl, hc2, hcell2⟩ := hZ38.j.atD J0 hi3
                obtain rfl : c2 = jc ((applyM z r).1.js.getD i J0) := hc2
                have hcl := cnt_le (dfr z.js (applyM z r).1.js J0) i
                refine WC.eregK hL hL (fun s_ => ([] : List Nat).any (Nat.beq s_)) mixed (by kernel_rfl) (fun hx => ?_)
                intro w45 h45
                refine WE.p0 hx 0 (by rfl) (fun w_ => Runs.fld fld35_0 rfl) rfl ?_
                refine WE.p0 hx 2 (by rfl) (fun w_ => Runs.move rfl) rfl ?_
                refine WE.p0 hx 5 (by rfl) (fun w_ => Runs.fld fld35_0 rfl) rfl ?_
                refine WE.p0 hx 7 (by rfl) (fun w_ => Runs.move rfl) rfl ?_
                refine WE.v0 12 hx 1 (by rfl) (fun w_ hE_ => Runs.load1 Try.underlying32 rfl rfl (hE_.ocell (i := 1) rfl rfl)) rfl ?_
                refine WE.p0 hx 3 (by rfl) (fun w_ => Runs.lidxK Try.underlying32 inf50 rfl rfl (n := i) rfl hi2) rfl ?_
                refine WE.v0 12 hx 4 (by rfl) (fun w_ hE_ => Runs.loadKF hE_ hcell Try.underlying50 rfl inf50 rfl rfl) rfl ?_
                refine WE.v0 12 hx 6 (by rfl) (fun w_ hE_ => Runs.load1 Try.underlying32 rfl rfl (hE_.ocell (i := 0) rfl rfl)) rfl ?_
                refine WE.p0 hx 8 (by rfl) (fun w_ => Runs.lidxK Try.underlying32 inf50 rfl rfl (n := i) rfl hi3) rfl ?_
                refine WE.v0 12 hx 9 (by rfl) (fun w_ hE_ => Runs.loadKF hE_ hcell2 Try.underlying50 rfl inf50 rfl rfl) rfl ?_
                refine WE.p0 hx 10 (by rfl) (fun w_ => Runs.boolT (c := dfr z.js (applyM z r).1.js J0 i) (Runs.aneq (by kernel_rfl) rfl rfl (eqJob _ (.inr rfl) _ (z.js.getD i J0) ((applyM z r).1.js.getD i J0))) (by unfold dfr; simp)) rfl ?_
                refine WE.fin (.inr h45) (by kernel_rfl) ?_
                refine WN.thn ?_
                refine WC.cond rfl (fun c46 => ?_) (fun c46 => ?_)
                · try simp only [dt, df, nt, nf, ba, il, ie] at c46
                  first
                  | (exfalso; omega)
                  | skip
                    refine WC.reg ?_
                    refine WL.v (Runs.move rfl) rfl ?_
                    refine WL.v (Runs.addn rfl rfl (by omega)) rfl ?_
                    refine WL.v (Runs.assign rfl) rfl ?_
                    refine WL.nil (WN.blk (WN.thn (WC.reg ?_)))
                    refine WL.v (Runs.move rfl) rfl ?_
                    refine WL.v (Runs.addn rfl rfl (by omega)) rfl ?_
                    refine WL.v (Runs.assign rfl) rfl ?_
                    refine WL.nil ?_
                    exact WN.again (i + 1) (by omega) ⟨rfl, rfl, (by show some (Vi _) = some (Vi _); rw [cnt_t (id c46)]), rfl, trivial⟩ ⟨by omega, h45⟩
                · try simp only [dt, df, nt, nf, ba, il, ie] at c46
                  first
                  | (exfalso; omega)
                  | skip
                    refine WC.skip (WN.blk (WN.thn (WC.reg ?_)))
                    refine WL.v (Runs.move rfl) rfl ?_
                    refine WL.v (Runs.addn rfl rfl (by omega)) rfl ?_
                    refine WL.v (Runs.assign rfl) rfl ?_
                    refine WL.nil ?_
                    exact WN.again (i + 1) (by omega) ⟨rfl, rfl, (by show some (Vi _) = some (Vi _); rw [cnt_f (id c46)]), rfl, trivial⟩ ⟨by omega, h45⟩
            · try simp only [dt, df, nt, nf, ba, il, ie] at c44
              first
              | (exfalso; omega)
              | skip
                refine WC.exit (WX.thn (WX.cut (WX.hit (WN.thn (WC.seq ?_)))))
                refine WC.seq (WC.reg ?_)
                refine WL.v (Runs.assign rfl) rfl ?_
                refine WL.nil (WN.thn (WC.block ?_))
                obtain rfl : i = z.js.length := by omega
                refine WC.loop (σ := Nat) (fun q_ => [(2, .pointer (some ⟨b2, 0, none⟩)), (7, .pointer (some ⟨b7, 0, none⟩)), (8, Vi (((((applyM z r).1.js.length - z.js.length) + ((applyM z r).1.ss.length - z.ss.length)) + cnt (dfr z.js (applyM z r).1.js J0) z.js.length + cnt (dfr z.ss (applyM z r).1.ss S0) q_ : Nat) : Int)), (10, .int .i64 (q_ : Int))]) (fun q_ w => q_ ≤ z.ss.length ∧ St W G38 ([(b7, .cells #[.slice AJ38 (applyM z r).1.js.length cj38, .slice AS38 (applyM z r).1.ss.length cS38, .bool (applyM z r).1.dr] 35 (0, 0))] :: [(b2, .cells #[.slice AJ z.js.length cj, .slice AS z.ss.length cS, .bool z.dr] 35 (0, 0))] :: cs) w) (fun q_ => z.ss.length - q_) (0) (by repeat (first | exact trivial | refine ⟨rfl, ?_⟩)) (⟨Nat.zero_le _, hL⟩) ?_
                rintro i w47 ⟨hi, hL⟩
                try dsimp only at hi hL
                refine WC.sub (s := [(2, .pointer (some ⟨b2, 0, none⟩)), (7, .pointer (some ⟨b7, 0, none⟩)), (8, Vi (((((applyM z r).1.js.length - z.js.length) + ((applyM z r).1.ss.length - z.ss.length)) + cnt (dfr z.js (applyM z r).1.js J0) z.js.length + cnt (dfr z.ss (applyM z r).1.ss S0) i : Nat) : Int)), (10, .int .i64 (i : Int))]) (by repeat (first | exact trivial | refine ⟨rfl, ?_⟩)) ?_
                refine WC.seq (WC.seq (WC.reg ?_))
                refine WL.v (Runs.move rfl) rfl ?_
                refine WL.v (Runs.fld fld35_1 rfl) rfl ?_
                refine WL.v (Runs.load1 Try.underlying33 rfl rfl (hL.ocell (i := 1) rfl rfl)) rfl ?_
                refine WL.v (Runs.llen Try.underlying33 rfl rfl) rfl ?_
                refine WL.v (Runs.lss rfl rfl) rfl ?_
                refine WL.nil (WN.thn ?_)
                refine WC.cond rfl (fun c48 => ?_) (fun c48 => ?_)
                · try simp only [dt, df, nt, nf, ba, il, ie] at c48
                  first
                  | (exfalso; omega)
                  | skip
                    refine WC.skip (WN.thn (WC.seq (WC.block (WC.seq ?_))))
                    have hi2 : i < z.ss.length := by omega
                    obtain ⟨ad, c, rfl, hc, hcell⟩ := hR.s.atD S0 hi2
                    obtain ⟨A1, cap1, rfl, hps⟩ := hc
                    have hi3 : i < (applyM z r).1.ss.length := by omega
                    obtain ⟨ad2, c2, rfl, ⟨A2, cap2, rfl, hps2⟩, hcell2⟩ := hZ38.s.atD S0 hi3
                    have hcl := cnt_le (dfr z.ss (applyM z r).1.ss S0) i
                    have hcl0 := cnt_le (dfr z.js (applyM z r).1.js J0) z.js.length
                    refine WC.eregK hL hL (fun s_ => ([] : List Nat).any (Nat.beq s_)) mixed (by kernel_rfl) (fun hx => ?_)
                    intro w49 h49
                    refine WE.p0 hx 0 (by rfl) (fun w_ => Runs.fld fld35_1 rfl) rfl ?_
                    refine WE.p0 hx 2 (by rfl) (fun w_ => Runs.move rfl) rfl ?_
                    refine WE.p0 hx 5 (by rfl) (fun w_ => Runs.fld fld35_1 rfl) rfl ?_
                    refine WE.p0 hx 7 (by rfl) (fun w_ => Runs.move rfl) rfl ?_
                    refine WE.v0 12 hx 1 (by rfl) (fun w_ hE_ => Runs.load1 Try.underlying33 rfl rfl (hE_.ocell (i := 1) rfl rfl)) rfl ?_
                    refine WE.p0 hx 3 (by rfl) (fun w_ => Runs.lidxK Try.underlying33 inf57 rfl rfl (n := i) rfl hi2) rfl ?_
                    refine WE.v0 12 hx 4 (by rfl) (fun w_ hE_ => Runs.loadKF hE_ hcell Try.underlying57 rfl inf57 rfl rfl) rfl ?_
                    refine WE.v0 12 hx 6 (by rfl) (fun w_ hE_ => Runs.load1 Try.underlying33 rfl rfl (hE_.ocell (i := 0) rfl rfl)) rfl ?_
                    refine WE.p0 hx 8 (by rfl) (fun w_ => Runs.lidxK Try.underlying33 inf57 rfl rfl (n := i) rfl hi3) rfl ?_
                    refine WE.v0 12 hx 9 (by rfl) (fun w_ hE_ => Runs.loadKF hE_ hcell2 Try.underlying57 rfl inf57 rfl rfl) rfl ?_
                    refine WE.op (.inr h49) (i := 10) (by rfl) (by kernel_rfl) ?_
                    refine WL.call can31 rfl rfl ((show Calls _ _ #[_, _] _ _ from one_c (a := (z.ss.getD i S0)) (b := ((applyM z r).1.ss.getD i S0)) _ hps hps2 (hz.p _ (memD S0 hi2)) h49)) ?_
                    rintro _ w50 ⟨rfl, h50⟩
                    refine ⟨_, rfl, ?_⟩
                    refine WL.nil (WE.next ?_)
                    refine WE.p0 hx 11 (by rfl) (fun w_ => Runs.boolT (c := dfr z.ss (applyM z r).1.ss S0 i) (Runs.not rfl) (by unfold dfr; simp)) rfl ?_
                    refine WE.fin (.inr h50) (by kernel_rfl) ?_
                    refine WN.thn ?_
                    refine WC.cond rfl (fun c51 => ?_) (fun c51 => ?_)
                    · try simp only [dt, df, nt, nf, ba, il, ie] at c51
                      first
                      | (exfalso; omega)
                      | skip
                        refine WC.reg ?_
                        refine WL.v (Runs.move rfl) rfl ?_
                        refine WL.v (Runs.addn rfl rfl (by omega)) rfl ?_
                        refine WL.v (Runs.assign rfl) rfl ?_
                        refine WL.nil (WN.blk (WN.thn (WC.reg ?_)))
                        refine WL.v (Runs.move rfl) rfl ?_
                        refine WL.v (Runs.addn rfl rfl (by omega)) rfl ?_
                        refine WL.v (Runs.assign rfl) rfl ?_
                        refine WL.nil ?_
                        exact WN.again (i + 1) (by omega) ⟨rfl, rfl, (by show some (Vi _) = some (Vi _); rw [cnt_t (id c51)]), rfl, trivial⟩ ⟨by omega, h50⟩
                    · try simp only [dt, df, nt, nf, ba, il, ie] at c51
                      first
                      | (exfalso; omega)
                      | skip
                        refine WC.skip (WN.blk (WN.thn (WC.reg ?_)))
                        refine WL.v (Runs.move rfl) rfl ?_
                        refine WL.v (Runs.addn rfl rfl (by omega)) rfl ?_
                        refine WL.v (Runs.assign rfl) rfl ?_
                        refine WL.nil ?_
                        exact WN.again (i + 1) (by omega) ⟨rfl, rfl, (by show some (Vi _) = some (Vi _); rw [cnt_f (id c51)]), rfl, trivial⟩ ⟨by omega, h50⟩
                · try simp only [dt, df, nt, nf, ba, il, ie] at c48
                  first
                  | (exfalso; omega)
                  | skip
                    refine WC.exit (WX.thn (WX.cut (WX.hit (WN.thn (WC.seq ?_)))))
                    rcases Bool.eq_false_or_eq_true z.dr with hdr | hdr
                    · obtain rfl : i = z.ss.length := by omega
                      refine WC.reg ?_
                      refine WL.v (Runs.move rfl) rfl ?_
                      refine WL.v (Runs.boolT (c := true) (Runs.eql rfl rfl) (decide_eq_true (by omega))) rfl ?_
                      refine WL.v (Runs.move rfl) rfl ?_
                      refine WL.gon rfl rfl rfl ?_
                      refine WL.v (Runs.fld fld35_2 rfl) rfl ?_
                      refine WL.gon rfl rfl rfl ?_
                      refine WL.v (Runs.load1 Try.underlying4 rfl rfl (hL.ocell (i := 1) rfl rfl)) rfl ?_
                      refine WL.gon rfl rfl rfl ?_
                      refine WL.v (Runs.boolT (c := false) (Runs.not rfl) (by rw [hdr]; rfl)) rfl ?_
                      refine WL.gon rfl rfl rfl ?_
                      refine WL.v (Runs.move rfl) rfl ?_
                      refine WL.gon rfl rfl rfl ?_
                      refine WL.v (Runs.fld fld35_2 rfl) rfl ?_
                      refine WL.gon rfl rfl rfl ?_
                      refine WL.v (Runs.boolT (c := true) (Runs.load1 Try.underlying4 rfl rfl (hL.ocell (i := 0) rfl rfl)) (htn.1 hdr)) rfl ?_
                      refine WL.gon rfl rfl rfl ?_
                      refine WL.v (Runs.pick rfl rfl rfl) rfl ?_
                      refine WL.v (Runs.pick rfl rfl rfl) rfl ?_
                      refine WL.v (Runs.move rfl) rfl ?_
                      refine WL.gon rfl rfl rfl ?_
                      refine WL.call can10 rfl rfl (live_c _ hL) ?_
                      rintro _ w52 ⟨G123, hG123, rfl, h52⟩
                      refine ⟨_, rfl, ?_⟩
                      replace hleF := Le.trans hleF hG123
                      replace hR := hR.mono hG123
                      replace hl := hl.mono hG123
                      replace hZ23 := hZ23.mono hG123
                      replace hZ25 := hZ25.mono hG123
                      replace hZ38 := hZ38.mono hG123
                      refine WL.v (Runs.pick rfl rfl rfl) rfl ?_
                      refine WL.v (Runs.assign rfl) rfl ?_
                      refine WL.nil (WN.thn (WC.ret ?_))
                      have h90 := ((h52.drop 0).drop 0)
                      try simp only [List.eraseIdx_cons_zero] at h90
                      exact ret1 rfl rfl ⟨rfl, h90.weak hleF⟩
                    · obtain rfl : i = z.ss.length := by omega
                      refine WC.reg ?_
                      refine WL.v (Runs.move rfl) rfl ?_
                      refine WL.v (Runs.boolT (c := true) (Runs.eql rfl rfl) (decide_eq_true (by omega))) rfl ?_
                      refine WL.v (Runs.move rfl) rfl ?_
                      refine WL.gon rfl rfl rfl ?_
                      refine WL.v (Runs.fld fld35_2 rfl) rfl ?_
                      refine WL.gon rfl rfl rfl ?_
                      refine WL.v (Runs.load1 Try.underlying4 rfl rfl (hL.ocell (i := 1) rfl rfl)) rfl ?_
                      refine WL.gon rfl rfl rfl ?_
                      refine WL.v (Runs.boolT (c := true) (Runs.not rfl) (by rw [hdr]; rfl)) rfl ?_
                      refine WL.gon rfl rfl rfl ?_
                      refine WL.v (Runs.move rfl) rfl ?_
                      refine WL.goff rfl rfl rfl rfl ?_
                      refine WL.goff rfl rfl rfl rfl ?_
                      refine WL.gon rfl rfl rfl ?_
                      refine WL.v (Runs.pick rfl rfl rfl) rfl ?_
                      refine WL.v (Runs.pick rfl rfl rfl) rfl ?_
                      refine WL.v (Runs.move rfl) rfl ?_
                      refine WL.gon rfl rfl rfl ?_
                      refine WL.call can10 rfl rfl (live_c _ hL) ?_
                      rintro _ w53 ⟨G123, hG123, rfl, h53⟩
                      refine ⟨_, rfl, ?_⟩
                      replace hleF := Le.trans hleF hG123
                      replace hR := hR.mono hG123
                      replace hl := hl.mono hG123
                      replace hZ23 := hZ23.mono hG123
                      replace hZ25 := hZ25.mono hG123
                      replace hZ38 := hZ38.mono hG123
                      refine WL.v (Runs.pick rfl rfl rfl) rfl ?_
                      refine WL.v (Runs.assign rfl) rfl ?_
                      refine WL.nil (WN.thn (WC.ret ?_))
                      have h90 := ((h53.drop 0).drop 0)
                      try simp only [List.eraseIdx_cons_zero] at h90
                      exact ret1 rfl rfl ⟨rfl, h90.weak hleF⟩
    · skip
      refine WL.alloc' rfl h8 inf40 ?_
      intro b5 w54 h54
      refine WL.nil (WE.next ?_)
      refine WE.op (.inr (h54.drop 0)) (i := 1) (by rfl) (by kernel_rfl) ?_
      refine WL.call can17 rfl rfl (own_c _ hz hR h54) ?_
      rintro _ w55 ⟨G23, AJ23, AS23, cj23, cS23, hG23, rfl, hZ23, h55⟩
      refine ⟨_, rfl, ?_⟩
      replace hleF := Le.trans hleF hG23
      replace hR := hR.mono hG23
      replace hl := hl.mono hG23
      refine WL.nil (WE.next ?_)
      refine WE.op (.inr ((h55.weak hG23).drop 0)) (i := 3) (by rfl) (by kernel_rfl) ?_
      refine WL.call can18 rfl rfl (apply_c (r := r) _ hl hrn hz hZ23 h55) ?_
      rintro _ w56 ⟨G25, AJ25, AS25, cj25, cS25, hG25, rfl, hZ25, h56⟩
      refine ⟨_, rfl, ?_⟩
      replace hleF := Le.trans hleF hG25
      replace hR := hR.mono hG25
      replace hl := hl.mono hG25
      replace hZ23 := hZ23.mono hG25
      refine WL.nil (WE.next ?_)
      refine WE.p0 hx 4 (by rfl) (fun w_ => Runs.move rfl) rfl ?_
      refine WE.p0 hx 5 (by rfl) (fun w_ => Runs.extract rfl rfl) rfl ?_
      refine WE.p0 hx 6 (by rfl) (fun w_ => Runs.extract rfl rfl) rfl ?_
      refine WE.op (.inr ((h56.weak (Le.trans hG23 hG25)).drop 0)) (i := 8) (by rfl) (by kernel_rfl) ?_
      refine WL.storeAll h56 0 rfl rfl rfl inf40 rfl rfl rfl (Free.zero _) ?_
      intro  w57 h57
      try simp only [lz, ls, ez, es'] at h57
      refine WL.nil (WE.next ?_)
      refine WE.p0 hx 9 (by rfl) (fun w_ => Runs.assign rfl) rfl ?_
      refine WE.fin (.inl ⟨8, rfl, by kernel_rfl⟩) (by kernel_rfl) ?_
      refine WN.thn (WC.seq (WC.seq (WC.reg ?_)))
      refine WL.v (Runs.move rfl) rfl ?_
      refine WL.v (Runs.boolT (c := decide ((applyM z r).2 ≠ 0)) (Runs.neq rfl rfl) (by simp)) rfl ?_
      refine WL.nil (WN.thn ?_)
      refine WC.cond rfl (fun c58 => ?_) (fun c58 => ?_)
      · try simp only [dt, df, nt, nf, ba, il, ie] at c58
        first
        | (exfalso; omega)
        | skip
          refine WC.seq ?_
          refine WC.eregK h57 h57 (fun s_ => ([] : List Nat).any (Nat.beq s_)) mixed (by kernel_rfl) (fun hx => ?_)
          intro w59 h59
          refine WE.v0 12 hx 0 (by rfl) (fun w_ hE_ => Runs.loadAll hE_ 0 rfl Try.underlying40 rfl inf40 rfl rfl) rfl ?_
          refine WE.v0 12 hx 2 (by rfl) (fun w_ hE_ => Runs.loadAll hE_ 2 rfl Try.underlying35 rfl inf35 rfl rfl) rfl ?_
          refine WE.op (.inr h59) (i := 1) (by rfl) (by kernel_rfl) ?_
          refine WL.call can25 rfl rfl ((show Calls _ _ #[_] _ _ from told_c (z := (applyM z r).1) _ hz1 hZ25 h59)) ?_
          rintro _ w60 ⟨G31, AJ31, AS31, cj31, cS31, hG31, rfl, hZ31, h60⟩
          refine ⟨_, rfl, ?_⟩
          replace hleF := Le.trans hleF hG31
          replace hR := hR.mono hG31
          replace hl := hl.mono hG31
          replace hZ23 := hZ23.mono hG31
          replace hZ25 := hZ25.mono hG31
          refine WL.nil (WE.next ?_)
          refine WE.op (.inr (h60.weak hG31)) (i := 3) (by rfl) (by kernel_rfl) ?_
          refine WL.call can24 rfl rfl ((show Calls _ _ #[_, _] _ _ from qsameT _ (apply_turn.2 (by simpa using c58)) hz1 hZ31 hR h60)) ?_
          rintro _ w61 ⟨rfl, h61⟩
          refine ⟨_, rfl, ?_⟩
          refine WL.nil (WE.next ?_)
          refine WE.p0 hx 4 (by rfl) (fun w_ => Runs.move rfl) rfl ?_
          refine WE.op (.inr (h61.weak hG31)) (i := 5) (by rfl) (by kernel_rfl) ?_
          refine WL.gon rfl rfl rfl ?_
          refine WL.call can10 rfl rfl (live_c _ h61) ?_
          rintro _ w62 ⟨G35, hG35, rfl, h62⟩
          refine ⟨_, rfl, ?_⟩
          replace hleF := Le.trans hleF hG35
          replace hR := hR.mono hG35
          replace hl := hl.mono hG35
          replace hZ23 := hZ23.mono hG35
          replace hZ25 := hZ25.mono hG35
          replace hZ31 := hZ31.mono hG35
          refine WL.nil (WE.next ?_)
          refine WE.p0 hx 6 (by rfl) (fun w_ => Runs.pick rfl rfl rfl) rfl ?_
          refine WE.p0 hx 7 (by rfl) (fun w_ => Runs.assign rfl) rfl ?_
          refine WE.fin (.inr (h62.weak (Le.trans hG31 hG35))) (by kernel_rfl) ?_
          refine WN.thn (WC.ret ?_)
          have h90 := (((h62.drop 0).drop 0).drop 0)
          try simp only [List.eraseIdx_cons_zero] at h90
          exact ret1 rfl rfl ⟨rfl, h90.weak hleF⟩
      · try simp only [dt, df, nt, nf, ba, il, ie] at c58
        first
        | (exfalso; omega)
        | skip
          refine WC.skip (WN.thn (WC.seq (WC.reg ?_)))
          refine WL.v (Runs.loadAll h57 0 rfl Try.underlying40 rfl inf40 rfl rfl) rfl ?_
          refine WL.call can25 rfl rfl ((show Calls _ _ #[_] _ _ from told_c (z := (applyM z r).1) _ hz1 hZ25 h57)) ?_
          rintro _ w63 ⟨G38, AJ38, AS38, cj38, cS38, hG38, rfl, hZ38, h63⟩
          refine ⟨_, rfl, ?_⟩
          replace hleF := Le.trans hleF hG38
          replace hR := hR.mono hG38
          replace hl := hl.mono hG38
          replace hZ23 := hZ23.mono hG38
          replace hZ25 := hZ25.mono hG38
          refine WL.alloc' rfl h63 inf35 ?_
          intro b7 w64 h64
          refine WL.storeAll h64 0 rfl rfl rfl inf35 rfl rfl rfl (Free.zero _) ?_
          intro  w65 h65
          try simp only [lz, ls, ez, es'] at h65
          refine WL.nil (WN.thn (WC.seq (WC.seq ?_)))
          have htn := apply_turn.1 (show (applyM z r).2 = 0 by simpa using c58)
          obtain ⟨ht1, hlj, hlss⟩ := turn_one htn
          have h1j := hz1.j
          have h1s := hz1.s
          have h0j := hz.j
          have h0s := hz.s
          refine WC.reg ?_
          refine WL.v (Runs.fld fld35_0 rfl) rfl ?_
          refine WL.v (Runs.load1 Try.underlying32 rfl rfl (h65.ocell (i := 0) rfl rfl)) rfl ?_
          refine WL.v (Runs.llen Try.underlying32 rfl rfl) rfl ?_
          refine WL.v (Runs.fld fld35_0 rfl) rfl ?_
          refine WL.v (Runs.load1 Try.underlying32 rfl rfl (h65.ocell (i := 3) rfl rfl)) rfl ?_
          refine WL.v (Runs.llen Try.underlying32 rfl rfl) rfl ?_
          refine WL.v (Runs.boolT (c := false) (Runs.lss rfl rfl) (decide_eq_false (by omega))) rfl ?_
          refine WL.v (Runs.move rfl) rfl ?_
          refine WL.gon rfl rfl rfl ?_
          refine WL.v (Runs.fld fld35_1 rfl) rfl ?_
          refine WL.gon rfl rfl rfl ?_
          refine WL.v (Runs.load1 Try.underlying33 rfl rfl (h65.ocell (i := 0) rfl rfl)) rfl ?_
          refine WL.gon rfl rfl rfl ?_
          refine WL.v (Runs.llen Try.underlying33 rfl rfl) rfl ?_
          refine WL.gon rfl rfl rfl ?_
          refine WL.v (Runs.fld fld35_1 rfl) rfl ?_
          refine WL.gon rfl rfl rfl ?_
          refine WL.v (Runs.load1 Try.underlying33 rfl rfl (h65.ocell (i := 3) rfl rfl)) rfl ?_
          refine WL.gon rfl rfl rfl ?_
          refine WL.v (Runs.llen Try.underlying33 rfl rfl) rfl ?_
          refine WL.gon rfl rfl rfl ?_
          refine WL.v (Runs.boolT (c := false) (Runs.lss rfl rfl) (decide_eq_false (by omega))) rfl ?_
          refine WL.v (Runs.pick rfl rfl rfl) rfl ?_
          refine WL.nil (WN.thn ?_)
          refine WC.condF rfl (rfl) ?_
          refine WC.skip (WN.thn (WC.seq (WC.reg ?_)))
          refine WL.v (Runs.fld fld35_0 rfl) rfl ?_
          refine WL.v (Runs.load1 Try.underlying32 rfl rfl (h65.ocell (i := 0) rfl rfl)) rfl ?_
          refine WL.v (Runs.llen Try.underlying32 rfl rfl) rfl ?_
          refine WL.v (Runs.fld fld35_0 rfl) rfl ?_
          refine WL.v (Runs.load1 Try.underlying32 rfl rfl (h65.ocell (i := 3) rfl rfl)) rfl ?_
          refine WL.v (Runs.llen Try.underlying32 rfl rfl) rfl ?_
          refine WL.v (Runs.subn rfl rfl (by omega)) rfl ?_
          refine WL.v (Runs.fld fld35_1 rfl) rfl ?_
          refine WL.v (Runs.load1 Try.underlying33 rfl rfl (h65.ocell (i := 0) rfl rfl)) rfl ?_
          refine WL.v (Runs.llen Try.underlying33 rfl rfl) rfl ?_
          refine WL.v (Runs.addn rfl rfl (by omega)) rfl ?_
          refine WL.v (Runs.fld fld35_1 rfl) rfl ?_
          refine WL.v (Runs.load1 Try.underlying33 rfl rfl (h65.ocell (i := 3) rfl rfl)) rfl ?_
          refine WL.v (Runs.llen Try.underlying33 rfl rfl) rfl ?_
          refine WL.v (Runs.intT (n := (((((applyM z r).1.js.length - z.js.length) + ((applyM z r).1.ss.length - z.ss.length)) : Nat) : Int)) (Runs.subn rfl rfl (by omega)) (by omega)) rfl ?_
          refine WL.v (Runs.assign rfl) rfl ?_
          refine WL.nil (WN.thn (WC.seq (WC.seq (WC.reg ?_))))
          refine WL.v (Runs.assign rfl) rfl ?_
          refine WL.nil (WN.thn (WC.block ?_))
          
          refine WC.loop (σ := Nat) (fun q_ => [(2, .pointer (some ⟨b2, 0, none⟩)), (7, .pointer (some ⟨b7, 0, none⟩)), (8, Vi (((((applyM z r).1.js.length - z.js.length) + ((applyM z r).1.ss.length - z.ss.length)) + cnt (dfr z.js (applyM z r).1.js J0) q_ : Nat) : Int)), (9, .int .i64 (q_ : Int))]) (fun q_ w => q_ ≤ z.js.length ∧ St W G38 ([(b7, .cells #[.slice AJ38 (applyM z r).1.js.length cj38, .slice AS38 (applyM z r).1.ss.length cS38, .bool (applyM z r).1.dr] 35 (0, 0))] :: [(b2, .cells #[.slice AJ z.js.length cj, .slice AS z.ss.length cS, .bool z.dr] 35 (0, 0))] :: cs) w) (fun q_ => z.js.length - q_) (0) (by repeat (first | exact trivial | refine ⟨rfl, ?_⟩)) (⟨Nat.zero_le _, (h65.drop 1).drop 1⟩) ?_
          rintro i w66 ⟨hi, hL⟩
          try dsimp only at hi hL
          refine WC.sub (s := [(2, .pointer (some ⟨b2, 0, none⟩)), (7, .pointer (some ⟨b7, 0, none⟩)), (8, Vi (((((applyM z r).1.js.length - z.js.length) + ((applyM z r).1.ss.length - z.ss.length)) + cnt (dfr z.js (applyM z r).1.js J0) i : Nat) : Int)), (9, .int .i64 (i : Int))]) (by repeat (first | exact trivial | refine ⟨rfl, ?_⟩)) ?_
          refine WC.seq (WC.seq (WC.reg ?_))
          refine WL.v (Runs.move rfl) rfl ?_
          refine WL.v (Runs.fld fld35_0 rfl) rfl ?_
          refine WL.v (Runs.load1 Try.underlying32 rfl rfl (hL.ocell (i := 1) rfl rfl)) rfl ?_
          refine WL.v (Runs.llen Try.underlying32 rfl rfl) rfl ?_
          refine WL.v (Runs.lss rfl rfl) rfl ?_
          refine WL.nil (WN.thn ?_)
          refine WC.cond rfl (fun c67 => ?_) (fun c67 => ?_)
          · try simp only [dt, df, nt, nf, ba, il, ie] at c67
            first
            | (exfalso; omega)
            | skip
              refine WC.skip (WN.thn (WC.seq (WC.block (WC.seq ?_))))
              have hi2 : i < z.js.length := by omega
              obtain ⟨ad, c, rfl, hc, hcell⟩ := hR.j.atD J0 hi2
              obtain rfl : c = jc (z.js.getD i J0) := hc
              have hi3 : i < (applyM z r).1.js.length := by omega
              obtain ⟨ad2, c2, rfl, hc2, hcell2⟩ := hZ38.j.atD J0 hi3
              obtain rfl : c2 = jc ((applyM z r).1.js.getD i J0) := hc2
              have hcl := cnt_le (dfr z.js (applyM z r).1.js J0) i
              refine WC.eregK hL hL (fun s_ => ([] : List Nat).any (Nat.beq s_)) mixed (by kernel_rfl) (fun hx => ?_)
              intro w68 h68
              refine WE.p0 hx 0 (by rfl) (fun w_ => Runs.fld fld35_0 rfl) rfl ?_
              refine WE.p0 hx 2 (by rfl) (fun w_ => Runs.move rfl) rfl ?_
              refine WE.p0 hx 5 (by rfl) (fun w_ => Runs.fld fld35_0 rfl) rfl ?_
              refine WE.p0 hx 7 (by rfl) (fun w_ => Runs.move rfl) rfl ?_
              refine WE.v0 12 hx 1 (by rfl) (fun w_ hE_ => Runs.load1 Try.underlying32 rfl rfl (hE_.ocell (i := 1) rfl rfl)) rfl ?_
              refine WE.p0 hx 3 (by rfl) (fun w_ => Runs.lidxK Try.underlying32 inf50 rfl rfl (n := i) rfl hi2) rfl ?_
              refine WE.v0 12 hx 4 (by rfl) (fun w_ hE_ => Runs.loadKF hE_ hcell Try.underlying50 rfl inf50 rfl rfl) rfl ?_
              refine WE.v0 12 hx 6 (by rfl) (fun w_ hE_ => Runs.load1 Try.underlying32 rfl rfl (hE_.ocell (i := 0) rfl rfl)) rfl ?_
              refine WE.p0 hx 8 (by rfl) (fun w_ => Runs.lidxK Try.underlying32 inf50 rfl rfl (n := i) rfl hi3) rfl ?_
              refine WE.v0 12 hx 9 (by rfl) (fun w_ hE_ => Runs.loadKF hE_ hcell2 Try.underlying50 rfl inf50 rfl rfl) rfl ?_
              refine WE.p0 hx 10 (by rfl) (fun w_ => Runs.boolT (c := dfr z.js (applyM z r).1.js J0 i) (Runs.aneq (by kernel_rfl) rfl rfl (eqJob _ (.inr rfl) _ (z.js.getD i J0) ((applyM z r).1.js.getD i J0))) (by unfold dfr; simp)) rfl ?_
              refine WE.fin (.inr h68) (by kernel_rfl) ?_
              refine WN.thn ?_
              refine WC.cond rfl (fun c69 => ?_) (fun c69 => ?_)
              · try simp only [dt, df, nt, nf, ba, il, ie] at c69
                first
                | (exfalso; omega)
                | skip
                  refine WC.reg ?_
                  refine WL.v (Runs.move rfl) rfl ?_
                  refine WL.v (Runs.addn rfl rfl (by omega)) rfl ?_
                  refine WL.v (Runs.assign rfl) rfl ?_
                  refine WL.nil (WN.blk (WN.thn (WC.reg ?_)))
                  refine WL.v (Runs.move rfl) rfl ?_
                  refine WL.v (Runs.addn rfl rfl (by omega)) rfl ?_
                  refine WL.v (Runs.assign rfl) rfl ?_
                  refine WL.nil ?_
                  exact WN.again (i + 1) (by omega) ⟨rfl, rfl, (by show some (Vi _) = some (Vi _); rw [cnt_t (id c69)]), rfl, trivial⟩ ⟨by omega, h68⟩
              · try simp only [dt, df, nt, nf, ba, il, ie] at c69
                first
                | (exfalso; omega)
                | skip
                  refine WC.skip (WN.blk (WN.thn (WC.reg ?_)))
                  refine WL.v (Runs.move rfl) rfl ?_
                  refine WL.v (Runs.addn rfl rfl (by omega)) rfl ?_
                  refine WL.v (Runs.assign rfl) rfl ?_
                  refine WL.nil ?_
                  exact WN.again (i + 1) (by omega) ⟨rfl, rfl, (by show some (Vi _) = some (Vi _); rw [cnt_f (id c69)]), rfl, trivial⟩ ⟨by omega, h68⟩
          · try simp only [dt, df, nt, nf, ba, il, ie] at c67
            first
            | (exfalso; omega)
            | skip
              refine WC.exit (WX.thn (WX.cut (WX.hit (WN.thn (WC.seq ?_)))))
              refine WC.seq (WC.reg ?_)
              refine WL.v (Runs.assign rfl) rfl ?_
              refine WL.nil (WN.thn (WC.block ?_))
              obtain rfl : i = z.js.length := by omega
              refine WC.loop (σ := Nat) (fun q_ => [(2, .pointer (some ⟨b2, 0, none⟩)), (7, .pointer (some ⟨b7, 0, none⟩)), (8, Vi (((((applyM z r).1.js.length - z.js.length) + ((applyM z r).1.ss.length - z.ss.length)) + cnt (dfr z.js (applyM z r).1.js J0) z.js.length + cnt (dfr z.ss (applyM z r).1.ss S0) q_ : Nat) : Int)), (10, .int .i64 (q_ : Int))]) (fun q_ w => q_ ≤ z.ss.length ∧ St W G38 ([(b7, .cells #[.slice AJ38 (applyM z r).1.js.length cj38, .slice AS38 (applyM z r).1.ss.length cS38, .bool (applyM z r).1.dr] 35 (0, 0))] :: [(b2, .cells #[.slice AJ z.js.length cj, .slice AS z.ss.length cS, .bool z.dr] 35 (0, 0))] :: cs) w) (fun q_ => z.ss.length - q_) (0) (by repeat (first | exact trivial | refine ⟨rfl, ?_⟩)) (⟨Nat.zero_le _, hL⟩) ?_
              rintro i w70 ⟨hi, hL⟩
              try dsimp only at hi hL
              refine WC.sub (s := [(2, .pointer (some ⟨b2, 0, none⟩)), (7, .pointer (some ⟨b7, 0, none⟩)), (8, Vi (((((applyM z r).1.js.length - z.js.length) + ((applyM z r).1.ss.length - z.ss.length)) + cnt (dfr z.js (applyM z r).1.js J0) z.js.length + cnt (dfr z.ss (applyM z r).1.ss S0) i : Nat) : Int)), (10, .int .i64 (i : Int))]) (by repeat (first | exact trivial | refine ⟨rfl, ?_⟩)) ?_
              refine WC.seq (WC.seq (WC.reg ?_))
              refine WL.v (Runs.move rfl) rfl ?_
              refine WL.v (Runs.fld fld35_1 rfl) rfl ?_
              refine WL.v (Runs.load1 Try.underlying33 rfl rfl (hL.ocell (i := 1) rfl rfl)) rfl ?_
              refine WL.v (Runs.llen Try.underlying33 rfl rfl) rfl ?_
              refine WL.v (Runs.lss rfl rfl) rfl ?_
              refine WL.nil (WN.thn ?_)
              refine WC.cond rfl (fun c71 => ?_) (fun c71 => ?_)
              · try simp only [dt, df, nt, nf, ba, il, ie] at c71
                first
                | (exfalso; omega)
                | skip
                  refine WC.skip (WN.thn (WC.seq (WC.block (WC.seq ?_))))
                  have hi2 : i < z.ss.length := by omega
                  obtain ⟨ad, c, rfl, hc, hcell⟩ := hR.s.atD S0 hi2
                  obtain ⟨A1, cap1, rfl, hps⟩ := hc
                  have hi3 : i < (applyM z r).1.ss.length := by omega
                  obtain ⟨ad2, c2, rfl, ⟨A2, cap2, rfl, hps2⟩, hcell2⟩ := hZ38.s.atD S0 hi3
                  have hcl := cnt_le (dfr z.ss (applyM z r).1.ss S0) i
                  have hcl0 := cnt_le (dfr z.js (applyM z r).1.js J0) z.js.length
                  refine WC.eregK hL hL (fun s_ => ([] : List Nat).any (Nat.beq s_)) mixed (by kernel_rfl) (fun hx => ?_)
                  intro w72 h72
                  refine WE.p0 hx 0 (by rfl) (fun w_ => Runs.fld fld35_1 rfl) rfl ?_
                  refine WE.p0 hx 2 (by rfl) (fun w_ => Runs.move rfl) rfl ?_
                  refine WE.p0 hx 5 (by rfl) (fun w_ => Runs.fld fld35_1 rfl) rfl ?_
                  refine WE.p0 hx 7 (by rfl) (fun w_ => Runs.move rfl) rfl ?_
                  refine WE.v0 12 hx 1 (by rfl) (fun w_ hE_ => Runs.load1 Try.underlying33 rfl rfl (hE_.ocell (i := 1) rfl rfl)) rfl ?_
                  refine WE.p0 hx 3 (by rfl) (fun w_ => Runs.lidxK Try.underlying33 inf57 rfl rfl (n := i) rfl hi2) rfl ?_
                  refine WE.v0 12 hx 4 (by rfl) (fun w_ hE_ => Runs.loadKF hE_ hcell Try.underlying57 rfl inf57 rfl rfl) rfl ?_
                  refine WE.v0 12 hx 6 (by rfl) (fun w_ hE_ => Runs.load1 Try.underlying33 rfl rfl (hE_.ocell (i := 0) rfl rfl)) rfl ?_
                  refine WE.p0 hx 8 (by rfl) (fun w_ => Runs.lidxK Try.underlying33 inf57 rfl rfl (n := i) rfl hi3) rfl ?_
                  refine WE.v0 12 hx 9 (by rfl) (fun w_ hE_ => Runs.loadKF hE_ hcell2 Try.underlying57 rfl inf57 rfl rfl) rfl ?_
                  refine WE.op (.inr h72) (i := 10) (by rfl) (by kernel_rfl) ?_
                  refine WL.call can31 rfl rfl ((show Calls _ _ #[_, _] _ _ from one_c (a := (z.ss.getD i S0)) (b := ((applyM z r).1.ss.getD i S0)) _ hps hps2 (hz.p _ (memD S0 hi2)) h72)) ?_
                  rintro _ w73 ⟨rfl, h73⟩
                  refine ⟨_, rfl, ?_⟩
                  refine WL.nil (WE.next ?_)
                  refine WE.p0 hx 11 (by rfl) (fun w_ => Runs.boolT (c := dfr z.ss (applyM z r).1.ss S0 i) (Runs.not rfl) (by unfold dfr; simp)) rfl ?_
                  refine WE.fin (.inr h73) (by kernel_rfl) ?_
                  refine WN.thn ?_
                  refine WC.cond rfl (fun c74 => ?_) (fun c74 => ?_)
                  · try simp only [dt, df, nt, nf, ba, il, ie] at c74
                    first
                    | (exfalso; omega)
                    | skip
                      refine WC.reg ?_
                      refine WL.v (Runs.move rfl) rfl ?_
                      refine WL.v (Runs.addn rfl rfl (by omega)) rfl ?_
                      refine WL.v (Runs.assign rfl) rfl ?_
                      refine WL.nil (WN.blk (WN.thn (WC.reg ?_)))
                      refine WL.v (Runs.move rfl) rfl ?_
                      refine WL.v (Runs.addn rfl rfl (by omega)) rfl ?_
                      refine WL.v (Runs.assign rfl) rfl ?_
                      refine WL.nil ?_
                      exact WN.again (i + 1) (by omega) ⟨rfl, rfl, (by show some (Vi _) = some (Vi _); rw [cnt_t (id c74)]), rfl, trivial⟩ ⟨by omega, h73⟩
                  · try simp only [dt, df, nt, nf, ba, il, ie] at c74
                    first
                    | (exfalso; omega)
                    | skip
                      refine WC.skip (WN.blk (WN.thn (WC.reg ?_)))
                      refine WL.v (Runs.move rfl) rfl ?_
                      refine WL.v (Runs.addn rfl rfl (by omega)) rfl ?_
                      refine WL.v (Runs.assign rfl) rfl ?_
                      refine WL.nil ?_
                      exact WN.again (i + 1) (by omega) ⟨rfl, rfl, (by show some (Vi _) = some (Vi _); rw [cnt_f (id c74)]), rfl, trivial⟩ ⟨by omega, h73⟩
              · try simp only [dt, df, nt, nf, ba, il, ie] at c71
                first
                | (exfalso; omega)
                | skip
                  refine WC.exit (WX.thn (WX.cut (WX.hit (WN.thn (WC.seq ?_)))))
                  rcases Bool.eq_false_or_eq_true z.dr with hdr | hdr
                  · obtain rfl : i = z.ss.length := by omega
                    refine WC.reg ?_
                    refine WL.v (Runs.move rfl) rfl ?_
                    refine WL.v (Runs.boolT (c := true) (Runs.eql rfl rfl) (decide_eq_true (by omega))) rfl ?_
                    refine WL.v (Runs.move rfl) rfl ?_
                    refine WL.gon rfl rfl rfl ?_
                    refine WL.v (Runs.fld fld35_2 rfl) rfl ?_
                    refine WL.gon rfl rfl rfl ?_
                    refine WL.v (Runs.load1 Try.underlying4 rfl rfl (hL.ocell (i := 1) rfl rfl)) rfl ?_
                    refine WL.gon rfl rfl rfl ?_
                    refine WL.v (Runs.boolT (c := false) (Runs.not rfl) (by rw [hdr]; rfl)) rfl ?_
                    refine WL.gon rfl rfl rfl ?_
                    refine WL.v (Runs.move rfl) rfl ?_
                    refine WL.gon rfl rfl rfl ?_
                    refine WL.v (Runs.fld fld35_2 rfl) rfl ?_
                    refine WL.gon rfl rfl rfl ?_
                    refine WL.v (Runs.boolT (c := true) (Runs.load1 Try.underlying4 rfl rfl (hL.ocell (i := 0) rfl rfl)) (htn.1 hdr)) rfl ?_
                    refine WL.gon rfl rfl rfl ?_
                    refine WL.v (Runs.pick rfl rfl rfl) rfl ?_
                    refine WL.v (Runs.pick rfl rfl rfl) rfl ?_
                    refine WL.v (Runs.move rfl) rfl ?_
                    refine WL.gon rfl rfl rfl ?_
                    refine WL.call can10 rfl rfl (live_c _ hL) ?_
                    rintro _ w75 ⟨G123, hG123, rfl, h75⟩
                    refine ⟨_, rfl, ?_⟩
                    replace hleF := Le.trans hleF hG123
                    replace hR := hR.mono hG123
                    replace hl := hl.mono hG123
                    replace hZ23 := hZ23.mono hG123
                    replace hZ25 := hZ25.mono hG123
                    replace hZ38 := hZ38.mono hG123
                    refine WL.v (Runs.pick rfl rfl rfl) rfl ?_
                    refine WL.v (Runs.assign rfl) rfl ?_
                    refine WL.nil (WN.thn (WC.ret ?_))
                    have h90 := ((h75.drop 0).drop 0)
                    try simp only [List.eraseIdx_cons_zero] at h90
                    exact ret1 rfl rfl ⟨rfl, h90.weak hleF⟩
                  · obtain rfl : i = z.ss.length := by omega
                    refine WC.reg ?_
                    refine WL.v (Runs.move rfl) rfl ?_
                    refine WL.v (Runs.boolT (c := true) (Runs.eql rfl rfl) (decide_eq_true (by omega))) rfl ?_
                    refine WL.v (Runs.move rfl) rfl ?_
                    refine WL.gon rfl rfl rfl ?_
                    refine WL.v (Runs.fld fld35_2 rfl) rfl ?_
                    refine WL.gon rfl rfl rfl ?_
                    refine WL.v (Runs.load1 Try.underlying4 rfl rfl (hL.ocell (i := 1) rfl rfl)) rfl ?_
                    refine WL.gon rfl rfl rfl ?_
                    refine WL.v (Runs.boolT (c := true) (Runs.not rfl) (by rw [hdr]; rfl)) rfl ?_
                    refine WL.gon rfl rfl rfl ?_
                    refine WL.v (Runs.move rfl) rfl ?_
                    refine WL.goff rfl rfl rfl rfl ?_
                    refine WL.goff rfl rfl rfl rfl ?_
                    refine WL.gon rfl rfl rfl ?_
                    refine WL.v (Runs.pick rfl rfl rfl) rfl ?_
                    refine WL.v (Runs.pick rfl rfl rfl) rfl ?_
                    refine WL.v (Runs.move rfl) rfl ?_
                    refine WL.gon rfl rfl rfl ?_
                    refine WL.call can10 rfl rfl (live_c _ hL) ?_
                    rintro _ w76 ⟨G123, hG123, rfl, h76⟩
                    refine ⟨_, rfl, ?_⟩
                    replace hleF := Le.trans hleF hG123
                    replace hR := hR.mono hG123
                    replace hl := hl.mono hG123
                    replace hZ23 := hZ23.mono hG123
                    replace hZ25 := hZ25.mono hG123
                    replace hZ38 := hZ38.mono hG123
                    refine WL.v (Runs.pick rfl rfl rfl) rfl ?_
                    refine WL.v (Runs.assign rfl) rfl ?_
                    refine WL.nil (WN.thn (WC.ret ?_))
                    have h90 := ((h76.drop 0).drop 0)
                    try simp only [List.eraseIdx_cons_zero] at h90
                    exact ret1 rfl rfl ⟨rfl, h90.weak hleF⟩
end Rc
end Go.Proofs.Ythejglgnoingfaa
