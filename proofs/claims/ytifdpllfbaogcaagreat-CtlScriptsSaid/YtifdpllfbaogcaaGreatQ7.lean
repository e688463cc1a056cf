/- Joined texts: Y6 .. Y13. -/
import Derived.Test.YtifdpllfbaogcaaGreatQ6
import Derived.KernelRfl
set_option linter.unusedVariables false
set_option linter.unusedSimpArgs false
set_option maxRecDepth 100000
set_option maxHeartbeats 32000000
namespace Go.Proofs.YtifdpllfbaogcaaGreat
open Go Go.RowKit B Tryz
variable {W : World} {F : Snap}
open Dg (S E S0 E0 KS KE chkM settleM readyM overM withM okAll)
open Tal (T TR RR okN)
open Wir (M encB decB mayM mayN numB textB)
open Cr (C signM)
namespace Ct
theorem inf38 : Inf prog 38 (.agg #[.int .i64 0, .slice none 0 0, .slice none 0 0, .int .i64 0, .string ⟨#[]⟩, .int .i64 0]) 6 88 := by unfold Inf; kernel_rfl
structure O where
 d : Int
 ns : List Int
 ss : List S
 n : Int
 tx : List UInt8
 now : Int
def O.cs (o : O) (A : Option Addr) (cap : Nat) (B : Option Addr) (cap2 : Nat) : List Value := [Vi o.d, .slice A o.ns.length cap, .slice B o.ss.length cap2, Vi o.n, .string (bs o.tx), Vi o.now]
def KO : Kd O := ⟨6, fun F o c => ∃ A cap B cap2, c = o.cs A cap B cap2 ∧ RdS (Kd.one Vi) F A o.ns ∧ RdS KS F B o.ss ∧ o.ss.length ≤ 9223372036854775807, fun ⟨_, _, _, _, h, _⟩ => by rw [h]; rfl, fun hle ⟨A, cap, B, cap2, h, h1, h2, h3⟩ => ⟨A, cap, B, cap2, h, h1.mono hle, h2.mono hle, h3⟩⟩
def O0 : O := ⟨0, [], [], 0, [], 0⟩
theorem opAt {F : Snap} {A : Option Addr} {l : List O} {i : Nat} (h : RdS KO F A l) (hi : i < l.length) : ∃ ad A1 cap1 B1 cap2, A = some ad ∧ RdS (Kd.one Vi) F A1 (l.getD i O0).ns ∧ RdS KS F B1 (l.getD i O0).ss ∧ (l.getD i O0).ss.length ≤ 9223372036854775807 ∧ ∀ j v, ((l.getD i O0).cs A1 cap1 B1 cap2)[j]? = some v → cellF F (ad.add (i * 6 + j)) = some v := by
 obtain ⟨ad, c, hA, ⟨A1, cap1, B1, cap2, hc, h1, h2, h3⟩, hr⟩ := h.at_ (i := i) (x := l.getD i O0) (by rw [gD, gE hi]; rfl)
 subst hc
 exact ⟨ad, A1, cap1, B1, cap2, hA, h1, h2, h3, hr⟩
def O.small (o : O) : Prop := o.tx.length ≤ 300 ∧ o.ns.length ≤ 30 ∧ Dg.smallL o.ss
instance (o : O) : Decidable o.small := inferInstanceAs (Decidable (_ ∧ _ ∧ _))
def fewO (l : List O) (most : Int) : Bool := (l.all fun o => decide o.small) && decide ((l.length : Int) ≤ most)
theorem fewO.at_ {l : List O} {m : Int} (h : fewO l m = true) {i : Nat} (hi : i < l.length) : (l.getD i O0).small := by
 unfold fewO at h
 rw [Bool.and_eq_true] at h
 exact of_decide_eq_true (List.all_eq_true.1 h.1 _ (getD_mem hi))
theorem few_f {l : List O} {m : Int} {i : Nat} (hi : i < l.length) (h : ¬ (l.getD i O0).small) : fewO l m = false := by
 refine Bool.eq_false_iff.2 fun hh => h (fewO.at_ hh hi)
theorem few_y {l : List O} {m : Int} (h : ∀ i, i < l.length → (l.getD i O0).small) : fewO l m = decide ((l.length : Int) ≤ m) := by
 unfold fewO
 rw [show (l.all fun o => decide o.small) = true from List.all_eq_true.2 fun o ho => dA (by
  obtain ⟨i, hi, e⟩ := List.getElem_of_mem ho
  have := h i hi
  rwa [gD, gE hi, Option.getD_some, e] at this)]
 rfl
def O.run (o : O) (js : List J) : List J := if o.d = 0 then (subM js o.ns o.ss).2 else if o.d = 1 then (canM js o.n).2 else if o.d = 2 then (delM js o.tx).2 else js
theorem O.run_0 {o : O} {js : List J} (h : o.d = 0) : o.run js = (subM js o.ns o.ss).2 := if_pos h
theorem O.run_1 {o : O} {js : List J} (h : ¬ o.d = 0) (h1 : o.d = 1) : o.run js = (canM js o.n).2 := (if_neg h).trans (if_pos h1)
theorem O.run_2 {o : O} {js : List J} (h : ¬ o.d = 0) (h1 : ¬ o.d = 1) (h2 : o.d = 2) : o.run js = (delM js o.tx).2 := (if_neg h).trans ((if_neg h1).trans (if_pos h2))
theorem O.run_3 {o : O} {js : List J} (h : ¬ o.d = 0) (h1 : ¬ o.d = 1) (h2 : ¬ o.d = 2) : o.run js = js := (if_neg h).trans ((if_neg h1).trans (if_neg h2))
theorem sm_cases (o : O) : 300 < o.tx.length ∨ (o.tx.length ≤ 300 ∧ 30 < o.ns.length) ∨ (o.tx.length ≤ 300 ∧ o.ns.length ≤ 30 ∧ ¬ Dg.smallL o.ss) ∨ (o.tx.length ≤ 300 ∧ o.ns.length ≤ 30 ∧ Dg.smallL o.ss) := by
 by_cases h : Dg.smallL o.ss
 ·by_cases h1 : o.tx.length ≤ 300 <;> by_cases h2 : o.ns.length ≤ 30
  ·exact .inr (.inr (.inr ⟨h1, h2, h⟩))
  ·exact .inr (.inl ⟨h1, by omega⟩)
  ·exact .inl (by omega)
  exact .inl (by omega)
 by_cases h1 : o.tx.length ≤ 300 <;> by_cases h2 : o.ns.length ≤ 30
 ·exact .inr (.inr (.inl ⟨h1, h2, h⟩))
 ·exact .inr (.inl ⟨h1, by omega⟩)
 ·exact .inl (by omega)
 exact .inl (by omega)
theorem smallO_c {cs : List Res} (w : World) {A : Option Addr} {cap : Nat} {l : List O} (most : Int) (h : St W F cs w) (hR : RdS KO F A l) (hl : l.length ≤ 9223372036854775807) : Calls prog 10 #[.slice A l.length cap, Vi most] w fun r w' => r = .returned (.bool (fewO l most)) ∧ St W F cs w'  := by
 refine enter (args := [.slice A l.length cap, Vi most]) func10 rfl rfl rfl<|Wi<|C0 1 rfl<|Wh<|C0 1 rfl<|Wj<|B3 (σ := Nat) (fun q_ => [(0, .slice A l.length cap), (1, Vi most), (5, .int .i64 (q_ : Int))]) (fun q_ w => q_ ≤ l.length ∧ (∀ j, j < q_ → (l.getD j O0).small) ∧ St W F cs w) (fun q_ => l.length - q_) (0) (⟨Nat.zero_le _, fun j hj => absurd hj (Nat.not_lt_zero _), h⟩) ?_
 rintro i w1 ⟨hi, hsm, hL⟩
 try dsimp only at hi hsm hL
 refine W2 [(0, .slice A l.length cap), (1, Vi most), (5, .int .i64 (i : Int))]<|N0<|Wi<|C0 2 rfl<|I0 (R0 (n := (l.length : Int)) (Y0 underlying22 rfl rfl) rfl) rfl<|C0 1 rfl<|Wa<|Z0 rfl (fun c2 => ?_) (fun c2 => ?_)
 ·try simp only [DD] at c2
  refine U0 (H0 (N0 (M1 (N0 ?_))))
  have hi2 : i < l.length := by omega
  obtain ⟨ad, A1, cap1, B1, cap2, rfl, hA1, hS1, hsl, hcell⟩ := opAt hR hi2
  rcases sm_cases (l.getD i O0) with hq1 | ⟨hq1, hq2⟩ | ⟨hq1, hq2, hq3⟩ | ⟨hq1, hq2, hq3⟩
  ·have hbad : ¬ (l.getD i O0).small := fun hh => by have := hh.1; omega
   refine L0<|C0 2 rfl<|I0 (N2 underlying22 inf38 rfl rfl (n := i) rfl (by omega)) rfl<|C0 1 rfl<|I0 (K0 underlying9 rfl rfl (by rw [add_add]; exact hL.cell (hcell 4 _ rfl))) rfl<|I0 (R0 (n := ((l.getD i O0).tx.length : Int)) (E3 underlying9 rfl rfl) rfl) rfl<|I0 (Bt (Y1 rfl rfl) (dA (by omega))) rfl<|C0 20 rfl<|Wa<|J1 rfl (rfl)<|Wi<|C0 1 rfl<|Wg<|ret1 rfl rfl ⟨by rw [few_f hi2 hbad], hL⟩
  ·have hbad : ¬ (l.getD i O0).small := fun hh => by have := hh.2.1; omega
   refine L0<|C0 2 rfl<|I0 (N2 underlying22 inf38 rfl rfl (n := i) rfl (by omega)) rfl<|C0 1 rfl<|I0 (K0 underlying9 rfl rfl (by rw [add_add]; exact hL.cell (hcell 4 _ rfl))) rfl<|I0 (R0 (n := ((l.getD i O0).tx.length : Int)) (E3 underlying9 rfl rfl) rfl) rfl<|I0 (Bf (Y1 rfl rfl) (dN (by omega))) rfl<|C0 3 rfl<|Q0 rfl<|I0 (N2 underlying22 inf38 rfl rfl (n := i) rfl (by omega)) rfl<|C0 2 rfl<|Q0 rfl<|I0 (K0 underlying33 rfl rfl (by rw [add_add, add_add]; exact hL.cell (hcell 1 _ rfl))) rfl<|Q0 rfl<|I0 (R0 (n := ((l.getD i O0).ns.length : Int)) (Y0 underlying33 rfl rfl) rfl) rfl<|Q0 rfl<|I0 (Bt (Y1 rfl rfl) (dA (by omega))) rfl<|C0 11 rfl<|Wa<|J1 rfl (rfl)<|Wi<|C0 1 rfl<|Wg<|ret1 rfl rfl ⟨by rw [few_f hi2 hbad], hL⟩
  ·have hbad : ¬ (l.getD i O0).small := fun hh => hq3 hh.2.2
   refine L0<|C0 2 rfl<|I0 (N2 underlying22 inf38 rfl rfl (n := i) rfl (by omega)) rfl<|C0 1 rfl<|I0 (K0 underlying9 rfl rfl (by rw [add_add]; exact hL.cell (hcell 4 _ rfl))) rfl<|I0 (R0 (n := ((l.getD i O0).tx.length : Int)) (E3 underlying9 rfl rfl) rfl) rfl<|I0 (Bf (Y1 rfl rfl) (dN (by omega))) rfl<|C0 3 rfl<|Q0 rfl<|I0 (N2 underlying22 inf38 rfl rfl (n := i) rfl (by omega)) rfl<|C0 2 rfl<|Q0 rfl<|I0 (K0 underlying33 rfl rfl (by rw [add_add, add_add]; exact hL.cell (hcell 1 _ rfl))) rfl<|Q0 rfl<|I0 (R0 (n := ((l.getD i O0).ns.length : Int)) (Y0 underlying33 rfl rfl) rfl) rfl<|Q0 rfl<|I0 (Bf (Y1 rfl rfl) (dN (by omega))) rfl<|C0 4 rfl<|Q0 rfl<|I0 (N2 underlying22 inf38 rfl rfl (n := i) rfl (by omega)) rfl<|C0 2 rfl<|Q0 rfl<|I0 (K0 underlying34 rfl rfl (by rw [add_add, add_add]; exact hL.cell (hcell 2 _ rfl))) rfl<|Q0 rfl<|C1 (cn func23) rfl rfl (Dg.small_c _ hL hS1 hsl) fun w3 h3 =>Q0 rfl<|I0 (Bt (R1 rfl) (by rw [dN hq3]; rfl)) rfl<|C0 1 rfl<|Wa<|J1 rfl (rfl)<|Wi<|C0 1 rfl<|Wg<|ret1 rfl rfl ⟨by rw [few_f hi2 hbad], h3⟩
  have hgood : (l.getD i O0).small := ⟨hq1, hq2, hq3⟩
  refine L0<|C0 2 rfl<|I0 (N2 underlying22 inf38 rfl rfl (n := i) rfl (by omega)) rfl<|C0 1 rfl<|I0 (K0 underlying9 rfl rfl (by rw [add_add]; exact hL.cell (hcell 4 _ rfl))) rfl<|I0 (R0 (n := ((l.getD i O0).tx.length : Int)) (E3 underlying9 rfl rfl) rfl) rfl<|I0 (Bf (Y1 rfl rfl) (dN (by omega))) rfl<|C0 3 rfl<|Q0 rfl<|I0 (N2 underlying22 inf38 rfl rfl (n := i) rfl (by omega)) rfl<|C0 2 rfl<|Q0 rfl<|I0 (K0 underlying33 rfl rfl (by rw [add_add, add_add]; exact hL.cell (hcell 1 _ rfl))) rfl<|Q0 rfl<|I0 (R0 (n := ((l.getD i O0).ns.length : Int)) (Y0 underlying33 rfl rfl) rfl) rfl<|Q0 rfl<|I0 (Bf (Y1 rfl rfl) (dN (by omega))) rfl<|C0 4 rfl<|Q0 rfl<|I0 (N2 underlying22 inf38 rfl rfl (n := i) rfl (by omega)) rfl<|C0 2 rfl<|Q0 rfl<|I0 (K0 underlying34 rfl rfl (by rw [add_add, add_add]; exact hL.cell (hcell 2 _ rfl))) rfl<|Q0 rfl<|C1 (cn func23) rfl rfl (Dg.small_c _ hL hS1 hsl) fun w4 h4 =>Q0 rfl<|I0 (Bf (R1 rfl) (by rw [dA hq3]; rfl)) rfl<|C0 1 rfl<|Wa<|E1 rfl (rfl)<|U0<|N1<|H0<|L0<|C0 1 rfl<|I0 (V0 rfl rfl (by omega)) rfl<|C0 1 rfl<|J0<|F1 (i + 1) (by omega) ⟨rfl, rfl, rfl, trivial⟩ ⟨by omega, fun j hj => (by
   by_cases e : j = i
   ·subst e; exact hgood
   exact hsm j (by omega)), h4⟩
 try simp only [DD] at c2
 refine U1<|B2<|WX.cut<|E2<|H0<|Wi<|C0 1 rfl<|I0 (Y0 underlying22 rfl rfl) rfl<|C0 3 rfl<|Wg<|ret1 rfl rfl ⟨by rw [few_y (fun j hj => hsm j (by omega))], hL⟩
theorem does_c {cs : List Res} (w : World) {r1 r2 : Res} {b1 b2 : Nat} {key key2 : List UInt8} {js : List J} (h : St W F (r1 :: r2 :: cs) w) (hC : CtlR F r1 b1 key js) (hQ : CtlQ F r2 b2 key2 js) (hok : ∀ x ∈ js, x.ok) (hnd : ∀ x ∈ js, x.once) (hjl : js.length ≤ 16) {o : O} {A B : Option Addr} {cap cap2 : Nat} (hA : RdS (Kd.one Vi) F A o.ns) (hB : RdS KS F B o.ss) (hot : o.tx.length ≤ 300) (hon : o.ns.length ≤ 30) (hos : Dg.smallL o.ss) : Calls prog 13 #[pz b1, pz b2, .agg #[Vi o.d, .slice A o.ns.length cap, .slice B o.ss.length cap2, Vi o.n, .string (bs o.tx), Vi o.now]] w fun e w' => e = .returned (.bool true) ∧ ∃ G r1' r2', Le F G ∧ CtlR G r1' b1 key (o.run js) ∧ CtlQ G r2' b2 key2 (o.run js) ∧ St W G (r1' :: r2' :: cs) w'  := by
 refine enter (args := [pz b1, pz b2, .agg #[Vi o.d, .slice A o.ns.length cap, .slice B o.ss.length cap2, Vi o.n, .string (bs o.tx), Vi o.now]]) func13 rfl rfl rfl ?_
 obtain ⟨hfe, hsl⟩ := hos.few
 have hle0 := Le.refl F
 refine Wi<|J3 rfl h rfl fun b5 w1 h1=>C0 1 rfl<|J0 (H0 (N0 (N0 ?_)))
 obtain ⟨G0, hG0, hfr0, h1⟩ := h1.freeze (i := 0) rfl
 have hfz5 : G0 b5 = some (.cells #[Vi o.d, .slice A o.ns.length cap, .slice B o.ss.length cap2, Vi o.n, .string (bs o.tx), Vi o.now] 38 (0, 0)) := hfr0 _ List.mem_cons_self
 replace h1 : St W G0 (r1 :: r2 :: cs) w1 := h1
 replace hle0 := hG0
 replace hC := hC.mono hG0
 replace hQ := hQ.mono hG0
 replace hA := hA.mono hG0
 replace hB := hB.mono hG0
 refine L0<|C0 1 rfl<|I0 (K0 underlying3 rfl rfl (h1.cell (cellB hfz5 rfl))) rfl<|Wj<|Wi<|C0 2 rfl<|Wa<|Z0 rfl (fun c2 => ?_) (fun c2 => ?_)
 ·try simp only [DD] at c2
  refine Wi<|C0 2 rfl<|I0 (W6 (vs := #[.slice A o.ns.length cap, .slice B o.ss.length cap2]) h1 hfz5 underlying36 rfl inf36 rfl (by kernel_rfl) rfl) rfl<|C1 (cn func24) rfl rfl (submit_c _ h1 hC hok hjl hA hB (by omega) hsl hfe) fun w3 ⟨G3, r3, hG3, hC3, h3⟩ => ?_
  replace hle0 := Le.trans hle0 hG3
  replace hC := hC.mono hG3
  replace hQ := hQ.mono hG3
  replace hA := hA.mono hG3
  replace hB := hB.mono hG3
  replace hfz5 := hG3 _ _ hfz5
  replace hC := hC3
  refine C0 5 rfl<|We<|C0 2 rfl<|I0 (W6 (vs := #[.slice A o.ns.length cap, .slice B o.ss.length cap2]) h3 hfz5 underlying36 rfl inf36 rfl (by kernel_rfl) rfl) rfl<|C1 (cn func29) rfl rfl (qsubmit_c _ (St.perm h3 (List.Perm.swap _ _ _)) hQ hok hnd hjl hA hB (by omega) hsl hfe) fun w4 ⟨G4, r4, hG4, hQ4, h4⟩ => ?_
  replace hle0 := Le.trans hle0 hG4
  replace hC := hC.mono hG4
  replace hQ := hQ.mono hG4
  replace hA := hA.mono hG4
  replace hB := hB.mono hG4
  replace hfz5 := hG4 _ _ hfz5
  replace hQ := hQ4
  replace h4 := (St.perm h4 (List.Perm.swap _ _ _))
  refine C0 5 rfl<|We<|C0 2 rfl<|I0 (Bt (L1 rfl rfl) (dA rfl)) rfl<|C0 3 rfl<|Q0 rfl<|I0 (Bt (L1 rfl rfl) (dA rfl)) rfl<|C0 2 rfl<|Wg<|ret1 rfl rfl ?_
  rw [O.run_0 c2]
  exact ⟨rfl, _, _, _, hle0, hC, hQ, h4⟩
 try simp only [DD] at c2
 refine Wi<|C0 2 rfl<|Wa<|Z0 rfl (fun c5 => ?_) (fun c5 => ?_)
 ·try simp only [DD] at c5
  refine N0<|V2 h1 ((h1.drop 1).drop 0) (fun s_ => ([] : List Nat).any (Nat.beq s_)) mixed (by kernel_rfl)<|fun hx =>fun w6 h6=>L3 hx [0, 1, 4, 5] rfl<|V3 12 hx 2 (by rfl) (fun w_ hE_ => K0 underlying3 rfl rfl (hE_.cell (cellB hfz5 rfl))) rfl<|V3 12 hx 6 (by rfl) (fun w_ hE_ => K0 underlying3 rfl rfl (hE_.cell (cellB hfz5 rfl))) rfl<|F3 3 ((h6.drop 1).drop 0) (by rfl)<|C1 (cn func27) rfl rfl (cancel_c _ h6 hC hok hjl o.n) fun w7 ⟨G7, r7, hG7, hC7, h7⟩ => ?_
  replace hle0 := Le.trans hle0 hG7
  replace hC := hC.mono hG7
  replace hQ := hQ.mono hG7
  replace hA := hA.mono hG7
  replace hB := hB.mono hG7
  replace hfz5 := hG7 _ _ hfz5
  replace hC := hC7
  refine J0<|H2<|F3 7 (((h7.weak hG7).drop 1).drop 0) (by rfl)<|C1 (cn func30) rfl rfl (qcancel_c _ (St.perm h7 (List.Perm.swap _ _ _)) hQ hok hnd hjl o.n) fun w8 ⟨G8, r8, hG8, hQ8, h8⟩ => ?_
  replace hle0 := Le.trans hle0 hG8
  replace hC := hC.mono hG8
  replace hQ := hQ.mono hG8
  replace hA := hA.mono hG8
  replace hB := hB.mono hG8
  replace hfz5 := hG8 _ _ hfz5
  replace hQ := hQ8
  replace h8 := (St.perm h8 (List.Perm.swap _ _ _))
  refine J0<|H2<|Z2 hx 8 (by rfl) (fun w_ => Bt (L1 rfl rfl) (dA rfl)) rfl<|L3 hx [9] rfl<|H3 (.inr (((h8.weak (Le.trans hG7 hG8)).drop 1).drop 0)) (by kernel_rfl)<|H0<|O1<|ret1 rfl rfl ?_
  rw [O.run_1 c2 c5]
  exact ⟨rfl, _, _, _, hle0, hC, hQ, h8⟩
 try simp only [DD] at c5
 refine Wi<|C0 2 rfl<|Wa<|Z0 rfl (fun c9 => ?_) (fun c9 => ?_)
 ·try simp only [DD] at c9
  refine N0<|V2 h1 ((h1.drop 1).drop 0) (fun s_ => ([] : List Nat).any (Nat.beq s_)) mixed (by kernel_rfl)<|fun hx =>fun w10 h10=>L3 hx [0, 1, 4, 5] rfl<|V3 12 hx 2 (by rfl) (fun w_ hE_ => K0 underlying9 rfl rfl (hE_.cell (cellB hfz5 rfl))) rfl<|V3 12 hx 6 (by rfl) (fun w_ hE_ => K0 underlying9 rfl rfl (hE_.cell (cellB hfz5 rfl))) rfl<|F3 3 ((h10.drop 1).drop 0) (by rfl)<|C1 (cn func18) rfl rfl (deliver_c _ h10 hC hok hjl o.tx (by omega)) fun w11 ⟨G11, r11, hG11, hC11, h11⟩ => ?_
  replace hle0 := Le.trans hle0 hG11
  replace hC := hC.mono hG11
  replace hQ := hQ.mono hG11
  replace hA := hA.mono hG11
  replace hB := hB.mono hG11
  replace hfz5 := hG11 _ _ hfz5
  replace hC := hC11
  refine J0<|H2<|F3 7 (((h11.weak hG11).drop 1).drop 0) (by rfl)<|C1 (cn func31) rfl rfl (qdeliver_c _ (St.perm h11 (List.Perm.swap _ _ _)) hQ hok hnd hjl o.tx (by omega)) fun w12 ⟨G12, r12, hG12, hQ12, h12⟩ => ?_
  replace hle0 := Le.trans hle0 hG12
  replace hC := hC.mono hG12
  replace hQ := hQ.mono hG12
  replace hA := hA.mono hG12
  replace hB := hB.mono hG12
  replace hfz5 := hG12 _ _ hfz5
  replace hQ := hQ12
  replace h12 := (St.perm h12 (List.Perm.swap _ _ _))
  refine J0<|H2<|Z2 hx 8 (by rfl) (fun w_ => Bt (Runs.eqlb underlying4 rfl rfl) (by simp)) rfl<|L3 hx [9] rfl<|H3 (.inr (((h12.weak (Le.trans hG11 hG12)).drop 1).drop 0)) (by kernel_rfl)<|H0<|O1<|ret1 rfl rfl ?_
  rw [O.run_2 c2 c5 c9]
  exact ⟨rfl, _, _, _, hle0, hC, hQ, h12⟩
 try simp only [DD] at c9
 refine U0<|N1<|H0<|Wi<|C0 1 rfl<|Wg<|ret1 rfl rfl ?_
 rw [O.run_3 c2 c5 c9]
 exact ⟨rfl, _, _, _, hle0, hC, hQ, h1⟩
end Ct
section
variable {cs : List Res}
open Dg (S E S0 E0 KS KE chkM settleM readyM overM withM okAll)
open Tal (T TR RR okN)
open Wir (M encB decB mayM mayN numB textB)
open Cr (C signM)
namespace Ct
theorem inf173 : Inf prog 173 (.agg #[.string ⟨#[]⟩, .int .i64 0, .int .i64 0, .int .i64 0, .int .i64 0]) 5 48 := by unfold Inf; kernel_rfl
theorem qamay_c (w : World) (cr : List UInt8) (s : S) (h : St W F cs w) (hc : cr.length ≤ 400) (hs : okR s) : Calls prog 157 #[.agg #[.string (bs cr), Vi s.rk, Vi s.per, Vi s.ds, Vi s.lim]] w fun r w' => r = .returned (.bool true) ∧ St W F cs w'  := by
 refine enter (args := [.agg #[.string (bs cr), Vi s.rk, Vi s.per, Vi s.ds, Vi s.lim]]) func157 rfl rfl rfl ?_
 obtain ⟨hs1, hs2, hs3, hs4⟩ := hs
 refine Wi<|J3 rfl h rfl fun b1 w1 h1=>C0 1 rfl<|We<|H1 h1 [0] 2 rfl<|I0 (R0 (n := (cr.length : Int)) (E3 underlying9 rfl rfl) rfl) rfl<|I0 (Bt (Z1 rfl rfl) (dA (by omega))) rfl<|H1 h1 [0] 3 rfl<|Q0 rfl<|I0 (Bt (T1 rfl rfl) (dA (by omega))) rfl<|H1 h1 [0] 4 rfl<|Q0 rfl<|I0 (Bt (Z1 rfl rfl) (dA (by omega))) rfl<|H1 h1 [0] 4 rfl<|Q0 rfl<|I0 (Bt (T1 rfl rfl) (dA (by omega))) rfl<|H1 h1 [0] 4 rfl<|Q0 rfl<|I0 (Bt (Z1 rfl rfl) (dA (by omega))) rfl<|H1 h1 [0] 4 rfl<|Q0 rfl<|I0 (Bt (T1 rfl rfl) (dA (by omega))) rfl<|H1 h1 [0] 4 rfl<|Q0 rfl<|I0 (Bt (Z1 rfl rfl) (dA (by omega))) rfl<|H1 h1 [0] 4 rfl<|Q0 rfl<|I0 (Bt (T1 rfl rfl) (dA (by omega))) rfl<|H1 h1 [0] 4 rfl<|Q0 rfl<|I0 (Bt (Z1 rfl rfl) (dA (by omega))) rfl<|C0 2 rfl<|Wg<|ret1 rfl rfl ⟨rfl, h1.drop 0⟩
theorem qpack_c (w : World) (cr : List UInt8) (s : S) (h : St W F cs w) (hc : cr.length ≤ 400) (hs : okR s) : Calls prog 135 #[.agg #[.string (bs cr), Vi s.rk, Vi s.per, Vi s.ds, Vi s.lim]] w fun r w' => r = .returned (.string (bs (packM cr s))) ∧ St W F cs w'  := by
 refine enter (args := [.agg #[.string (bs cr), Vi s.rk, Vi s.per, Vi s.ds, Vi s.lim]]) func135 rfl rfl rfl<|Wi<|J3 rfl h rfl fun b1 w1 h1=>C0 1 rfl<|Wh<|I0 (U2 h1 0 rfl underlying173 rfl inf173 rfl rfl) rfl<|C1 (cn func157) rfl rfl (qamay_c _ cr s h1 hc hs) fun w2 h2 =>C0 1 rfl<|Wa<|E1 rfl (rfl)<|U0<|H0<|N0<|T2 (C := fun w_ => St W F _ w_) mixed (by kernel_rfl) (h2.drew)<|K5 [0] 2 rfl<|H4 (cn func104) rfl rfl (fun w_ hC_ => Wir.rtext_c _ _ hC_ (by omega))<|K5 [0] 2 rfl<|H4 (cn func80) rfl rfl (fun w_ hC_ => Wir.rnum_c _ _ hC_)<|X0 (fun w_ hC_ => M3 rfl rfl (by have := Wir.text_len (l := cr) (by omega); have := Wir.numB_len s.rk; have := Wir.numB_len s.per; have := Wir.numB_len s.ds; have := Wir.numB_len s.lim; (try simp only [lA]); omega)) rfl<|K5 [0] 2 rfl<|H4 (cn func80) rfl rfl (fun w_ hC_ => Wir.rnum_c _ _ hC_)<|X0 (fun w_ hC_ => M3 rfl rfl (by have := Wir.text_len (l := cr) (by omega); have := Wir.numB_len s.rk; have := Wir.numB_len s.per; have := Wir.numB_len s.ds; have := Wir.numB_len s.lim; (try simp only [lA]); omega)) rfl<|K5 [0] 2 rfl<|H4 (cn func80) rfl rfl (fun w_ hC_ => Wir.rnum_c _ _ hC_)<|X0 (fun w_ hC_ => M3 rfl rfl (by have := Wir.text_len (l := cr) (by omega); have := Wir.numB_len s.rk; have := Wir.numB_len s.per; have := Wir.numB_len s.ds; have := Wir.numB_len s.lim; (try simp only [lA]); omega)) rfl<|K5 [0] 2 rfl<|H4 (cn func80) rfl rfl (fun w_ hC_ => Wir.rnum_c _ _ hC_)<|X0 (fun w_ hC_ => M3 rfl rfl (by have := Wir.text_len (l := cr) (by omega); have := Wir.numB_len s.rk; have := Wir.numB_len s.per; have := Wir.numB_len s.ds; have := Wir.numB_len s.lim; (try simp only [lA]); omega)) rfl<|M2 1 rfl<|K3 fun w3 h3=>H0<|O1<|ret1 rfl rfl ⟨rfl, h3.drop 0⟩
theorem qmsg_c (w : World) {x : J} {b bT : Nat} {A B C R N : Option Addr} {cap cap2 u3 u4 u5 : Nat} {ps : List (Option Nat)} {zt : List Value} {j i : Nat} {tx : List UInt8} (kd n : Int) (h : St W F cs w) (hj : cs[j]? = some (qB x b bT A B C R N cap cap2 u3 u4 u5 ps zt)) (htx : tx.length ≤ 100000) : Calls prog 47 #[pz b, Vi kd, Vi n, Vi (i : Nat), .string (bs tx)] w fun r w' => r = .returned (.string (bs (encB (x.msg kd n i tx)))) ∧ St W F cs w'  := by
 refine enter (args := [pz b, Vi kd, Vi n, Vi (i : Nat), .string (bs tx)]) func47 rfl rfl rfl<|Wi<|C0 1 rfl<|Wb<|V2 h h (fun s_ => ([] : List Nat).any (Nat.beq s_)) mixed (by kernel_rfl)<|fun hx =>fun w1 h1=>L3 hx [0, 1, 2, 3, 4, 6, 7, 8, 10, 11] rfl<|V3 12 hx 5 (by rfl) (fun w_ hE_ => K0 underlying3 rfl rfl (hE_.ocell (i := (j)) hj rfl)) rfl<|V3 12 hx 9 (by rfl) (fun w_ hE_ => K0 underlying3 rfl rfl (hE_.ocell (i := (j)) hj rfl)) rfl<|Z2 hx 12 (by rfl) (fun w_ => R2 (vs := [(0, Vi kd), (1, Vi (-1)), (2, Vi n), (3, Vi x.id), (4, Vi x.ep), (5, Vi (i : Nat)), (7, .string (bs tx))]) (cells := #[Vi kd, Vi (-1), Vi n, Vi x.id, Vi x.ep, Vi (i : Nat), Vi 0, .string (bs tx)]) rfl (by kernel_rfl)) rfl<|F3 13 h1 (by rfl)<|C1 (cn func61) rfl rfl (Wir.renc_c _ (x.msg kd n i tx) h1 htx) fun w2 h2 =>J0<|H2<|L3 hx [14] rfl<|H3 (.inr h2) (by kernel_rfl)<|H0<|O1<|ret1 rfl rfl ⟨rfl, h2⟩
theorem qtx_c (w : World) {x : J} {b bT : Nat} {A B C R N : Option Addr} {cap cap2 u3 u4 u5 : Nat} {ps : List (Option Nat)} {zt : List Value} {j i : Nat} {key : List UInt8} {now : Int} (h : St W F cs w) (hj : cs[j]? = some (qB x b bT A B C R N cap cap2 u3 u4 u5 ps zt)) (hA : RdS (Kd.one Vi) F A x.ns) (hB : RdS KS F B x.ss) (hok : x.ok) (hi : i < x.ss.length) (hkl : key.length ≤ 900000) : Calls prog 93 #[pz b, .string (bs key), Vi (i : Nat), Vi now] w fun r w' => r = .returned (.string (bs (x.order key i now))) ∧ St W F cs w'  := by
 refine enter (args := [pz b, .string (bs key), Vi (i : Nat), Vi now]) func93 rfl rfl rfl ?_
 have hsr := step_ok hok.ss hi
 obtain ⟨ad, A1, cap1, rfl, hE1, hcell⟩ := Dg.stepAt hB hi
 have hm1 : 0 ≤ (x.ss.getD i S0).rk * (x.ss.getD i S0).per := Int.mul_nonneg (by have := hsr.1; omega) (by have := hsr.2.1; omega)
 have hm2 : (x.ss.getD i S0).rk * (x.ss.getD i S0).per ≤ 32 * 256 := Int.mul_le_mul hsr.1.2 hsr.2.1.2 (by have := hsr.2.1; omega) (by omega)
 have hns16 := Tal.oks_len hok.ns.2
 refine Wi<|C0 1 rfl<|We<|C0 4 rfl<|I0 (K0 underlying34 rfl rfl (h.ocell (i := (j)) hj rfl)) rfl<|C0 1 rfl<|I0 (N2 underlying34 inf68 rfl rfl (n := i) rfl (by omega)) rfl<|I0 (Dg.Runs.stepA h hcell underlying68 rfl inf68 rfl) rfl<|O2 rfl h inf68 fun b9 w1 h1=>F4 h1 0 rfl rfl rfl inf68 rfl rfl rfl ?_
 intro  w2 h2
 try simp only [ZZ] at h2
 refine Wb<|V2 h2 h2 (fun s_ => ([24] : List Nat).any (Nat.beq s_)) mixed (by kernel_rfl)<|fun hx =>fun w3 h3=>L3 hx [0, 1, 2, 4, 5, 6, 8, 9, 10] rfl<|Z2 hx 11 (by rfl) (fun w_ => Runs.add rfl rfl) rfl<|L3 hx [12, 13, 14, 15, 17, 19] rfl<|V3 12 hx 3 (by rfl) (fun w_ hE_ => K0 underlying3 rfl rfl (hE_.ocell (i := (j + 1)) hj rfl)) rfl<|V3 12 hx 7 (by rfl) (fun w_ hE_ => K0 underlying3 rfl rfl (hE_.ocell (i := (j + 1)) hj rfl)) rfl<|V3 12 hx 16 (by rfl) (fun w_ hE_ => K0 underlying33 rfl rfl (hE_.ocell (i := (j + 1)) hj rfl)) rfl<|J4 hx 12 [18, 20] [18, 20] [0, 0] rfl<|Z2 hx 21 (by rfl) (fun w_ => B4 rfl rfl (by omega)) rfl<|Z2 hx 22 (by rfl) (fun w_ => R2 (vs := [(0, Vi x.id), (1, Vi x.ep), (2, Vi (i : Nat)), (3, Vi now), (4, Vi (IntKind.i64.wrap (now + 8))), (5, .slice A x.ns.length cap), (6, Vi ((x.ss.getD i S0).rk * (x.ss.getD i S0).per))]) (cells := #[Vi x.id, Vi x.ep, Vi (i : Nat), Vi now, Vi (IntKind.i64.wrap (now + 8)), .slice A x.ns.length cap, Vi ((x.ss.getD i S0).rk * (x.ss.getD i S0).per)]) rfl (by kernel_rfl)) rfl<|F3 23 h3 (by rfl)<|O2 rfl h3 inf169 fun b10 w4 h4=>J0<|H2<|F3 24 (h4.drop 0) (by rfl) ?_
 refine F4 h4 0 rfl rfl rfl inf169 rfl rfl rfl ?_
 intro  w5 h5
 try simp only [ZZ] at h5
 refine J0<|H2<|H3 (.inl ⟨24, rfl, by kernel_rfl⟩) (by kernel_rfl)<|H0<|N0<|V2 h5 h5 (fun s_ => ([] : List Nat).any (Nat.beq s_)) mixed (by kernel_rfl)<|fun hx =>fun w6 h6=>L3 hx [0, 3, 5, 7, 9] rfl<|V3 12 hx 1 (by rfl) (fun w_ hE_ => U2 hE_ 0 rfl underlying169 rfl inf169 rfl rfl) rfl<|J4 hx 12 [4, 6, 8, 10] [4, 6, 8, 10] [1, 1, 1, 1] rfl<|F3 2 h6 (by rfl)<|C1 (cn func136) rfl rfl (Cr.qsign_c _ (c := x.cred i now) key hkl h6 hA (show x.ns.length ≤ 100000 by omega)) fun w7 h7 =>J0<|H2<|Z2 hx 11 (by rfl) (fun w_ => R2 (vs := [(0, .string (bs (signM key (x.cred i now)))), (1, Vi (x.ss.getD i S0).rk), (2, Vi (x.ss.getD i S0).per), (3, Vi (x.ss.getD i S0).ds), (4, Vi (x.ss.getD i S0).lim)]) (cells := #[.string (bs (signM key (x.cred i now))), Vi (x.ss.getD i S0).rk, Vi (x.ss.getD i S0).per, Vi (x.ss.getD i S0).ds, Vi (x.ss.getD i S0).lim]) rfl (by kernel_rfl)) rfl<|F3 12 h7 (by rfl)<|C1 (cn func135) rfl rfl (qpack_c _ (signM key (x.cred i now)) (x.ss.getD i S0) h7 (sign_len _ _) hsr) fun w8 h8 =>J0<|H2<|L3 hx [13] rfl<|H3 (.inr h8) (by kernel_rfl)<|H0<|O1<|ret1 rfl rfl ⟨rfl, (h8.drop 0).drop 0⟩
theorem at3q {z a b : Res} {tm cs : List Res} {k : Nat} {r : Res} (h : tm[k]? = some r) : (z :: a :: b :: (tm ++ cs))[k + 3]? = some r := at2_ (a := a) (b := b) h
def lastN (x : J) (k : Nat) : List M := ((x.ns.take k).filter fun n => decide (n ∉ x.gn)).flatMap fun n => x.abrt n ++ [x.msg 8 n 0 []]
theorem take_s {α : Type} {l : List α} {k : Nat} {d : α} (h : k < l.length) : l.take (k + 1) = l.take k ++ [l.getD k d] := by
 rw [List.take_add_one, gE h, gD, gE h]; rfl
theorem lastN_y {x : J} {k : Nat} (hk : k < x.ns.length) (h : x.ns.getD k 0 ∈ x.gn) : lastN x (k + 1) = lastN x k := by
 unfold lastN
 rw [take_s (d := 0) hk, List.filter_append, List.filter_cons, if_neg (by rw [decide_eq_true_eq]; exact fun hh => hh h)]
 simp
theorem lastN_n {x : J} {k : Nat} (hk : k < x.ns.length) (h : x.ns.getD k 0 ∉ x.gn) : lastN x (k + 1) = lastN x k ++ (abI x (x.ns.getD k 0) x.ts.length ++ [x.msg 8 (x.ns.getD k 0) 0 []]) := by
 unfold lastN
 rw [take_s (d := 0) hk, List.filter_append, List.filter_cons, if_pos (dA h), List.flatMap_append]
 simp [abI, J.abrt]
theorem lastN_len {x : J} (h : x.ts.length ≤ 16) (k : Nat) : (lastN x k).length ≤ k * 17 := by
 unfold lastN
 refine Nat.le_trans (fm_len (c := 17) _ fun n _ => ?_) ?_
 ·rw [lA]
  have := abI_len x n x.ts.length
  have e : (x.abrt n).length = (abI x n x.ts.length).length := rfl
  show (x.abrt n).length + 1 ≤ 17
  omega
 exact Nat.mul_le_mul_right _ (Nat.le_trans (List.length_filter_le _ _) (by rw [List.length_take]; exact Nat.min_le_left _ _))
theorem lastN_all (x : J) : lastN x x.ns.length = x.lastO := by
 unfold lastN J.lastO
 rw [List.take_of_length_le (Nat.le_refl _)]
theorem qvotes_c (w : World) {x : J} {b bT : Nat} {A B C R N : Option Addr} {cap cap2 u3 u4 u5 : Nat} {ps : List (Option Nat)} {zt : List Value} {ft : Nat × Nat} {tm : List Res}(h : St W F (qB x b bT A B C R N cap cap2 u3 u4 u5 ps zt :: qT ps bT zt ft :: (tm ++ cs)) w) (hO : JobOq F x A B C R N ps zt ft tm) (hl : x.ts.length ≤ 16) : Calls prog 52 #[pz b] w (Gives W F (qB x b bT A B C R N cap cap2 u3 u4 u5 ps zt :: qT ps bT zt ft :: (tm ++ cs)) Vi (votesM x))  := by
 refine enter (args := [pz b]) func52 rfl rfl rfl ?_
 have hlp := hO.ta.lp
 have hlm := hO.ta.lm
 have hvl := votes_len x
 refine Wi<|C0 1 rfl<|We<|C0 1 rfl<|J0 (H0 (N0 (N0 ?_)))
 replace h := h.nilRes
 refine L0<|C0 1 rfl<|Wj<|B3 (σ := Nat × Res × Value) (fun q_ => [(0, pz b), (3, q_.2.2), (4, .int .i64 (q_.1 : Int))]) (fun q_ w => q_.1 ≤ ps.length ∧ Row 3 Vi q_.2.1 q_.2.2 ((votesM x).take q_.1) ∧ St W F (q_.2.1 :: qB x b bT A B C R N cap cap2 u3 u4 u5 ps zt :: qT ps bT zt ft :: (tm ++ cs)) w) (fun q_ => ps.length - q_.1) (⟨0, [], .slice none 0 0⟩) (⟨Nat.zero_le _, Row.nil _ _, h⟩) ?_
 rintro ⟨i, r2, v2⟩ w1 ⟨hi, hro, hL⟩
 try dsimp only at hi hro hL
 refine W2 [(0, pz b), (3, v2), (4, .int .i64 (i : Int))] ?_
 have htl : ((votesM x).take i).length = i := by rw [List.length_take]; omega
 refine N0<|Wi<|H1 hL [1] 5 rfl<|I0 (R0 (n := (ps.length : Int)) (Y0 underlying99 rfl rfl) rfl) rfl<|C0 1 rfl<|Wa<|Z0 rfl (fun c2 => ?_) (fun c2 => ?_)
 ·try simp only [DD] at c2
  refine U0 (H0 (N0 (M1 (N0 ?_))))
  have hi3 : i < x.ts.length := by omega
  rcases hts : x.ts.getD i none with _ | t
  ·obtain ⟨hp, hm1, hm2⟩ := hO.ta.no i hi3 hts
   refine L0<|H1 hL [1] 5 rfl<|I0 (W0 underlying99 inf116 rfl rfl (n := i) rfl (by omega)) rfl<|I0 (X1 (u := .pointer none) (I2 (none : Option Nat) hL 2 rfl (T3 (E := 116) (f := pv) (b := bT) (fz := ft) (xs := ps) (zs := zt) rfl hO.ft) (n := i) (by omega) underlying116 rfl rfl) (by rw [hp]; rfl)) rfl<|C0 1 rfl<|We<|C0 1 rfl<|I0 (L2 underlying116 rfl rfl) rfl<|Wa<|J1 rfl (rfl)<|L0<|C0 1 rfl<|X2 (vs := (([-1] : List Int)).map Vi) hL rfl underlying33 inf3 rfl rfl rfl rfl rfl fun lit25 w3 h3=>I3 (ys := ([-1] : List Int)) 1 h3 rfl rfl rfl rfl underlying33 underlying33 (.inr ⟨_, rfl⟩) inf3 rfl hro (Src.lit h3 0 rfl rfl rfl) rfl rfl (by first | omega | (simp []; done) | (simp []; omega)) (by first | omega | (simp []; done) | (simp []; omega)) ?_
   intro r4 v4 w5 hr4 h5
   simp only [lz, ls] at h5
   replace h5 := h5.drop 0
   simp only [ez, es'] at h5
   refine C0 1 rfl<|J0<|N1<|H0<|L0<|C0 1 rfl<|I0 (V0 rfl rfl (by omega)) rfl<|C0 1 rfl<|J0 ?_
   have e9 := votes_no hi3 hts
   have hr9 := hr4
   rw [← e9] at hr9
   exact F1 (⟨i + 1, r4, v4⟩ : Nat × Res × Value) (by show ps.length - (i + 1) < ps.length - i; omega) ⟨rfl, rfl, rfl, trivial⟩ ⟨by show i + 1 ≤ _; omega, hr9, h5⟩
  obtain ⟨bt, q1, q2, hp, hm1, hm2, bv, bc, zv, zc, fv, fc, hTR⟩ := hO.ta.ye i t hts
  refine L0<|H1 hL [1] 5 rfl<|I0 (W0 underlying99 inf116 rfl rfl (n := i) rfl (by omega)) rfl<|I0 (X1 (u := pz bt) (I2 (none : Option Nat) hL 2 rfl (T3 (E := 116) (f := pv) (b := bT) (fz := ft) (xs := ps) (zs := zt) rfl hO.ft) (n := i) (by omega) underlying116 rfl rfl) (by rw [hp]; rfl)) rfl<|C0 1 rfl<|We<|C0 1 rfl<|I0 (L2 underlying116 rfl rfl) rfl<|Wa<|E1 rfl (rfl)<|L0<|C0 2 rfl<|C1 (cn func92) rfl rfl (Tal.rstate_r _ hL (RR.at2 hTR (at3q hm1) (at3q hm2) (by omega))) fun w6 h6 =>X2 (vs := (([t.state] : List Int)).map Vi) h6 rfl underlying33 inf3 rfl rfl rfl rfl rfl fun lit30 w7 h7=>I3 (ys := ([t.state] : List Int)) 1 h7 rfl rfl rfl rfl underlying33 underlying33 (.inr ⟨_, rfl⟩) inf3 rfl hro (Src.lit h7 0 rfl rfl rfl) rfl rfl (by first | omega | (simp []; done) | (simp []; omega)) (by first | omega | (simp []; done) | (simp []; omega)) ?_
  intro r8 v8 w9 hr8 h9
  simp only [lz, ls] at h9
  replace h9 := h9.drop 0
  simp only [ez, es'] at h9
  refine C0 1 rfl<|J0<|N1<|H0<|L0<|C0 1 rfl<|I0 (V0 rfl rfl (by omega)) rfl<|C0 1 rfl<|J0 ?_
  have e9 := votes_ye hi3 hts
  have hr9 := hr8
  rw [← e9] at hr9
  exact F1 (⟨i + 1, r8, v8⟩ : Nat × Res × Value) (by show ps.length - (i + 1) < ps.length - i; omega) ⟨rfl, rfl, rfl, trivial⟩ ⟨by show i + 1 ≤ _; omega, hr9, h9⟩
 try simp only [DD] at c2
 refine U1<|B2<|WX.cut<|E2<|H0<|Wi<|C0 2 rfl<|J0 (H0 (O1 ?_))
 obtain rfl : i = ps.length := by omega
 rw [List.take_of_length_le (by omega)] at hro
 exact ret1 rfl rfl (Row.gives hro hL)
theorem qlast_c (w : World) {x : J} {b bT : Nat} {A B C R N : Option Addr} {cap cap2 u3 u4 u5 : Nat} {ps : List (Option Nat)} {zt : List Value} {ft : Nat × Nat} {tm : List Res}(h : St W F (qB x b bT A B C R N cap cap2 u3 u4 u5 ps zt :: qT ps bT zt ft :: (tm ++ cs)) w) (hO : JobOq F x A B C R N ps zt ft tm) (hok : x.ok) (hgn : x.gn.length ≤ 100000) : Calls prog 49 #[pz b] w (Gives W F (qB x b bT A B C R N cap cap2 u3 u4 u5 ps zt :: qT ps bT zt ft :: (tm ++ cs)) sB ((x.lastO).map encB))  := by
 refine enter (args := [pz b]) func49 rfl rfl rfl ?_
 have hlp := hO.ta.lp
 have hlm := hO.ta.lm
 have hns16 := Tal.oks_len hok.ns.2
 have hts16 : x.ts.length ≤ 16 := by rw [hok.lt]; exact (Dg.chk_ok hok.ss).2.1.2
 refine Wi<|C0 1 rfl<|We<|C0 1 rfl<|J0 (H0 (N0 (N0 ?_)))
 replace h := h.nilRes
 refine L0<|C0 1 rfl<|Wj<|B3 (σ := Nat × Res × Value) (fun q_ => [(0, pz b), (3, q_.2.2), (4, .int .i64 (q_.1 : Int))]) (fun q_ w => q_.1 ≤ x.ns.length ∧ Row 9 sB q_.2.1 q_.2.2 ((lastN x q_.1).map encB) ∧ St W F (q_.2.1 :: qB x b bT A B C R N cap cap2 u3 u4 u5 ps zt :: qT ps bT zt ft :: (tm ++ cs)) w) (fun q_ => x.ns.length - q_.1) (⟨0, [], .slice none 0 0⟩) (⟨Nat.zero_le _, Row.nil _ _, h⟩) ?_
 rintro ⟨k, r2, v2⟩ w1 ⟨hk, hro, hL⟩
 try dsimp only at hk hro hL
 refine W2 [(0, pz b), (3, v2), (4, .int .i64 (k : Int))] ?_
 have hll := lastN_len hts16 k
 refine N0<|Wi<|H1 hL [1] 6 rfl<|I0 (R0 (n := (x.ns.length : Int)) (Y0 underlying33 rfl rfl) rfl) rfl<|C0 1 rfl<|Wa<|Z0 rfl (fun c2 => ?_) (fun c2 => ?_)
 ·try simp only [DD] at c2
  refine U0 (H0 (N0 (M1 (N0 ?_))))
  have hk2 : k < x.ns.length := by omega
  obtain ⟨aa, hAa, hra⟩ := rd1 hO.nd (by omega)
  refine L0<|H1 hL [1] 6 rfl<|I0 (Z3 hAa underlying33 inf3 rfl rfl (n := k) rfl (by omega)) rfl<|I0 (I1 (f := Vi) (0 : Int) hL hra (n := k) (by omega) underlying3 rfl rfl) rfl<|C0 1 rfl<|Wh<|H1 hL [1] 5 rfl<|C1 (cn func46) rfl rfl (qin_c _ (x.ns.getD k 0) hL hO.gn hgn) fun w3 h3 =>Wa<|Z0 rfl (fun c4 => ?_) (fun c4 => ?_)
  ·try simp only [DD] at c4
   refine U1<|B2<|E2<|H0<|L0<|C0 1 rfl<|I0 (V0 rfl rfl (by omega)) rfl<|C0 1 rfl<|J0 ?_
   rw [← lastN_y (k := k) hk2 c4] at hro
   exact F1 (⟨k + 1, r2, v2⟩ : Nat × Res × Value) (by show x.ns.length - (k + 1) < x.ns.length - k; omega) ⟨rfl, rfl, rfl, trivial⟩ ⟨by show k + 1 ≤ _; omega, hro, h3⟩
  try simp only [DD] at c4
  refine U0<|H0<|N0<|Wi<|C0 1 rfl<|Wj<|B3 (σ := Nat × Res × Value) (fun q_ => [(0, pz b), (3, q_.2.2), (4, .int .i64 (k : Int)), (5, Vi (x.ns.getD k 0)), (6, .int .i64 (q_.1 : Int))]) (fun q_ w => q_.1 ≤ ps.length ∧ Row 9 sB q_.2.1 q_.2.2 ((lastN x k ++ abI x (x.ns.getD k 0) q_.1).map encB) ∧ St W F (q_.2.1 :: qB x b bT A B C R N cap cap2 u3 u4 u5 ps zt :: qT ps bT zt ft :: (tm ++ cs)) w) (fun q_ => ps.length - q_.1) (⟨0, r2, v2⟩) (⟨Nat.zero_le _, (by rw [show abI x (x.ns.getD k 0) 0 = [] from rfl, List.append_nil]; exact hro), h3⟩) ?_
  rintro ⟨i, r3, v3⟩ w5 ⟨hi, hro2, hL⟩
  try dsimp only at hi hro2 hL
  refine W2 [(0, pz b), (3, v3), (4, .int .i64 (k : Int)), (5, Vi (x.ns.getD k 0)), (6, .int .i64 (i : Int))] ?_
  have hal := abI_len x (x.ns.getD k 0) i
  have hxl : ((lastN x k ++ abI x (x.ns.getD k 0) i).map encB).length ≤ 16 * 17 + 16 := by rw [List.length_map, lA]; omega
  refine N0<|Wi<|H1 hL [1] 5 rfl<|I0 (R0 (n := (ps.length : Int)) (Y0 underlying99 rfl rfl) rfl) rfl<|C0 1 rfl<|Wa<|Z0 rfl (fun c6 => ?_) (fun c6 => ?_)
  ·try simp only [DD] at c6
   refine U0 (H0 (N0 (M1 (N0 ?_))))
   have hi3 : i < x.ts.length := by omega
   rcases hts : x.ts.getD i none with _ | t
   ·obtain ⟨hp, hm1, hm2⟩ := hO.ta.no i hi3 hts
    refine L0<|H1 hL [1] 5 rfl<|I0 (W0 underlying99 inf116 rfl rfl (n := i) rfl (by omega)) rfl<|I0 (X1 (u := .pointer none) (I2 (none : Option Nat) hL 2 rfl (T3 (E := 116) (f := pv) (b := bT) (fz := ft) (xs := ps) (zs := zt) rfl hO.ft) (n := i) (by omega) underlying116 rfl rfl) (by rw [hp]; rfl)) rfl<|C0 1 rfl<|Wh<|C0 1 rfl<|I0 (L2 underlying116 rfl rfl) rfl<|Wa<|J1 rfl (rfl)<|U1<|B2<|E2<|H0<|L0<|C0 1 rfl<|I0 (V0 rfl rfl (by omega)) rfl<|C0 1 rfl<|J0 ?_
    rw [← abI_none (n := (x.ns.getD k 0)) hts] at hro2
    exact F1 (⟨i + 1, r3, v3⟩ : Nat × Res × Value) (by show ps.length - (i + 1) < ps.length - i; omega) ⟨rfl, rfl, rfl, rfl, rfl, trivial⟩ ⟨by show i + 1 ≤ _; omega, hro2, hL⟩
   obtain ⟨bt, q1, q2, hp, hm1, hm2, bv, bc, zv, zc, fv, fc, hTR⟩ := hO.ta.ye i t hts
   refine L0<|H1 hL [1] 5 rfl<|I0 (W0 underlying99 inf116 rfl rfl (n := i) rfl (by omega)) rfl<|I0 (X1 (u := pz bt) (I2 (none : Option Nat) hL 2 rfl (T3 (E := 116) (f := pv) (b := bT) (fz := ft) (xs := ps) (zs := zt) rfl hO.ft) (n := i) (by omega) underlying116 rfl rfl) (by rw [hp]; rfl)) rfl<|C0 1 rfl<|Wh<|C0 1 rfl<|I0 (L2 underlying116 rfl rfl) rfl<|Wa<|E1 rfl (rfl)<|Wk<|C0 1 rfl<|C1 (cn func92) rfl rfl (Tal.rstate_r _ hL (RR.at2 hTR (at3q hm1) (at3q hm2) (by omega))) fun w7 h7 =>C0 1 rfl<|Wa<|Z0 rfl (fun c8 => ?_) (fun c8 => ?_)
   ·try simp only [DD] at c8
    refine L0<|C0 4 rfl<|C1 (cn func47) rfl rfl (qmsg_c _ 5 (x.ns.getD k 0) h7 (j := 1) (i := i) rfl (by decide)) fun w9 h9 =>X2 (vs := (([encB (x.msg 5 (x.ns.getD k 0) i [])] : List (List UInt8))).map sB) h9 rfl underlying39 inf9 rfl rfl rfl rfl rfl fun lit58 w10 h10=>I3 (ys := ([encB (x.msg 5 (x.ns.getD k 0) i [])] : List (List UInt8))) 1 h10 rfl rfl rfl rfl underlying39 underlying39 (.inr ⟨_, rfl⟩) inf9 rfl hro2 (Src.lit h10 0 rfl rfl rfl) rfl rfl (by first | omega | (simp []; done) | (simp []; omega)) (by first | omega | (simp []; done) | (simp []; omega)) ?_
    intro r11 v11 w12 hr11 h12
    simp only [lz, ls] at h12
    replace h12 := h12.drop 0
    simp only [ez, es'] at h12
    refine C0 1 rfl<|J0<|N1<|H0<|L0<|C0 1 rfl<|I0 (V0 rfl rfl (by omega)) rfl<|C0 1 rfl<|J0 ?_
    have hr9 := hr11
    rw [show (lastN x k ++ abI x (x.ns.getD k 0) i).map encB ++ [encB (x.msg 5 (x.ns.getD k 0) i [])] = (lastN x k ++ abI x (x.ns.getD k 0) (i + 1)).map encB from by rw [abI_y hts c8, ← List.append_assoc, List.map_append (l₂ := [x.msg 5 (x.ns.getD k 0) i []])]; rfl] at hr9
    exact F1 (⟨i + 1, r11, v11⟩ : Nat × Res × Value) (by show ps.length - (i + 1) < ps.length - i; omega) ⟨rfl, rfl, rfl, rfl, rfl, trivial⟩ ⟨by show i + 1 ≤ _; omega, hr9, h12⟩
   try simp only [DD] at c8
   refine U0<|N1<|H0<|L0<|C0 1 rfl<|I0 (V0 rfl rfl (by omega)) rfl<|C0 1 rfl<|J0 ?_
   rw [← abI_x (n := (x.ns.getD k 0)) hts c8] at hro2
   exact F1 (⟨i + 1, r3, v3⟩ : Nat × Res × Value) (by show ps.length - (i + 1) < ps.length - i; omega) ⟨rfl, rfl, rfl, rfl, rfl, trivial⟩ ⟨by show i + 1 ≤ _; omega, hro2, h7⟩
  try simp only [DD] at c6
  refine U1 (B2 (WX.cut (E2 (H0 ?_))))
  obtain rfl : i = ps.length := by omega
  refine L0<|C0 3 rfl<|C1 (cn func47) rfl rfl (qmsg_c _ 8 (x.ns.getD k 0) hL (j := 1) (i := 0) rfl (by decide)) fun w13 h13 =>X2 (vs := (([encB (x.msg 8 (x.ns.getD k 0) 0 [])] : List (List UInt8))).map sB) h13 rfl underlying39 inf9 rfl rfl rfl rfl rfl fun lit64 w14 h14=>I3 (ys := ([encB (x.msg 8 (x.ns.getD k 0) 0 [])] : List (List UInt8))) 1 h14 rfl rfl rfl rfl underlying39 underlying39 (.inr ⟨_, rfl⟩) inf9 rfl hro2 (Src.lit h14 0 rfl rfl rfl) rfl rfl (by first | omega | (simp []; done) | (simp []; omega)) (by first | omega | (simp []; done) | (simp []; omega)) ?_
  intro r15 v15 w16 hr15 h16
  simp only [lz, ls] at h16
  replace h16 := h16.drop 0
  simp only [ez, es'] at h16
  refine C0 1 rfl<|J0<|N1<|H0<|L0<|C0 1 rfl<|I0 (V0 rfl rfl (by omega)) rfl<|C0 1 rfl<|J0 ?_
  have hr9 := hr15
  rw [show (lastN x k ++ abI x (x.ns.getD k 0) ps.length).map encB ++ [encB (x.msg 8 (x.ns.getD k 0) 0 [])] = (lastN x (k + 1)).map encB from by rw [hlp, lastN_n hk2 c4, List.map_append, List.map_append, List.map_append, List.append_assoc]; rfl] at hr9
  exact F1 (⟨k + 1, r15, v15⟩ : Nat × Res × Value) (by show x.ns.length - (k + 1) < x.ns.length - k; omega) ⟨rfl, rfl, rfl, trivial⟩ ⟨by show k + 1 ≤ _; omega, hr9, h16⟩
 try simp only [DD] at c2
 refine U1<|B2<|WX.cut<|E2<|H0<|Wi<|C0 2 rfl<|J0 (H0 (O1 ?_))
 obtain rfl : k = x.ns.length := by omega
 rw [lastN_all] at hro
 exact ret1 rfl rfl (Row.gives hro hL)
theorem st4_ (t : T) : t.state = 0 ∨ t.state = 1 ∨ t.state = 2 ∨ t.state = 3 := by
 unfold Tal.T.state
 split
 ·exact .inr (.inr (.inl rfl))
 split
 ·exact .inl rfl
 split
 ·exact .inr (.inl rfl)
 exact .inr (.inr (.inr rfl))
theorem stp7 (t : T) (n : Int) (a : Bool) : (t.state = 0 ∧ n ∈ t.missing) ∨ (t.state = 0 ∧ n ∉ t.missing) ∨ (t.state = 1 ∧ n ∈ t.missing ∧ a = true) ∨ (t.state = 1 ∧ n ∈ t.missing ∧ a = false) ∨ (t.state = 1 ∧ n ∉ t.missing) ∨ t.state = 2 ∨ t.state = 3 := by
 rcases st4_ t with h | h | h | h <;> by_cases hm : n ∈ t.missing <;> cases a <;> simp [h, hm]
def stepN (x : J) (key : List UInt8) (now : Int) (i : Nat) (t : T) (n : Int) : List M := if t.state = 0 then (if n ∈ t.missing then [x.msg 2 n i (x.order key i now)] else []) else if t.state = 1 then (if n ∈ t.missing then x.msg 4 n i [] :: (if x.ak = true then [x.msg 7 n i []] else []) else []) else if t.state = 2 then [x.msg 5 n i []] else []
def stepK (x : J) (key : List UInt8) (now : Int) (i : Nat) (t : T) (k : Nat) : List M := (x.ns.take k).flatMap (stepN x key now i t)
section
variable {x : J} {key : List UInt8} {now : Int} {i k : Nat} {t : T} {n : Int}
theorem stepN_0y (h : t.state = 0) (m : n ∈ t.missing) : stepN x key now i t n = [x.msg 2 n i (x.order key i now)] := by unfold stepN; rw [if_pos h, if_pos m]
theorem stepN_0n (h : t.state = 0) (m : n ∉ t.missing) : stepN x key now i t n = [] := by unfold stepN; rw [if_pos h, if_neg m]
theorem stepN_1a (h : t.state = 1) (m : n ∈ t.missing) (a : x.ak = true) : stepN x key now i t n = [x.msg 4 n i [], x.msg 7 n i []] := by unfold stepN; rw [if_neg (by omega), if_pos h, if_pos m, if_pos a]
theorem stepN_1y (h : t.state = 1) (m : n ∈ t.missing) (a : x.ak = false) : stepN x key now i t n = [x.msg 4 n i []] := by unfold stepN; rw [if_neg (by omega), if_pos h, if_pos m, if_neg (by rw [a]; decide)]
theorem stepN_1n (h : t.state = 1) (m : n ∉ t.missing) : stepN x key now i t n = [] := by unfold stepN; rw [if_neg (by omega), if_pos h, if_neg m]
theorem stepN_2 (h : t.state = 2) : stepN x key now i t n = [x.msg 5 n i []] := by unfold stepN; rw [if_neg (by omega), if_neg (by omega), if_pos h]
theorem stepN_3 (h : t.state = 3) : stepN x key now i t n = [] := by unfold stepN; rw [if_neg (by omega), if_neg (by omega), if_neg (by omega)]
theorem stepK_s (h : k < x.ns.length) : (List.range i).flatMap (x.stepO key now) ++ stepK x key now i t (k + 1) = (List.range i).flatMap (x.stepO key now) ++ stepK x key now i t k ++ stepN x key now i t (x.ns.getD k 0) := by
 unfold stepK
 rw [take_s (d := 0) h, List.flatMap_append, List.append_assoc]
 simp
theorem stepK_len : (stepK x key now i t k).length ≤ k * 2 := by
 unfold stepK
 refine Nat.le_trans (fm_len (c := 2) _ fun n _ => ?_) (Nat.mul_le_mul_right _ (by rw [List.length_take]; exact Nat.min_le_left _ _))
 unfold stepN
 split
 ·split <;> simp
 split
 ·split
  ·split <;> simp
  simp
 split <;> simp
theorem flat_filter {α : Type} (f : Int → List α) : ∀ {l ns : List Int}, l.Sublist ns → ns.Nodup → l.flatMap f = ns.flatMap fun n => if n ∈ l then f n else []
 |_, _, .slnil, _ => rfl
 |l, _ :: ns, .cons a h, hn => by
  have hn' := List.nodup_cons.1 hn
  rw [List.flatMap_cons, if_neg (fun hh => hn'.1 (h.subset hh)), List.nil_append]
  exact flat_filter f h hn'.2
 |_ :: l, _ :: ns, .cons_cons a h, hn => by
  have hn' := List.nodup_cons.1 hn
  rw [List.flatMap_cons, List.flatMap_cons, if_pos List.mem_cons_self, flat_filter f h hn'.2]
  congr 1
  have : ∀ (q : List Int), (∀ n ∈ q, n ≠ a) → (q.flatMap fun n => if n ∈ l then f n else []) = q.flatMap fun n => if n ∈ a :: l then f n else [] := by
   intro q hq
   induction q with
   |nil => rfl
   |cons b q ih =>
    rw [List.flatMap_cons, List.flatMap_cons, ih (fun n hn => hq n (List.mem_cons_of_mem _ hn))]
    have hb := hq b List.mem_cons_self
    by_cases h1 : b ∈ l
    ·rw [if_pos h1, if_pos (List.mem_cons_of_mem _ h1)]
    rw [if_neg h1, if_neg (by simp [hb, h1])]
  exact this ns (fun n hn e => hn'.1 (e ▸ hn))
theorem miss_sub2 {α : Type} : ∀ (ns : List Int) (os : List (Option α)), (Tal.miss ns os).Sublist ns
 |[], [] => by unfold Tal.miss; exact .slnil
 |[], _ :: _ => by unfold Tal.miss; exact .slnil
 |n :: ns, [] => by unfold Tal.miss; exact List.nil_sublist _
 |n :: ns, o :: os => by
  unfold Tal.miss
  split
  ·exact .cons_cons n (miss_sub2 ns os)
  exact .cons n (miss_sub2 ns os)
theorem missing_sub (t : T) : t.missing.Sublist t.ns := by
 unfold Tal.T.missing
 split
 ·exact miss_sub2 _ _
 split
 ·exact miss_sub2 _ _
 exact List.nil_sublist _
theorem stepK_all (hn : t.ns = x.ns) (hd : x.ns.Nodup) (ht : x.ts.getD i none = some t) : stepK x key now i t x.ns.length = x.stepO key now i := by
 have hs := missing_sub t
 rw [hn] at hs
 unfold stepK J.stepO
 rw [List.take_of_length_le (Nat.le_refl _), ht]
 simp only []
 split
 ·rename_i h0
  rw [List.map_eq_flatMap, flat_filter _ hs hd]
  congr 1
  funext n
  unfold stepN
  rw [if_pos h0]
 rename_i h0
 split
 ·rename_i h1
  rw [flat_filter _ hs hd]
  congr 1
  funext n
  unfold stepN
  rw [if_neg h0, if_pos h1]
 rename_i h1
 split
 ·rename_i h2
  rw [List.map_eq_flatMap]
  congr 1
  funext n
  unfold stepN
  rw [if_neg h0, if_neg h1, if_pos h2]
 rename_i h2
 have : stepN x key now i t = fun _ => [] := by funext n; unfold stepN; rw [if_neg h0, if_neg h1, if_neg h2]
 rw [this]
 simp
theorem steps_no (h : x.ts.getD i none = none) : ((List.range i).flatMap (x.stepO key now)) = (List.range (i + 1)).flatMap (x.stepO key now) := by
 rw [List.range_succ, List.flatMap_append, List.flatMap_cons, List.flatMap_nil]
 have : x.stepO key now i = [] := by unfold J.stepO; rw [h]
 rw [this]; simp
theorem steps_ye (hok : x.ok) (h : x.ts.getD i none = some t) : (List.range i).flatMap (x.stepO key now) ++ stepK x key now i t x.ns.length = (List.range (i + 1)).flatMap (x.stepO key now) := by
 rw [stepK_all (hok.tk (h ▸ getD_mem (getD_lt h))).ns (Tal.oks_nodup hok.ns.2) h, List.range_succ, List.flatMap_append, List.flatMap_cons, List.flatMap_nil, List.append_nil]
end
theorem qsteps_c (w : World) {x : J} {b bT : Nat} {A B C R N : Option Addr} {cap cap2 u3 u4 u5 : Nat} {ps : List (Option Nat)} {zt : List Value} {ft : Nat × Nat} {tm : List Res}{key : List UInt8} {now : Int} (h : St W F (qB x b bT A B C R N cap cap2 u3 u4 u5 ps zt :: qT ps bT zt ft :: (tm ++ cs)) w) (hO : JobOq F x A B C R N ps zt ft tm) (hok : x.ok) (hkl : key.length ≤ 900000) : Calls prog 48 #[pz b, .string (bs key), Vi now] w (Gives W F (qB x b bT A B C R N cap cap2 u3 u4 u5 ps zt :: qT ps bT zt ft :: (tm ++ cs)) sB ((x.stepsO key now).map encB))  := by
 refine enter (args := [pz b, .string (bs key), Vi now]) func48 rfl rfl rfl ?_
 have hlp := hO.ta.lp
 have hlm := hO.ta.lm
 have hns16 := Tal.oks_len hok.ns.2
 have hns0 := hok.ns.1
 have hts16 : x.ts.length ≤ 16 := by rw [hok.lt]; exact (Dg.chk_ok hok.ss).2.1.2
 refine Wi<|C0 1 rfl<|We<|C0 1 rfl<|J0 (H0 (N0 (N0 ?_)))
 replace h := h.nilRes
 refine L0<|C0 1 rfl<|Wj<|B3 (σ := Nat × Snap × Res × Value) (fun q_ => [(0, pz b), (1, .string (bs key)), (2, Vi now), (7, q_.2.2.2), (8, .int .i64 (q_.1 : Int))]) (fun q_ w => q_.1 ≤ ps.length ∧ Le F q_.2.1 ∧ Row 9 sB q_.2.2.1 q_.2.2.2 (((List.range q_.1).flatMap (x.stepO key now)).map encB) ∧ St W q_.2.1 (q_.2.2.1 :: qB x b bT A B C R N cap cap2 u3 u4 u5 ps zt :: qT ps bT zt ft :: (tm ++ cs)) w) (fun q_ => ps.length - q_.1) (⟨0, F, [], .slice none 0 0⟩) (⟨Nat.zero_le _, Le.refl F, Row.nil _ _, h⟩) ?_
 rintro ⟨i, G, r2, v2⟩ w1 ⟨hi, hle, hro, hL⟩
 try dsimp only at hi hle hro hL
 refine W2 [(0, pz b), (1, .string (bs key)), (2, Vi now), (7, v2), (8, .int .i64 (i : Int))] ?_
 have hsl := fm_len (c := 32) (List.range i) (f := x.stepO key now) (fun a _ => stepO_len hok key now a)
 rw [List.length_range] at hsl
 refine N0<|Wi<|H1 hL [1] 5 rfl<|I0 (R0 (n := (ps.length : Int)) (Y0 underlying99 rfl rfl) rfl) rfl<|C0 1 rfl<|Wa<|Z0 rfl (fun c2 => ?_) (fun c2 => ?_)
 ·try simp only [DD] at c2
  refine U0 (H0 (N0 (M1 (N0 ?_))))
  have hO2 := hO.mono hle
  have hi3 : i < x.ts.length := by omega
  rcases hts : x.ts.getD i none with _ | t
  ·obtain ⟨hp, hm1, hm2⟩ := hO2.ta.no i hi3 hts
   refine L0<|H1 hL [1] 5 rfl<|I0 (W0 underlying99 inf116 rfl rfl (n := i) rfl (by omega)) rfl<|I0 (X1 (u := .pointer none) (I2 (none : Option Nat) hL 2 rfl (T3 (E := 116) (f := pv) (b := bT) (fz := ft) (xs := ps) (zs := zt) rfl hO2.ft) (n := i) (by omega) underlying116 rfl rfl) (by rw [hp]; rfl)) rfl<|C0 1 rfl<|We<|C0 1 rfl<|Wj<|B3 (σ := Nat × Snap × Res × Value) (fun q_ => [(0, pz b), (1, .string (bs key)), (2, Vi now), (7, q_.2.2.2), (8, .int .i64 (i : Int)), (9, .pointer none), (10, .int .i64 (q_.1 : Int))]) (fun q_ w => q_.1 = 0 ∧ Le G q_.2.1 ∧ Row 9 sB q_.2.2.1 q_.2.2.2 (((List.range i).flatMap (x.stepO key now)).map encB) ∧ St W q_.2.1 (q_.2.2.1 :: qB x b bT A B C R N cap cap2 u3 u4 u5 ps zt :: qT ps bT zt ft :: (tm ++ cs)) w) (fun q_ => x.ns.length - q_.1) (⟨0, G, r2, v2⟩) (⟨by omega, Le.refl G, (by first | exact hro | (rw [show stepK x key now i t 0 = [] from rfl, List.append_nil]; exact hro)), hL⟩) ?_
   rintro ⟨k, G2, r3, v3⟩ w3 ⟨hk, hle2, hro2, hL⟩
   try dsimp only at hk hle2 hro2 hL
   refine W2 [(0, pz b), (1, .string (bs key)), (2, Vi now), (7, v3), (8, .int .i64 (i : Int)), (9, .pointer none), (10, .int .i64 (k : Int))] ?_
   have hO3 := hO2.mono hle2
   try have hxl : (((List.range i).flatMap (x.stepO key now) ++ stepK x key now i t k).map encB).length ≤ 16 * 32 + 32 := by rw [List.length_map, lA]; have := stepK_len (x := x) (key := key) (now := now) (i := i) (t := t) (k := k); omega
   refine N0<|Wi<|H1 hL [1] 6 rfl<|I0 (R0 (n := (x.ns.length : Int)) (Y0 underlying33 rfl rfl) rfl) rfl<|I0 (Bt (Q1 rfl rfl) (dA (by omega))) rfl<|C0 2 rfl<|Q0 rfl<|I0 (U3 underlying116 rfl rfl) rfl<|C0 1 rfl<|Wa<|E1 rfl (rfl)<|U1<|B2<|WX.cut<|E2<|N1<|H0<|L0<|C0 1 rfl<|I0 (V0 rfl rfl (by omega)) rfl<|C0 1 rfl<|J0 ?_
   rw [steps_no hts] at hro2
   exact F1 (⟨i + 1, G2, r3, v3⟩ : Nat × Snap × Res × Value) (by show ps.length - (i + 1) < ps.length - i; omega) ⟨rfl, rfl, rfl, rfl, rfl, trivial⟩ ⟨by show i + 1 ≤ _; omega, Le.trans hle hle2, hro2, hL⟩
  obtain ⟨bt, q1, q2, hp, hm1, hm2, bv, bc, zv, zc, fv, fc, hTR⟩ := hO2.ta.ye i t hts
  refine L0<|H1 hL [1] 5 rfl<|I0 (W0 underlying99 inf116 rfl rfl (n := i) rfl (by omega)) rfl<|I0 (X1 (u := pz bt) (I2 (none : Option Nat) hL 2 rfl (T3 (E := 116) (f := pv) (b := bT) (fz := ft) (xs := ps) (zs := zt) rfl hO2.ft) (n := i) (by omega) underlying116 rfl rfl) (by rw [hp]; rfl)) rfl<|C0 1 rfl<|We<|C0 1 rfl<|Wj<|B3 (σ := Nat × Snap × Res × Value) (fun q_ => [(0, pz b), (1, .string (bs key)), (2, Vi now), (7, q_.2.2.2), (8, .int .i64 (i : Int)), (9, pz bt), (10, .int .i64 (q_.1 : Int))]) (fun q_ w => q_.1 ≤ x.ns.length ∧ Le G q_.2.1 ∧ Row 9 sB q_.2.2.1 q_.2.2.2 (((List.range i).flatMap (x.stepO key now) ++ stepK x key now i t q_.1).map encB) ∧ St W q_.2.1 (q_.2.2.1 :: qB x b bT A B C R N cap cap2 u3 u4 u5 ps zt :: qT ps bT zt ft :: (tm ++ cs)) w) (fun q_ => x.ns.length - q_.1) (⟨0, G, r2, v2⟩) (⟨by omega, Le.refl G, (by first | exact hro | (rw [show stepK x key now i t 0 = [] from rfl, List.append_nil]; exact hro)), hL⟩) ?_
  rintro ⟨k, G2, r3, v3⟩ w4 ⟨hk, hle2, hro2, hL⟩
  try dsimp only at hk hle2 hro2 hL
  refine W2 [(0, pz b), (1, .string (bs key)), (2, Vi now), (7, v3), (8, .int .i64 (i : Int)), (9, pz bt), (10, .int .i64 (k : Int))] ?_
  have hO3 := hO2.mono hle2
  try have hxl : (((List.range i).flatMap (x.stepO key now) ++ stepK x key now i t k).map encB).length ≤ 16 * 32 + 32 := by rw [List.length_map, lA]; have := stepK_len (x := x) (key := key) (now := now) (i := i) (t := t) (k := k); omega
  refine N0 (N0 ?_)
  by_cases hk2 : k < x.ns.length
  ·refine L0<|H1 hL [1] 6 rfl<|I0 (R0 (n := (x.ns.length : Int)) (Y0 underlying33 rfl rfl) rfl) rfl<|I0 (Bt (Q1 rfl rfl) (dA (by omega))) rfl<|C0 2 rfl<|Q0 rfl<|I0 (U3 underlying116 rfl rfl) rfl<|C0 1 rfl<|Wa<|J1 rfl (rfl)<|U0 (H0 (N0 (M1 (N0 ?_))))
   replace hTR := hTR.mono hle2
   obtain ⟨aa, hAa, hra⟩ := rd1 (hO.nd.mono (Le.trans hle hle2)) (by omega)
   refine L0<|H1 hL [1] 6 rfl<|I0 (Z3 hAa underlying33 inf3 rfl rfl (n := k) rfl (by omega)) rfl<|I0 (I1 (f := Vi) (0 : Int) hL hra (n := k) (by omega) underlying3 rfl rfl) rfl<|C0 1 rfl<|We<|C0 1 rfl<|V1 (cn func91) rfl rfl (Tal.rmiss_r _ hL (RR.at2 hTR (at3q hm1) (at3q hm2) (by omega))) ?_
   rintro _ w5 ⟨GM, AM, cM, hGM, rfl, hcM, hrM, h5⟩
   refine ⟨_, rfl,C0 1 rfl<|C1 (cn func46) rfl rfl (qin_c _ (x.ns.getD k 0) h5 hrM (Nat.le_trans (Tal.missing_len t) (by rw [(hok.tk (hts ▸ getD_mem (getD_lt hts))).ns]; omega))) fun w6 h6 =>C0 1 rfl<|J0 (H0 (N0 (N0 ?_)))⟩
   replace hTR := hTR.mono hGM
   rcases stp7 t (x.ns.getD k 0) x.ak with ⟨q1_, q2_⟩ | ⟨q1_, q2_⟩ | ⟨q1_, q2_, q3_⟩ | ⟨q1_, q2_, q3_⟩ | ⟨q1_, q2_⟩ | q1_ | q1_
   ·refine L0<|C0 1 rfl<|C1 (cn func92) rfl rfl (Tal.rstate_r _ h6 (RR.at2 hTR (at3q hm1) (at3q hm2) (by omega))) fun w7 h7 =>I0 (Bt (L1 rfl rfl) (dA q1_)) rfl<|C0 1 rfl<|Q0 rfl<|I0 (Bt (C3 rfl) (dA q2_)) rfl<|C0 1 rfl<|Wa<|J1 rfl (rfl)<|L0<|C0 8 rfl<|C1 (cn func93) rfl rfl (qtx_c _ (j := 1) (i := i) h7 rfl (hO.nd.mono (Le.trans hle (Le.trans hle2 hGM))) (hO.st.mono (Le.trans hle (Le.trans hle2 hGM))) hok (by rw [← hok.lt]; omega) hkl) fun w8 h8 =>C1 (cn func47) rfl rfl (qmsg_c _ 2 (x.ns.getD k 0) h8 (j := 1) (i := i) rfl (order_len _ _ _ _)) fun w9 h9 =>X2 (vs := (([encB (x.msg 2 (x.ns.getD k 0) i (x.order key i now))] : List (List UInt8))).map sB) h9 rfl underlying39 inf9 rfl rfl rfl rfl rfl fun lit71 w10 h10=>I3 (ys := ([encB (x.msg 2 (x.ns.getD k 0) i (x.order key i now))] : List (List UInt8))) 1 h10 rfl rfl rfl rfl underlying39 underlying39 (.inr ⟨_, rfl⟩) inf9 rfl hro2 (Src.lit h10 0 rfl rfl rfl) rfl rfl (by first | omega | (simp []; done) | (simp []; omega)) (by first | omega | (simp []; done) | (simp []; omega)) ?_
    intro r11 v11 w12 hr11 h12
    simp only [lz, ls] at h12
    replace h12 := h12.drop 0
    simp only [ez, es'] at h12
    refine C0 1 rfl<|Wh<|C0 1 rfl<|C1 (cn func92) rfl rfl (Tal.rstate_r _ h12 (RR.at2 hTR (at3q hm1) (at3q hm2) (by omega))) fun w13 h13 =>I0 (Bf (L1 rfl rfl) (dN (by omega))) rfl<|C0 3 rfl<|Wa<|E1 rfl (rfl)<|Wk<|C0 1 rfl<|C1 (cn func92) rfl rfl (Tal.rstate_r _ h13 (RR.at2 hTR (at3q hm1) (at3q hm2) (by omega))) fun w14 h14 =>I0 (Bf (L1 rfl rfl) (dN (by omega))) rfl<|Wa<|E1 rfl (rfl)<|U0<|N1<|H0<|L0<|C0 1 rfl<|I0 (V0 rfl rfl (by omega)) rfl<|C0 1 rfl<|J0 ?_
    have hr9 := hr11
    have e9 := stepK_s (x := x) (key := key) (now := now) (i := i) (t := t) hk2
    rw [stepN_0y q1_ q2_] at e9
    rw [show (((List.range i).flatMap (x.stepO key now) ++ stepK x key now i t k).map encB ++ [encB (x.msg 2 (x.ns.getD k 0) i (x.order key i now))]) = ((List.range i).flatMap (x.stepO key now) ++ stepK x key now i t (k + 1)).map encB from by rw [e9]; simp] at hr9
    exact F1 (⟨k + 1, GM, r11, v11⟩ : Nat × Snap × Res × Value) (by show x.ns.length - (k + 1) < x.ns.length - k; omega) ⟨rfl, rfl, rfl, rfl, rfl, rfl, rfl, trivial⟩ ⟨by show k + 1 ≤ _; omega, Le.trans hle2 hGM, hr9, h14⟩
   ·refine L0<|C0 1 rfl<|C1 (cn func92) rfl rfl (Tal.rstate_r _ h6 (RR.at2 hTR (at3q hm1) (at3q hm2) (by omega))) fun w15 h15 =>I0 (Bt (L1 rfl rfl) (dA q1_)) rfl<|C0 1 rfl<|Q0 rfl<|I0 (Bf (C3 rfl) (dN q2_)) rfl<|C0 1 rfl<|Wa<|E1 rfl (rfl)<|U0<|H0<|N0<|Wi<|C0 1 rfl<|C1 (cn func92) rfl rfl (Tal.rstate_r _ h15 (RR.at2 hTR (at3q hm1) (at3q hm2) (by omega))) fun w16 h16 =>I0 (Bf (L1 rfl rfl) (dN (by omega))) rfl<|C0 3 rfl<|Wa<|E1 rfl (rfl)<|Wk<|C0 1 rfl<|C1 (cn func92) rfl rfl (Tal.rstate_r _ h16 (RR.at2 hTR (at3q hm1) (at3q hm2) (by omega))) fun w17 h17 =>I0 (Bf (L1 rfl rfl) (dN (by omega))) rfl<|Wa<|E1 rfl (rfl)<|U0<|N1<|H0<|L0<|C0 1 rfl<|I0 (V0 rfl rfl (by omega)) rfl<|C0 1 rfl<|J0 ?_
    have e9 := stepK_s (x := x) (key := key) (now := now) (i := i) (t := t) hk2
    rw [stepN_0n q1_ q2_, List.append_nil] at e9
    rw [← e9] at hro2
    exact F1 (⟨k + 1, GM, r3, v3⟩ : Nat × Snap × Res × Value) (by show x.ns.length - (k + 1) < x.ns.length - k; omega) ⟨rfl, rfl, rfl, rfl, rfl, rfl, rfl, trivial⟩ ⟨by show k + 1 ≤ _; omega, Le.trans hle2 hGM, hro2, h17⟩
   ·refine L0<|C0 1 rfl<|C1 (cn func92) rfl rfl (Tal.rstate_r _ h6 (RR.at2 hTR (at3q hm1) (at3q hm2) (by omega))) fun w18 h18 =>I0 (Bf (L1 rfl rfl) (dN (by omega))) rfl<|C0 3 rfl<|Wa<|E1 rfl (rfl)<|U0<|H0<|N0<|Wi<|C0 1 rfl<|C1 (cn func92) rfl rfl (Tal.rstate_r _ h18 (RR.at2 hTR (at3q hm1) (at3q hm2) (by omega))) fun w19 h19 =>I0 (Bt (L1 rfl rfl) (dA q1_)) rfl<|C0 1 rfl<|Q0 rfl<|I0 (Bt (C3 rfl) (dA q2_)) rfl<|C0 1 rfl<|Wa<|J1 rfl (rfl)<|Wi<|C0 4 rfl<|C1 (cn func47) rfl rfl (qmsg_c _ 4 (x.ns.getD k 0) h19 (j := 1) (i := i) rfl (by decide)) fun w20 h20 =>X2 (vs := (([encB (x.msg 4 (x.ns.getD k 0) i [])] : List (List UInt8))).map sB) h20 rfl underlying39 inf9 rfl rfl rfl rfl rfl fun lit84 w21 h21=>I3 (ys := ([encB (x.msg 4 (x.ns.getD k 0) i [])] : List (List UInt8))) 1 h21 rfl rfl rfl rfl underlying39 underlying39 (.inr ⟨_, rfl⟩) inf9 rfl hro2 (Src.lit h21 0 rfl rfl rfl) rfl rfl (by first | omega | (simp []; done) | (simp []; omega)) (by first | omega | (simp []; done) | (simp []; omega)) ?_
    intro r22 v22 w23 hr22 h23
    simp only [lz, ls] at h23
    replace h23 := h23.drop 0
    simp only [ez, es'] at h23
    refine C0 1 rfl<|We<|C0 3 rfl<|I0 (Bt (K0 underlying4 rfl rfl (h23.ocell (i := 1) rfl rfl)) q3_) rfl<|Wa<|J1 rfl (rfl) ?_
    have hx2 : (((List.range i).flatMap (x.stepO key now) ++ stepK x key now i t k).map encB ++ [encB (x.msg 4 (x.ns.getD k 0) i [])]).length ≤ 16 * 32 + 33 := by rw [lA, List.length_singleton]; omega
    refine L0<|C0 4 rfl<|C1 (cn func47) rfl rfl (qmsg_c _ 7 (x.ns.getD k 0) h23 (j := 1) (i := i) rfl (by decide)) fun w24 h24 =>X2 (vs := (([encB (x.msg 7 (x.ns.getD k 0) i [])] : List (List UInt8))).map sB) h24 rfl underlying39 inf9 rfl rfl rfl rfl rfl fun lit95 w25 h25=>I3 (ys := ([encB (x.msg 7 (x.ns.getD k 0) i [])] : List (List UInt8))) 1 h25 rfl rfl rfl rfl underlying39 underlying39 (.inr ⟨_, rfl⟩) inf9 rfl hr22 (Src.lit h25 0 rfl rfl rfl) rfl rfl (by first | omega | (simp []; done) | (simp []; omega)) (by first | omega | (simp []; done) | (simp []; omega)) ?_
    intro r26 v26 w27 hr26 h27
    simp only [lz, ls] at h27
    replace h27 := h27.drop 0
    simp only [ez, es'] at h27
    refine C0 1 rfl<|We<|C0 1 rfl<|C1 (cn func92) rfl rfl (Tal.rstate_r _ h27 (RR.at2 hTR (at3q hm1) (at3q hm2) (by omega))) fun w28 h28 =>I0 (Bf (L1 rfl rfl) (dN (by omega))) rfl<|Wa<|E1 rfl (rfl)<|U0<|N1<|H0<|L0<|C0 1 rfl<|I0 (V0 rfl rfl (by omega)) rfl<|C0 1 rfl<|J0 ?_
    have hr9 := hr26
    have e9 := stepK_s (x := x) (key := key) (now := now) (i := i) (t := t) hk2
    rw [stepN_1a q1_ q2_ q3_] at e9
    rw [show (((List.range i).flatMap (x.stepO key now) ++ stepK x key now i t k).map encB ++ [encB (x.msg 4 (x.ns.getD k 0) i [])] ++ [encB (x.msg 7 (x.ns.getD k 0) i [])]) = ((List.range i).flatMap (x.stepO key now) ++ stepK x key now i t (k + 1)).map encB from by rw [e9]; simp] at hr9
    exact F1 (⟨k + 1, GM, r26, v26⟩ : Nat × Snap × Res × Value) (by show x.ns.length - (k + 1) < x.ns.length - k; omega) ⟨rfl, rfl, rfl, rfl, rfl, rfl, rfl, trivial⟩ ⟨by show k + 1 ≤ _; omega, Le.trans hle2 hGM, hr9, h28⟩
   ·refine L0<|C0 1 rfl<|C1 (cn func92) rfl rfl (Tal.rstate_r _ h6 (RR.at2 hTR (at3q hm1) (at3q hm2) (by omega))) fun w29 h29 =>I0 (Bf (L1 rfl rfl) (dN (by omega))) rfl<|C0 3 rfl<|Wa<|E1 rfl (rfl)<|U0<|H0<|N0<|Wi<|C0 1 rfl<|C1 (cn func92) rfl rfl (Tal.rstate_r _ h29 (RR.at2 hTR (at3q hm1) (at3q hm2) (by omega))) fun w30 h30 =>I0 (Bt (L1 rfl rfl) (dA q1_)) rfl<|C0 1 rfl<|Q0 rfl<|I0 (Bt (C3 rfl) (dA q2_)) rfl<|C0 1 rfl<|Wa<|J1 rfl (rfl)<|Wi<|C0 4 rfl<|C1 (cn func47) rfl rfl (qmsg_c _ 4 (x.ns.getD k 0) h30 (j := 1) (i := i) rfl (by decide)) fun w31 h31 =>X2 (vs := (([encB (x.msg 4 (x.ns.getD k 0) i [])] : List (List UInt8))).map sB) h31 rfl underlying39 inf9 rfl rfl rfl rfl rfl fun lit84 w32 h32=>I3 (ys := ([encB (x.msg 4 (x.ns.getD k 0) i [])] : List (List UInt8))) 1 h32 rfl rfl rfl rfl underlying39 underlying39 (.inr ⟨_, rfl⟩) inf9 rfl hro2 (Src.lit h32 0 rfl rfl rfl) rfl rfl (by first | omega | (simp []; done) | (simp []; omega)) (by first | omega | (simp []; done) | (simp []; omega)) ?_
    intro r33 v33 w34 hr33 h34
    simp only [lz, ls] at h34
    replace h34 := h34.drop 0
    simp only [ez, es'] at h34
    refine C0 1 rfl<|We<|C0 3 rfl<|I0 (Bf (K0 underlying4 rfl rfl (h34.ocell (i := 1) rfl rfl)) q3_) rfl<|Wa<|E1 rfl (rfl)<|Wk<|C0 1 rfl<|C1 (cn func92) rfl rfl (Tal.rstate_r _ h34 (RR.at2 hTR (at3q hm1) (at3q hm2) (by omega))) fun w35 h35 =>I0 (Bf (L1 rfl rfl) (dN (by omega))) rfl<|Wa<|E1 rfl (rfl)<|U0<|N1<|H0<|L0<|C0 1 rfl<|I0 (V0 rfl rfl (by omega)) rfl<|C0 1 rfl<|J0 ?_
    have hr9 := hr33
    have e9 := stepK_s (x := x) (key := key) (now := now) (i := i) (t := t) hk2
    rw [stepN_1y q1_ q2_ q3_] at e9
    rw [show (((List.range i).flatMap (x.stepO key now) ++ stepK x key now i t k).map encB ++ [encB (x.msg 4 (x.ns.getD k 0) i [])]) = ((List.range i).flatMap (x.stepO key now) ++ stepK x key now i t (k + 1)).map encB from by rw [e9]; simp] at hr9
    exact F1 (⟨k + 1, GM, r33, v33⟩ : Nat × Snap × Res × Value) (by show x.ns.length - (k + 1) < x.ns.length - k; omega) ⟨rfl, rfl, rfl, rfl, rfl, rfl, rfl, trivial⟩ ⟨by show k + 1 ≤ _; omega, Le.trans hle2 hGM, hr9, h35⟩
   ·refine L0<|C0 1 rfl<|C1 (cn func92) rfl rfl (Tal.rstate_r _ h6 (RR.at2 hTR (at3q hm1) (at3q hm2) (by omega))) fun w36 h36 =>I0 (Bf (L1 rfl rfl) (dN (by omega))) rfl<|C0 3 rfl<|Wa<|E1 rfl (rfl)<|U0<|H0<|N0<|Wi<|C0 1 rfl<|C1 (cn func92) rfl rfl (Tal.rstate_r _ h36 (RR.at2 hTR (at3q hm1) (at3q hm2) (by omega))) fun w37 h37 =>I0 (Bt (L1 rfl rfl) (dA q1_)) rfl<|C0 1 rfl<|Q0 rfl<|I0 (Bf (C3 rfl) (dN q2_)) rfl<|C0 1 rfl<|Wa<|E1 rfl (rfl)<|Wk<|C0 1 rfl<|C1 (cn func92) rfl rfl (Tal.rstate_r _ h37 (RR.at2 hTR (at3q hm1) (at3q hm2) (by omega))) fun w38 h38 =>I0 (Bf (L1 rfl rfl) (dN (by omega))) rfl<|Wa<|E1 rfl (rfl)<|U0<|N1<|H0<|L0<|C0 1 rfl<|I0 (V0 rfl rfl (by omega)) rfl<|C0 1 rfl<|J0 ?_
    have e9 := stepK_s (x := x) (key := key) (now := now) (i := i) (t := t) hk2
    rw [stepN_1n q1_ q2_, List.append_nil] at e9
    rw [← e9] at hro2
    exact F1 (⟨k + 1, GM, r3, v3⟩ : Nat × Snap × Res × Value) (by show x.ns.length - (k + 1) < x.ns.length - k; omega) ⟨rfl, rfl, rfl, rfl, rfl, rfl, rfl, trivial⟩ ⟨by show k + 1 ≤ _; omega, Le.trans hle2 hGM, hro2, h38⟩
   ·refine L0<|C0 1 rfl<|C1 (cn func92) rfl rfl (Tal.rstate_r _ h6 (RR.at2 hTR (at3q hm1) (at3q hm2) (by omega))) fun w39 h39 =>I0 (Bf (L1 rfl rfl) (dN (by omega))) rfl<|C0 3 rfl<|Wa<|E1 rfl (rfl)<|U0<|H0<|N0<|Wi<|C0 1 rfl<|C1 (cn func92) rfl rfl (Tal.rstate_r _ h39 (RR.at2 hTR (at3q hm1) (at3q hm2) (by omega))) fun w40 h40 =>I0 (Bf (L1 rfl rfl) (dN (by omega))) rfl<|C0 3 rfl<|Wa<|E1 rfl (rfl)<|Wk<|C0 1 rfl<|C1 (cn func92) rfl rfl (Tal.rstate_r _ h40 (RR.at2 hTR (at3q hm1) (at3q hm2) (by omega))) fun w41 h41 =>I0 (Bt (L1 rfl rfl) (dA q1_)) rfl<|Wa<|J1 rfl (rfl)<|L0<|C0 4 rfl<|C1 (cn func47) rfl rfl (qmsg_c _ 5 (x.ns.getD k 0) h41 (j := 1) (i := i) rfl (by decide)) fun w42 h42 =>X2 (vs := (([encB (x.msg 5 (x.ns.getD k 0) i [])] : List (List UInt8))).map sB) h42 rfl underlying39 inf9 rfl rfl rfl rfl rfl fun lit105 w43 h43=>I3 (ys := ([encB (x.msg 5 (x.ns.getD k 0) i [])] : List (List UInt8))) 1 h43 rfl rfl rfl rfl underlying39 underlying39 (.inr ⟨_, rfl⟩) inf9 rfl hro2 (Src.lit h43 0 rfl rfl rfl) rfl rfl (by first | omega | (simp []; done) | (simp []; omega)) (by first | omega | (simp []; done) | (simp []; omega)) ?_
    intro r44 v44 w45 hr44 h45
    simp only [lz, ls] at h45
    replace h45 := h45.drop 0
    simp only [ez, es'] at h45
    refine C0 1 rfl<|J0<|N1<|H0<|L0<|C0 1 rfl<|I0 (V0 rfl rfl (by omega)) rfl<|C0 1 rfl<|J0 ?_
    have hr9 := hr44
    have e9 := stepK_s (x := x) (key := key) (now := now) (i := i) (t := t) hk2
    rw [stepN_2 q1_] at e9
    rw [show (((List.range i).flatMap (x.stepO key now) ++ stepK x key now i t k).map encB ++ [encB (x.msg 5 (x.ns.getD k 0) i [])]) = ((List.range i).flatMap (x.stepO key now) ++ stepK x key now i t (k + 1)).map encB from by rw [e9]; simp] at hr9
    exact F1 (⟨k + 1, GM, r44, v44⟩ : Nat × Snap × Res × Value) (by show x.ns.length - (k + 1) < x.ns.length - k; omega) ⟨rfl, rfl, rfl, rfl, rfl, rfl, rfl, trivial⟩ ⟨by show k + 1 ≤ _; omega, Le.trans hle2 hGM, hr9, h45⟩
   refine L0<|C0 1 rfl<|C1 (cn func92) rfl rfl (Tal.rstate_r _ h6 (RR.at2 hTR (at3q hm1) (at3q hm2) (by omega))) fun w46 h46 =>I0 (Bf (L1 rfl rfl) (dN (by omega))) rfl<|C0 3 rfl<|Wa<|E1 rfl (rfl)<|U0<|H0<|N0<|Wi<|C0 1 rfl<|C1 (cn func92) rfl rfl (Tal.rstate_r _ h46 (RR.at2 hTR (at3q hm1) (at3q hm2) (by omega))) fun w47 h47 =>I0 (Bf (L1 rfl rfl) (dN (by omega))) rfl<|C0 3 rfl<|Wa<|E1 rfl (rfl)<|Wk<|C0 1 rfl<|C1 (cn func92) rfl rfl (Tal.rstate_r _ h47 (RR.at2 hTR (at3q hm1) (at3q hm2) (by omega))) fun w48 h48 =>I0 (Bf (L1 rfl rfl) (dN (by omega))) rfl<|Wa<|E1 rfl (rfl)<|U0<|N1<|H0<|L0<|C0 1 rfl<|I0 (V0 rfl rfl (by omega)) rfl<|C0 1 rfl<|J0 ?_
   have e9 := stepK_s (x := x) (key := key) (now := now) (i := i) (t := t) hk2
   rw [stepN_3 q1_, List.append_nil] at e9
   rw [← e9] at hro2
   exact F1 (⟨k + 1, GM, r3, v3⟩ : Nat × Snap × Res × Value) (by show x.ns.length - (k + 1) < x.ns.length - k; omega) ⟨rfl, rfl, rfl, rfl, rfl, rfl, rfl, trivial⟩ ⟨by show k + 1 ≤ _; omega, Le.trans hle2 hGM, hro2, h48⟩
  refine L0<|H1 hL [1] 6 rfl<|I0 (R0 (n := (x.ns.length : Int)) (Y0 underlying33 rfl rfl) rfl) rfl<|I0 (Bf (Q1 rfl rfl) (dN (by omega))) rfl<|C0 4 rfl<|Wa<|E1 rfl (rfl)<|U1<|B2<|WX.cut<|E2<|N1<|H0<|L0<|C0 1 rfl<|I0 (V0 rfl rfl (by omega)) rfl<|C0 1 rfl<|J0 ?_
  obtain rfl : k = x.ns.length := by omega
  rw [steps_ye hok hts] at hro2
  exact F1 (⟨i + 1, G2, r3, v3⟩ : Nat × Snap × Res × Value) (by show ps.length - (i + 1) < ps.length - i; omega) ⟨rfl, rfl, rfl, rfl, rfl, trivial⟩ ⟨by show i + 1 ≤ _; omega, Le.trans hle hle2, hro2, hL⟩
 try simp only [DD] at c2
 refine U1<|B2<|WX.cut<|E2<|H0<|Wi<|C0 2 rfl<|J0 (H0 (O1 ?_))
 obtain rfl : i = ps.length := by omega
 rw [show (List.range ps.length).flatMap (x.stepO key now) = x.stepsO key now from by unfold J.stepsO; rw [hlp]] at hro
 obtain ⟨G9, A9, c9, hG9, e9, hc9, hr9, h9⟩ := Row.gives hro hL
 exact ret1 rfl rfl ⟨G9, A9, c9, Le.trans hle hG9, e9, hc9, hr9, h9⟩
def firstN (x : J) (k : Nat) : List M := ((x.ns.take k).filter fun n => decide (n ∉ x.rd)).map fun n => x.msg 0 n 0 []
theorem firstN_y {x : J} {k : Nat} (hk : k < x.ns.length) (h : x.ns.getD k 0 ∈ x.rd) : firstN x (k + 1) = firstN x k := by
 unfold firstN
 rw [take_s (d := 0) hk, List.filter_append, List.filter_cons, if_neg (by rw [decide_eq_true_eq]; exact fun hh => hh h)]
 simp
theorem firstN_n {x : J} {k : Nat} (hk : k < x.ns.length) (h : x.ns.getD k 0 ∉ x.rd) : firstN x (k + 1) = firstN x k ++ [x.msg 0 (x.ns.getD k 0) 0 []] := by
 unfold firstN
 rw [take_s (d := 0) hk, List.filter_append, List.filter_cons, if_pos (dA h), List.map_append]
 simp
theorem firstN_all (x : J) : firstN x x.ns.length = x.firstO := by
 unfold firstN J.firstO
 rw [List.take_of_length_le (Nat.le_refl _)]
theorem firstN_len (x : J) (k : Nat) : (firstN x k).length ≤ k := by
 unfold firstN
 rw [List.length_map]
 exact Nat.le_trans (List.length_filter_le _ _) (by rw [List.length_take]; exact Nat.min_le_left _ _)
section
variable {x : J} {key : List UInt8} {now : Int}
theorem qout_0 (h : x.ph = 0) : x.out key now = x.firstO := if_pos h
theorem qout_1 (h : x.ph = 1) : x.out key now = x.stepsO key now := by unfold J.out; rw [if_neg (by omega), if_pos h]
theorem qout_2 (h : x.ph = 2) : x.out key now = x.lastO := by unfold J.out; rw [if_neg (by omega), if_neg (by omega), if_pos h]
theorem qout_3 (h : x.ph = 3) : x.out key now = [] := by unfold J.out; rw [if_neg (by omega), if_neg (by omega), if_neg (by omega)]
end
theorem qoutbox_c (w : World) {r : Res} {b : Nat} {key : List UInt8} {js : List J} (h : St W F (r :: cs) w) (hC : CtlQ F r b key js) (hok : ∀ x ∈ js, x.ok) (hnd : ∀ x ∈ js, x.once) (hjl : js.length ≤ 16) (now : Int) (hkl : key.length ≤ 900000) : Calls prog 21 #[pz b, Vi now] w fun e w' => ∃ G r' A cap, Le F G ∧ e = .returned (.slice A (outM js key now).length cap) ∧ RdS (Kd.one sB) G A (outM js key now) ∧ CtlQ G r' b key js ∧ St W G (r' :: cs) w'  := by
 refine enter (args := [pz b, Vi now]) func21 rfl rfl rfl ?_
 obtain ⟨A0, cap0, rP, qs, rj, h, hr, hK⟩ := CtlQ.open_ h hC
 have hlq := hK.lq
 have hlr := hK.lr
 refine Wi<|C0 1 rfl<|We<|C0 1 rfl<|J0 (H0 (N0 (N0 ?_)))
 replace h := h.nilRes
 refine L0<|C0 1 rfl<|Wj<|B3 (σ := Nat × Snap × Res × Value) (fun q_ => [(0, pz b), (1, Vi now), (5, q_.2.2.2), (6, .int .i64 (q_.1 : Int))]) (fun q_ w => q_.1 ≤ js.length ∧ Le F q_.2.1 ∧ Row 9 sB q_.2.2.1 q_.2.2.2 (outM (js.take q_.1) key now) ∧ St W q_.2.1 (q_.2.2.1 :: kQ b key A0 qs.length cap0 :: rP :: (rj ++ cs)) w) (fun q_ => js.length - q_.1) (⟨0, F, [], .slice none 0 0⟩) (⟨Nat.zero_le _, Le.refl F, Row.nil _ _, h⟩) ?_
 rintro ⟨i, G, ro, vo⟩ w1 ⟨hi, hle, hro, hL⟩
 try dsimp only at hi hle hro hL
 refine W2 [(0, pz b), (1, Vi now), (5, vo), (6, .int .i64 (i : Int))]<|N0<|Wi<|H1 hL [1] 5 rfl<|I0 (R0 (n := (qs.length : Int)) (Y0 underlying28 rfl rfl) rfl) rfl<|C0 1 rfl<|Wa<|Z0 rfl (fun c2 => ?_) (fun c2 => ?_)
 ·try simp only [DD] at c2
  refine U0 (H0 (N0 (M1 (N0 ?_))))
  obtain ⟨adq, hA0⟩ := Row.some hr (by omega)
  refine L0<|H1 hL [1] 5 rfl<|I0 (Z3 hA0 underlying28 inf98 rfl rfl (n := i) rfl (by omega)) rfl<|I0 (X1 (u := pz (qs.getD i 0)) (I2 (0 : Nat) hL 2 rfl (hA0 ▸ hr) (n := i) (by omega) underlying98 rfl rfl) rfl) rfl<|C0 1 rfl<|J0 (H0 (N0 ?_))
  have hol0 := outM_len hok key now i
  obtain ⟨x, hxk⟩ : ∃ x, js[i]? = some x := ⟨_, gE (by omega)⟩
  obtain ⟨rk, hrk, hJ⟩ := (hK.mono hle).at_ i x hxk
  have hokx := hok x (mG hxk)
  have hndx := (hnd x (mG hxk)).few hokx
  have hns16 := Tal.oks_len hokx.ns.2
  have hS1 := take2 (St.perm hL (by classical exact List.perm_iff_count.2 (fun a_ => by simp only [List.count_cons, List.count_append]; omega)) : St W G (kQ b key A0 qs.length cap0 :: rP :: (rj ++ (ro :: cs))) w1) hrk
  obtain ⟨bT, A, B, C, R, N, cap, cap2, u3, u4, u5, ps, zt, ft, tm, hrke, hO⟩ := hJ
  replace hL : St W G (ro :: (qB x (qs.getD i 0) bT A B C R N cap cap2 u3 u4 u5 ps zt :: qT ps bT zt ft :: (tm ++ (kQ b key A0 qs.length cap0 :: rP :: (rj.set i [] ++ cs))))) w1 := St.perm (show St W G (qB x (qs.getD i 0) bT A B C R N cap cap2 u3 u4 u5 ps zt :: qT ps bT zt ft :: (tm ++ (kQ b key A0 qs.length cap0 :: rP :: (rj.set i [] ++ (ro :: cs))))) _ from St.flat hS1 (by rw [hrke]; simp)) (by classical exact List.perm_iff_count.2 (fun a_ => by simp only [List.count_cons, List.count_append]; omega))
  obtain ⟨jc, hjc⟩ : ∃ jc, (tm ++ (kQ b key A0 qs.length cap0 :: rP :: (rj.set i [] ++ cs)))[jc]? = some (kQ b key A0 qs.length cap0) := ⟨tm.length + 0, nth_app (l := tm) (q := 0) rfl⟩
  have hph4 : x.ph = 0 ∨ x.ph = 1 ∨ x.ph = 2 ∨ x.ph = 3 := by have := hokx.ph; omega
  rcases hph4 with hph | hph | hph | hph
  ·refine L0<|H1 hL [1] 4 rfl<|Wj<|Wi<|I0 (Bt (L1 rfl rfl) (dA hph)) rfl<|C0 1 rfl<|Wa<|J1 rfl (rfl)<|Wi<|C0 1 rfl<|Wj<|B3 (σ := Nat × Res × Value) (fun q_ => [(0, pz b), (1, Vi now), (5, q_.2.2), (6, .int .i64 (i : Int)), (7, pz (qs.getD i 0)), (8, .int .i64 (q_.1 : Int))]) (fun q_ w => q_.1 ≤ x.ns.length ∧ Row 9 sB q_.2.1 q_.2.2 ((outM (js.take i) key now) ++ (firstN x q_.1).map encB) ∧ St W G (q_.2.1 :: (qB x (qs.getD i 0) bT A B C R N cap cap2 u3 u4 u5 ps zt :: qT ps bT zt ft :: (tm ++ (kQ b key A0 qs.length cap0 :: rP :: (rj.set i [] ++ cs))))) w) (fun q_ => x.ns.length - q_.1) (⟨0, ro, vo⟩) (⟨Nat.zero_le _, (by rw [show firstN x 0 = [] from rfl, List.map_nil, List.append_nil]; exact hro), hL⟩) ?_
   rintro ⟨k, r3, v3⟩ w3 ⟨hk, hro2, hL⟩
   try dsimp only at hk hro2 hL
   refine W2 [(0, pz b), (1, Vi now), (5, v3), (6, .int .i64 (i : Int)), (7, pz (qs.getD i 0)), (8, .int .i64 (k : Int))] ?_
   have hfl := firstN_len x k
   have hol1 : ((outM (js.take i) key now) ++ (firstN x k).map encB).length ≤ 16100 := by rw [lA, List.length_map]; omega
   refine N0<|Wi<|H1 hL [1] 6 rfl<|I0 (R0 (n := (x.ns.length : Int)) (Y0 underlying33 rfl rfl) rfl) rfl<|C0 1 rfl<|Wa<|Z0 rfl (fun c4 => ?_) (fun c4 => ?_)
   ·try simp only [DD] at c4
    refine U0 (H0 (N0 (M1 (N0 ?_))))
    have hk2 : k < x.ns.length := by omega
    obtain ⟨aa, hAa, hra⟩ := rd1 hO.nd (by omega)
    refine V2 hL hL (fun s_ => ([] : List Nat).any (Nat.beq s_)) mixed (by kernel_rfl)<|fun hx =>fun w5 h5=>J4 hx 12 [3, 8] [0, 1, 2, 4, 5, 6, 7, 9, 3, 8] [1, 1] rfl<|Z2 hx 10 (by rfl) (fun w_ => Z3 hAa underlying33 inf3 rfl rfl (n := k) rfl (by omega)) rfl<|V3 12 hx 11 (by rfl) (fun w_ hE_ => I1 (f := Vi) (0 : Int) hE_ hra (n := k) (by omega) underlying3 rfl rfl) rfl<|F3 12 h5 (by rfl)<|C1 (cn func46) rfl rfl (qin_c _ (x.ns.getD k 0) h5 hO.rd (by have := hndx.1; omega)) fun w6 h6 =>J0<|H2<|L3 hx [13] rfl<|H3 (.inr h6) (by kernel_rfl)<|H0<|Z0 rfl (fun c7 => ?_) (fun c7 => ?_)
    ·try simp only [DD] at c7
     refine L0<|H1 h6 [1] 8 rfl<|I0 (Z3 hAa underlying33 inf3 rfl rfl (n := k) rfl (by omega)) rfl<|I0 (I1 (f := Vi) (0 : Int) h6 hra (n := k) (by omega) underlying3 rfl rfl) rfl<|C1 (cn func47) rfl rfl (qmsg_c _ 0 (x.ns.getD k 0) h6 (j := 1) (i := 0) rfl (by decide)) fun w8 h8 =>X2 (vs := (([encB (x.msg 0 (x.ns.getD k 0) 0 [])] : List (List UInt8))).map sB) h8 rfl underlying39 inf9 rfl rfl rfl rfl rfl fun lit66 w9 h9=>I3 (ys := ([encB (x.msg 0 (x.ns.getD k 0) 0 [])] : List (List UInt8))) 1 h9 rfl rfl rfl rfl underlying39 underlying39 (.inr ⟨_, rfl⟩) inf9 rfl hro2 (Src.lit h9 0 rfl rfl rfl) rfl rfl (by first | omega | (simp [lA, List.length_map]; done) | (simp [lA, List.length_map]; omega)) (by first | omega | (simp [lA, List.length_map]; done) | (simp [lA, List.length_map]; omega)) ?_
     intro r10 v10 w11 hr10 h11
     simp only [lz, ls] at h11
     replace h11 := h11.drop 0
     simp only [ez, es'] at h11
     refine C0 1 rfl<|J0<|N1<|H0<|L0<|C0 1 rfl<|I0 (V0 rfl rfl (by omega)) rfl<|C0 1 rfl<|J0 ?_
     have hr9 := hr10
     rw [show ((outM (js.take i) key now) ++ (firstN x k).map encB) ++ [encB (x.msg 0 (x.ns.getD k 0) 0 [])] = (outM (js.take i) key now) ++ (firstN x (k + 1)).map encB from by rw [firstN_n hk2 c7]; simp] at hr9
     exact F1 (⟨k + 1, r10, v10⟩ : Nat × Res × Value) (by show x.ns.length - (k + 1) < x.ns.length - k; omega) ⟨rfl, rfl, rfl, rfl, rfl, rfl, trivial⟩ ⟨by show k + 1 ≤ _; omega, hr9, h11⟩
    try simp only [DD] at c7
    refine U0<|N1<|H0<|L0<|C0 1 rfl<|I0 (V0 rfl rfl (by omega)) rfl<|C0 1 rfl<|J0 ?_
    rw [← firstN_y hk2 c7] at hro2
    exact F1 (⟨k + 1, r3, v3⟩ : Nat × Res × Value) (by show x.ns.length - (k + 1) < x.ns.length - k; omega) ⟨rfl, rfl, rfl, rfl, rfl, rfl, trivial⟩ ⟨by show k + 1 ≤ _; omega, hro2, h6⟩
   try simp only [DD] at c4
   refine U1<|B2<|WX.cut<|E2<|N1<|N1<|H0<|L0<|C0 1 rfl<|I0 (V0 rfl rfl (by omega)) rfl<|C0 1 rfl<|J0 ?_
   have hS5 : St W G (rk :: kQ b key A0 qs.length cap0 :: rP :: (rj.set i [] ++ (r3 :: cs))) _ := St.flat (St.perm hL (by classical exact List.perm_iff_count.2 (fun a_ => by simp only [List.count_cons, List.count_append]; omega)) : St W G (qB x (qs.getD i 0) bT A B C R N cap cap2 u3 u4 u5 ps zt :: qT ps bT zt ft :: (tm ++ (kQ b key A0 qs.length cap0 :: rP :: (rj.set i [] ++ (r3 :: cs))))) _) (by rw [hrke]; simp)
   have hS6 := give2 hS5 (by omega)
   rw [set_same (d := []) (by omega) (by rw [gD, hrk]; rfl)] at hS6
   have hr9 := hro2
   obtain rfl : k = x.ns.length := by omega
   rw [firstN_all] at hr9
   exact F1 (⟨i + 1, G, r3, v3⟩ : Nat × Snap × Res × Value) (by show js.length - (i + 1) < js.length - i; omega) ⟨rfl, rfl, rfl, rfl, trivial⟩ ⟨by show i + 1 ≤ _; omega, hle, (by rw [outM_s hxk, qout_0 hph]; exact hr9), St.perm hS6 (by classical exact List.perm_iff_count.2 (fun a_ => by simp only [List.count_cons, List.count_append]; omega))⟩
  ·have hxo := out_len hokx key now
   rw [qout_1 hph] at hxo
   refine L0<|H1 hL [1] 4 rfl<|Wj<|Wi<|I0 (Bf (L1 rfl rfl) (dN (by omega))) rfl<|C0 1 rfl<|Wa<|E1 rfl (rfl)<|Wi<|I0 (Bt (L1 rfl rfl) (dA hph)) rfl<|C0 1 rfl<|Wa<|J1 rfl (rfl)<|L0<|C0 5 rfl<|I0 (K0 underlying9 rfl rfl (hL.ocell (i := (jc + 3)) hjc rfl)) rfl<|C0 1 rfl<|V1 (cn func48) rfl rfl (qsteps_c _ (St.perm hL (by classical exact List.perm_iff_count.2 (fun a_ => by simp only [List.count_cons, List.count_append]; omega)) : St W G (qB x (qs.getD i 0) bT A B C R N cap cap2 u3 u4 u5 ps zt :: qT ps bT zt ft :: (tm ++ (ro :: (kQ b key A0 qs.length cap0 :: rP :: (rj.set i [] ++ cs))))) _) hO hokx hkl) ?_
   rintro _ w12 ⟨GM, AM, cM, hGM, rfl, hcM, hrM, h12⟩
   refine ⟨_, rfl, ?_⟩
   replace h12 : St W GM (ro :: (qB x (qs.getD i 0) bT A B C R N cap cap2 u3 u4 u5 ps zt :: qT ps bT zt ft :: (tm ++ (kQ b key A0 qs.length cap0 :: rP :: (rj.set i [] ++ cs))))) w12 := St.perm h12 (by classical exact List.perm_iff_count.2 (fun a_ => by simp only [List.count_cons, List.count_append]; omega))
   refine I3 (ys := ((x.stepsO key now).map encB)) 0 h12 rfl rfl rfl rfl underlying39 underlying39 (.inr ⟨_, rfl⟩) inf9 rfl hro (Src.rd hrM h12 rfl (fun _ => rfl)) rfl rfl (by first | omega | (simp [lA, List.length_map]; done) | (simp [lA, List.length_map]; omega)) (by first | omega | (simp [lA, List.length_map]; done) | (simp [lA, List.length_map]; omega)) ?_
   intro r13 v13 w14 hr13 h14
   simp only [lz, ls] at h14
   refine C0 1 rfl<|J0<|N1<|N1<|H0<|L0<|C0 1 rfl<|I0 (V0 rfl rfl (by omega)) rfl<|C0 1 rfl<|J0 ?_
   have hS5 : St W GM (rk :: kQ b key A0 qs.length cap0 :: rP :: (rj.set i [] ++ (r13 :: cs))) _ := St.flat (St.perm h14 (by classical exact List.perm_iff_count.2 (fun a_ => by simp only [List.count_cons, List.count_append]; omega)) : St W GM (qB x (qs.getD i 0) bT A B C R N cap cap2 u3 u4 u5 ps zt :: qT ps bT zt ft :: (tm ++ (kQ b key A0 qs.length cap0 :: rP :: (rj.set i [] ++ (r13 :: cs))))) _) (by rw [hrke]; simp)
   have hS6 := give2 hS5 (by omega)
   rw [set_same (d := []) (by omega) (by rw [gD, hrk]; rfl)] at hS6
   have hr9 := hr13
   exact F1 (⟨i + 1, GM, r13, v13⟩ : Nat × Snap × Res × Value) (by show js.length - (i + 1) < js.length - i; omega) ⟨rfl, rfl, rfl, rfl, trivial⟩ ⟨by show i + 1 ≤ _; omega, (Le.trans hle hGM), (by rw [outM_s hxk, qout_1 hph]; exact hr9), St.perm hS6 (by classical exact List.perm_iff_count.2 (fun a_ => by simp only [List.count_cons, List.count_append]; omega))⟩
  ·have hxo := out_len hokx key now
   rw [qout_2 hph] at hxo
   refine L0<|H1 hL [1] 4 rfl<|Wj<|Wi<|I0 (Bf (L1 rfl rfl) (dN (by omega))) rfl<|C0 1 rfl<|Wa<|E1 rfl (rfl)<|Wi<|I0 (Bf (L1 rfl rfl) (dN (by omega))) rfl<|C0 1 rfl<|Wa<|E1 rfl (rfl)<|Wi<|I0 (Bt (L1 rfl rfl) (dA hph)) rfl<|C0 1 rfl<|Wa<|J1 rfl (rfl)<|L0<|C0 2 rfl<|V1 (cn func49) rfl rfl (qlast_c _ (St.perm hL (by classical exact List.perm_iff_count.2 (fun a_ => by simp only [List.count_cons, List.count_append]; omega)) : St W G (qB x (qs.getD i 0) bT A B C R N cap cap2 u3 u4 u5 ps zt :: qT ps bT zt ft :: (tm ++ (ro :: (kQ b key A0 qs.length cap0 :: rP :: (rj.set i [] ++ cs))))) _) hO hokx (by have := hndx.2; omega)) ?_
   rintro _ w15 ⟨GM, AM, cM, hGM, rfl, hcM, hrM, h15⟩
   refine ⟨_, rfl, ?_⟩
   replace h15 : St W GM (ro :: (qB x (qs.getD i 0) bT A B C R N cap cap2 u3 u4 u5 ps zt :: qT ps bT zt ft :: (tm ++ (kQ b key A0 qs.length cap0 :: rP :: (rj.set i [] ++ cs))))) w15 := St.perm h15 (by classical exact List.perm_iff_count.2 (fun a_ => by simp only [List.count_cons, List.count_append]; omega))
   refine I3 (ys := (x.lastO.map encB)) 0 h15 rfl rfl rfl rfl underlying39 underlying39 (.inr ⟨_, rfl⟩) inf9 rfl hro (Src.rd hrM h15 rfl (fun _ => rfl)) rfl rfl (by first | omega | (simp [lA, List.length_map]; done) | (simp [lA, List.length_map]; omega)) (by first | omega | (simp [lA, List.length_map]; done) | (simp [lA, List.length_map]; omega)) ?_
   intro r16 v16 w17 hr16 h17
   simp only [lz, ls] at h17
   refine C0 1 rfl<|J0<|N1<|N1<|H0<|L0<|C0 1 rfl<|I0 (V0 rfl rfl (by omega)) rfl<|C0 1 rfl<|J0 ?_
   have hS5 : St W GM (rk :: kQ b key A0 qs.length cap0 :: rP :: (rj.set i [] ++ (r16 :: cs))) _ := St.flat (St.perm h17 (by classical exact List.perm_iff_count.2 (fun a_ => by simp only [List.count_cons, List.count_append]; omega)) : St W GM (qB x (qs.getD i 0) bT A B C R N cap cap2 u3 u4 u5 ps zt :: qT ps bT zt ft :: (tm ++ (kQ b key A0 qs.length cap0 :: rP :: (rj.set i [] ++ (r16 :: cs))))) _) (by rw [hrke]; simp)
   have hS6 := give2 hS5 (by omega)
   rw [set_same (d := []) (by omega) (by rw [gD, hrk]; rfl)] at hS6
   have hr9 := hr16
   exact F1 (⟨i + 1, GM, r16, v16⟩ : Nat × Snap × Res × Value) (by show js.length - (i + 1) < js.length - i; omega) ⟨rfl, rfl, rfl, rfl, trivial⟩ ⟨by show i + 1 ≤ _; omega, (Le.trans hle hGM), (by rw [outM_s hxk, qout_2 hph]; exact hr9), St.perm hS6 (by classical exact List.perm_iff_count.2 (fun a_ => by simp only [List.count_cons, List.count_append]; omega))⟩
  refine L0<|H1 hL [1] 4 rfl<|Wj<|Wi<|I0 (Bf (L1 rfl rfl) (dN (by omega))) rfl<|C0 1 rfl<|Wa<|E1 rfl (rfl)<|Wi<|I0 (Bf (L1 rfl rfl) (dN (by omega))) rfl<|C0 1 rfl<|Wa<|E1 rfl (rfl)<|Wi<|I0 (Bf (L1 rfl rfl) (dN (by omega))) rfl<|C0 1 rfl<|Wa<|E1 rfl (rfl)<|U0<|N1<|N1<|H0<|L0<|C0 1 rfl<|I0 (V0 rfl rfl (by omega)) rfl<|C0 1 rfl<|J0 ?_
  have hS5 : St W G (rk :: kQ b key A0 qs.length cap0 :: rP :: (rj.set i [] ++ (ro :: cs))) _ := St.flat (St.perm hL (by classical exact List.perm_iff_count.2 (fun a_ => by simp only [List.count_cons, List.count_append]; omega)) : St W G (qB x (qs.getD i 0) bT A B C R N cap cap2 u3 u4 u5 ps zt :: qT ps bT zt ft :: (tm ++ (kQ b key A0 qs.length cap0 :: rP :: (rj.set i [] ++ (ro :: cs))))) _) (by rw [hrke]; simp)
  have hS6 := give2 hS5 (by omega)
  rw [set_same (d := []) (by omega) (by rw [gD, hrk]; rfl)] at hS6
  have hr9 := hro
  exact F1 (⟨i + 1, G, ro, vo⟩ : Nat × Snap × Res × Value) (by show js.length - (i + 1) < js.length - i; omega) ⟨rfl, rfl, rfl, rfl, trivial⟩ ⟨by show i + 1 ≤ _; omega, hle, (by rw [outM_s hxk, qout_3 hph, List.map_nil, List.append_nil]; exact hr9), St.perm hS6 (by classical exact List.perm_iff_count.2 (fun a_ => by simp only [List.count_cons, List.count_append]; omega))⟩
 try simp only [DD] at c2
 refine U1<|B2<|WX.cut<|E2<|H0<|Wi<|C0 2 rfl<|J0 (H0 (O1 ?_))
 obtain rfl : i = js.length := by omega
 rw [List.take_length] at hro
 obtain ⟨A9, c9, rfl, hc9⟩ := hro.val
 obtain ⟨G2, hG2, hf2, hS2⟩ := hL.freeze (i := 0) rfl
 obtain ⟨r7, hC7, hS7⟩ := CtlQ.close (show St W G2 (kQ b key A0 qs.length cap0 :: rP :: (rj ++ cs)) _ from hS2) hr (hK.mono (Le.trans hle hG2))
 exact ret1 rfl rfl ⟨G2, r7, A9, c9, Le.trans hle hG2, rfl, Row.read hro rfl hf2, hC7, hS7⟩
theorem okJ.run {js : List J} (h : okJ js) (o : O) : okJ (o.run js) := by
 unfold O.run
 split
 ·exact h.sub _ _
 split
 ·exact h.can _
 split
 ·exact h.del _
 exact h
theorem once_run {js : List J} (h : ∀ x ∈ js, x.once) (o : O) : ∀ x ∈ o.run js, x.once := by
 unfold O.run
 split
 ·exact once_sub h _ _
 split
 ·exact once_can h _
 split
 ·exact once_del h _
 exact h
theorem eq_getD {α : Type} {xs ys : List α} (d : α) (hl : xs.length = ys.length) (h : ∀ j, j < xs.length → xs.getD j d = ys.getD j d) : xs = ys := by
 refine List.ext_getElem hl fun j h1 h2 => ?_
 have := h j h1
 rw [gD, gD, gE h1, gE h2] at this
 exact this
theorem set_self {js : List J} {i : Nat} {x : J} (h : js[i]? = some x) : js.set i x = js := set_same (d := x) (List.getElem?_eq_some_iff.1 h).1 (by rw [gD, h]; rfl)
theorem texts_c (w : World) {A B : Option Addr} {cap cap2 : Nat} {xs ys : List (List UInt8)} (h : St W F cs w) (hX : RdS (Kd.one sB) F A xs) (hY : RdS (Kd.one sB) F B ys) (hxl : xs.length ≤ 100000) (hyl : ys.length ≤ 100000) : Calls prog 17 #[.slice A xs.length cap, .slice B ys.length cap2] w fun r w' => r = .returned (.bool (decide (xs = ys))) ∧ St W F cs w'  := by
 refine enter (args := [.slice A xs.length cap, .slice B ys.length cap2]) func17 rfl rfl rfl<|Wi<|C0 1 rfl<|Wh<|C0 1 rfl<|I0 (R0 (n := (xs.length : Int)) (Y0 underlying39 rfl rfl) rfl) rfl<|C0 1 rfl<|I0 (R0 (n := (ys.length : Int)) (Y0 underlying39 rfl rfl) rfl) rfl<|C0 1 rfl<|Wa<|Z0 rfl (fun c1 => ?_) (fun c1 => ?_)
 ·try simp only [DD] at c1
  refine Wi<|C0 1 rfl<|Wg<|ret1 rfl rfl ⟨by rw [dN (fun e => by rw [e] at c1; exact c1 rfl)], h⟩
 try simp only [DD] at c1
 refine U0<|H0<|N0<|Wi<|C0 1 rfl<|Wj<|B3 (σ := Nat) (fun q_ => [(0, .slice A xs.length cap), (1, .slice B ys.length cap2), (5, .int .i64 (q_ : Int))]) (fun q_ w => q_ ≤ xs.length ∧ (∀ j, j < q_ → xs.getD j [] = ys.getD j []) ∧ St W F cs w) (fun q_ => xs.length - q_) (0) (⟨Nat.zero_le _, fun j hj => absurd hj (Nat.not_lt_zero _), h⟩) ?_
 rintro i w2 ⟨hi, heq, hL⟩
 try dsimp only at hi heq hL
 refine W2 [(0, .slice A xs.length cap), (1, .slice B ys.length cap2), (5, .int .i64 (i : Int))]<|N0<|Wi<|C0 2 rfl<|I0 (R0 (n := (xs.length : Int)) (Y0 underlying39 rfl rfl) rfl) rfl<|C0 1 rfl<|Wa<|Z0 rfl (fun c3 => ?_) (fun c3 => ?_)
 ·try simp only [DD] at c3
  refine U0 (H0 (N0 (M1 (N0 ?_))))
  obtain ⟨aa, hA1, hrx⟩ := rd1 hX (by omega)
  obtain ⟨ab, hB1, hry⟩ := rd1 hY (by omega)
  by_cases hxy : xs.getD i [] = ys.getD i []
  ·refine V2 hL hL (fun s_ => ([] : List Nat).any (Nat.beq s_)) mixed (by kernel_rfl)<|fun hx =>fun w4 h4=>L3 hx [0, 1] rfl<|Z2 hx 2 (by rfl) (fun w_ => Z3 hA1 underlying39 inf9 rfl rfl (n := i) rfl (by omega)) rfl<|L3 hx [4, 5] rfl<|Z2 hx 6 (by rfl) (fun w_ => Z3 hB1 underlying39 inf9 rfl rfl (n := i) rfl (by omega)) rfl<|V3 12 hx 3 (by rfl) (fun w_ hE_ => I1 (f := sB) ([] : List UInt8) hE_ hrx (n := i) (by omega) underlying9 rfl rfl) rfl<|V3 12 hx 7 (by rfl) (fun w_ hE_ => I1 (f := sB) ([] : List UInt8) hE_ hry (n := i) (by omega) underlying9 rfl rfl) rfl<|Z2 hx 8 (by rfl) (fun w_ => Bf (Y3 rfl rfl) (by rw [dA hxy]; rfl)) rfl<|H3 (.inr h4) (by kernel_rfl)<|H0<|E1 rfl (rfl)<|U0<|N1<|H0<|L0<|C0 1 rfl<|I0 (V0 rfl rfl (by omega)) rfl<|C0 1 rfl<|J0<|F1 (i + 1) (by omega) ⟨rfl, rfl, rfl, trivial⟩ ⟨by omega, fun j hj => (by
    by_cases e : j = i
    ·subst e; exact hxy
    exact heq j (by omega)), h4⟩
  refine V2 hL hL (fun s_ => ([] : List Nat).any (Nat.beq s_)) mixed (by kernel_rfl)<|fun hx =>fun w5 h5=>L3 hx [0, 1] rfl<|Z2 hx 2 (by rfl) (fun w_ => Z3 hA1 underlying39 inf9 rfl rfl (n := i) rfl (by omega)) rfl<|L3 hx [4, 5] rfl<|Z2 hx 6 (by rfl) (fun w_ => Z3 hB1 underlying39 inf9 rfl rfl (n := i) rfl (by omega)) rfl<|V3 12 hx 3 (by rfl) (fun w_ hE_ => I1 (f := sB) ([] : List UInt8) hE_ hrx (n := i) (by omega) underlying9 rfl rfl) rfl<|V3 12 hx 7 (by rfl) (fun w_ hE_ => I1 (f := sB) ([] : List UInt8) hE_ hry (n := i) (by omega) underlying9 rfl rfl) rfl<|Z2 hx 8 (by rfl) (fun w_ => Bt (Y3 rfl rfl) (by rw [dN hxy]; rfl)) rfl<|H3 (.inr h5) (by kernel_rfl)<|H0<|J1 rfl (rfl)<|Wi<|C0 1 rfl<|Wg<|ret1 rfl rfl ⟨by rw [dN (fun e => hxy (by rw [e]))], h5⟩
 try simp only [DD] at c3
 refine U1<|B2<|WX.cut<|E2<|H0<|Wi<|C0 1 rfl<|Wg<|ret1 rfl rfl ⟨by rw [dA (eq_getD [] (by omega) (fun j hj => heq j (by omega)))], hL⟩
theorem texts_t (w : World) {A B : Option Addr} {cap cap2 : Nat} {xs : List (List UInt8)} (h : St W F cs w) (hX : RdS (Kd.one sB) F A xs) (hY : RdS (Kd.one sB) F B xs) (hxl : xs.length ≤ 100000) : Calls prog 17 #[.slice A xs.length cap, .slice B xs.length cap2] w fun r w' => r = .returned (.bool true) ∧ St W F cs w' := by
 have := texts_c w h hX hY hxl hxl (cap := cap) (cap2 := cap2)
 rwa [dA rfl] at this
def heldAt (ss : List S) (cs : List Int) (i : Nat) : Prop := ∀ k, k < (ss.getD i S0).af.length → Dg.holdsM ((ss.getD i S0).af.getD k E0) cs = true
theorem holds_mono {e : E} {c d : List Int} (hcd : ∀ j, c.getD j 0 ≠ -1 → d.getD j 0 = c.getD j 0) (h : Dg.holdsM e c = true) : Dg.holdsM e d = true := by
 have h1 := hcd _ (Dg.held h)
 unfold Dg.holdsM at h ⊢
 rw [h1]
 exact h
theorem seen_keeps (ak : Bool) : ∀ (cs : List Int) (ts : List (Option T)) (j : Nat), ts.length = cs.length → cs.getD j 0 ≠ -1 → (seen ak cs ts).getD j 0 = cs.getD j 0
 |[], [], j, _, _ => rfl
 |c :: cs, t :: ts, 0, _, h => by
  show cod ak c t = c
  unfold cod
  exact if_pos h
 |c :: cs, t :: ts, j + 1, hl, h => seen_keeps ak cs ts j (by simpa using hl) h
theorem cs'_keeps {x : J} (hok : x.ok) {j : Nat} (h : x.cs.getD j 0 ≠ -1) : x.cs'.getD j 0 = x.cs.getD j 0 := by
 have h1 := seen_keeps x.ak x.cs x.ts j (hok.lt.trans hok.lc.symm) h
 rcases (Dg.settle_spec hok.with0).1.2 j with h2 | ⟨h2, _⟩
 ·exact h2.symm.trans h1
 rw [h1] at h2
 exact absurd h2 h
theorem opn1_get {ns : List Int} {ts : List (Option T)} {y : Int} {i : Nat} {t : T} (h : (opn1 ns ts y).getD i none = some t) : ts.getD i none = some t ∨ (t = T.new ns ∧ y.toNat = i) := by
 unfold opn1 at h
 split at h
 ·rw [getD_set] at h
  split at h
  ·rename_i h1
   exact .inr ⟨(Option.some.inj h).symm, h1.1⟩
  exact .inl h
 exact .inl h
theorem opnL_get {ns : List Int} {i : Nat} {t : T} : ∀ {l : List Int} {ts : List (Option T)}, (opnL ns ts l).getD i none = some t → ts.getD i none = some t ∨ (t = T.new ns ∧ ∃ y ∈ l, y.toNat = i)
 |[], _, h => .inl h
 |y :: l, ts, h => by
  rcases opnL_get (l := l) (ts := opn1 ns ts y) h with h | ⟨h, z, hz, e⟩
  ·rcases opn1_get h with h | ⟨h, e⟩
   ·exact .inl h
   exact .inr ⟨h, y, List.mem_cons_self, e⟩
  exact .inr ⟨h, z, List.mem_cons_of_mem _ hz, e⟩
theorem look_same (x : J) : x.look.ns = x.ns ∧ x.look.ss = x.ss ∧ x.look.ep = x.ep ∧ x.look.id = x.id := by
 unfold J.look J.end_
 split
 ·exact ⟨rfl, rfl, rfl, rfl⟩
 split <;> exact ⟨rfl, rfl, rfl, rfl⟩
theorem step4 {x : J} {key : List UInt8} {now : Int} {i : Nat} {m : M} (hm : m ∈ x.stepO key now i) (hk : m.k = 4) : ∃ t, x.ts.getD i none = some t ∧ t.state = 1 ∧ m.st = (i : Int) ∧ m.ep = x.ep := by
 unfold J.stepO at hm
 split at hm
 ·cases hm
 rename_i t ht
 split at hm
 ·obtain ⟨n, _, rfl⟩ := List.mem_map.1 hm
  exact absurd hk (show ¬ (2 : Int) = 4 by decide)
 split at hm
 ·rename_i h1
  obtain ⟨n, _, hn⟩ := List.mem_flatMap.1 hm
  rcases List.mem_cons.1 hn with rfl | hn
  ·exact ⟨t, ht, h1, rfl, rfl⟩
  split at hn
  ·obtain rfl := List.mem_singleton.1 hn
   exact absurd hk (show ¬ (7 : Int) = 4 by decide)
  cases hn
 split at hm
 ·obtain ⟨n, _, rfl⟩ := List.mem_map.1 hm
  exact absurd hk (show ¬ (5 : Int) = 4 by decide)
 cases hm
theorem out4 {x : J} {key : List UInt8} {now : Int} {m : M} (hm : m ∈ x.out key now) (hk : m.k = 4) : ∃ i t, x.ts.getD i none = some t ∧ t.state = 1 ∧ m.st = (i : Int) ∧ m.ep = x.ep := by
 unfold J.out at hm
 split at hm
 ·obtain ⟨n, _, rfl⟩ := List.mem_map.1 hm
  exact absurd hk (show ¬ (0 : Int) = 4 by decide)
 split at hm
 ·obtain ⟨i, _, hi⟩ := List.mem_flatMap.1 hm
  exact ⟨i, step4 hi hk⟩
 split at hm
 ·obtain ⟨n, _, hn⟩ := List.mem_flatMap.1 hm
  rcases List.mem_append.1 hn with hn | hn
  ·obtain ⟨j, _, rfl⟩ := List.mem_map.1 hn
   exact absurd hk (show ¬ (5 : Int) = 4 by decide)
  obtain rfl := List.mem_singleton.1 hn
  exact absurd hk (show ¬ (8 : Int) = 4 by decide)
 cases hm
theorem look_cs (x : J) : x.look.cs = x.cs' ∧ (x.look.ph = x.ph ∨ x.look.ph = 2) := by
 unfold J.look J.end_
 split
 ·exact ⟨rfl, .inl rfl⟩
 split <;> exact ⟨rfl, .inr rfl⟩
theorem held_mono {ss : List S} {c d : List Int} {i : Nat} (hcd : ∀ j, c.getD j 0 ≠ -1 → d.getD j 0 = c.getD j 0) (h : heldAt ss c i) : heldAt ss d i := fun k hk => holds_mono hcd (h k hk)
theorem stlS_keeps {l : List S} {c : List Int} {x : Int} {j : Nat} (h : c.getD j 0 ≠ -1) : (Dg.stlS l c x).getD j 0 = c.getD j 0 := by
 rcases (Dg.stlS_le l c x).2 j with h1 | ⟨h1, _⟩
 ·exact h1.symm
 exact absurd h1 h
theorem stlS_held {l : List S} {c : List Int} {x : Int} {i : Nat} (h : heldAt l c i) : (Dg.stlS l c x).getD i 0 = c.getD i 0 := by
 unfold Dg.stlS
 split
 ·rename_i h1
  rw [getD_set]
  split
  ·rename_i h2
   exfalso
   obtain ⟨e, he, hf⟩ := List.any_eq_true.1 h1.2
   obtain ⟨k, hk, rfl⟩ := List.getElem_of_mem he
   rw [h2.1] at hk
   have h3 := h k hk
   rw [gD, gE hk] at h3
   have h3 : Dg.holdsM ((l.getD i S0).af[k]) c = true := h3
   have h4 : ((l.getD x.toNat S0).af[k]'(by rw [h2.1]; exact hk)) = ((l.getD i S0).af[k]) := by simp only [h2.1]
   rw [h4] at hf
   unfold Dg.failM at hf
   rw [h3] at hf
   simp at hf
  rfl
 rfl
theorem stlF_held {l : List S} {i : Nat} : ∀ (xs c : List Int), heldAt l c i → (Dg.stlF l xs c).getD i 0 = c.getD i 0
 |[], c, _ => rfl
 |x :: xs, c, h => by
  have h1 := stlF_held xs (Dg.stlS l c x) (held_mono (fun j hj => stlS_keeps hj) h)
  exact h1.trans (stlS_held h)
theorem settle_held {l : List S} {c : List Int} {i : Nat} (hw : withM l c = 0) (h : heldAt l c i) : (settleM l c).getD i 0 = c.getD i 0 := by
 unfold settleM
 rw [if_pos hw]
 exact stlF_held _ _ h
theorem seen_get (ak : Bool) : ∀ (cs : List Int) (ts : List (Option T)) (j : Nat), ts.length = cs.length → j < cs.length → (seen ak cs ts).getD j 0 = cod ak (cs.getD j 0) (ts.getD j none)
 |[], _, j, _, h => absurd h (Nat.not_lt_zero _)
 |c :: cs, [], j, hl, _ => by cases hl
 |c :: cs, t :: ts, 0, _, _ => rfl
 |c :: cs, t :: ts, j + 1, hl, h => seen_get ak cs ts j (by simpa using hl) (by simpa using h)
structure J.inv (x : J) : Prop where
 he : ∀ i t, x.ts.getD i none = some t → heldAt x.ss x.cs i
 op : ∀ i t, x.ts.getD i none = some t → (t.state = 0 ∨ t.state = 1) → x.cs.getD i 0 = -1
 fi : 2 ≤ x.ph → ∀ i t, x.ts.getD i none = some t → t.state = 2 ∨ t.state = 3
 nu : x.ph = 0 → ∀ i, x.ts.getD i none = none
theorem T.state4 (t : T) : t.state = 0 ∨ t.state = 1 ∨ t.state = 2 ∨ t.state = 3 := by
 unfold Tal.T.state
 split
 ·exact .inr (.inr (.inl rfl))
 split
 ·exact .inl rfl
 split
 ·exact .inr (.inl rfl)
 exact .inr (.inr (.inr rfl))
theorem says_stay {t : T} {m : M} (h0 : t.state ≠ 0) (h1 : t.state ≠ 1) : (says t m).2 = t := by
 unfold says
 split
 ·exact Tal.vote_stay h0
 exact Tal.exit_stay h1
theorem says_01 {t : T} {m : M} (h : (says t m).2.state = 0 ∨ (says t m).2.state = 1) : t.state = 0 ∨ t.state = 1 := by
 by_cases h0 : t.state = 0
 ·exact .inl h0
 by_cases h1 : t.state = 1
 ·exact .inr h1
 rw [says_stay h0 h1] at h
 exact h
theorem J.inv.mid {x : J} (h : x.inv) (hok : x.ok) : (∀ i t, x.mid.ts.getD i none = some t → heldAt x.mid.ss x.mid.cs i) ∧ (∀ i t, x.mid.ts.getD i none = some t → (t.state = 0 ∨ t.state = 1) → x.mid.cs.getD i 0 = -1) := by
 refine ⟨fun i t ht => ?_, fun i t ht hs => ?_⟩
 ·rcases opnL_get ht with h1 | ⟨_, y, hy, rfl⟩
  ·exact held_mono (fun j hj => cs'_keeps hok hj) (h.he i t h1)
  exact (Dg.ready_at (Dg.settle_with hok.with0) hy).2.2
 rcases opnL_get ht with h1 | ⟨_, y, hy, rfl⟩
 ·have hc := h.op i t h1 hs
  have hi : i < x.cs.length := by have := getD_lt h1; rw [hok.lt] at this; rw [hok.lc]; exact this
  have hl := hok.lt.trans hok.lc.symm
  have e : (seen x.ak x.cs x.ts).getD i 0 = -1 := by
   rw [seen_get _ _ _ _ hl hi, hc, h1]
   unfold cod
   rw [if_neg (fun hh => hh rfl)]
   simp only []
   rw [if_neg (by omega), if_neg (by omega)]
  show x.cs'.getD i 0 = -1
  unfold J.cs'
  rw [settle_held hok.with0 (held_mono (fun j hj => seen_keeps _ _ _ _ hl hj) (h.he i t h1)), e]
 exact (Dg.ready_at (Dg.settle_with hok.with0) hy).2.1
theorem look_ts (x : J) : x.look.ts = x.mid.ts := by
 unfold J.look J.end_
 split
 ·rfl
 split <;> rfl
theorem J.inv.look {x : J} (h : x.inv) (hok : x.ok) (hp : x.ph = 1) : x.look.inv := by
 obtain ⟨a1, a2⟩ := h.mid hok
 have e1 := look_ts x
 have e2 := (look_cs x).1
 have e3 := (look_same x).2.1
 refine ⟨fun i t ht => ?_, fun i t ht hs => ?_, fun hph i t ht => ?_, fun hph => ?_⟩
 ·rw [e2, e3]; exact a1 i t (e1 ▸ ht)
 ·rw [e2]; exact a2 i t (e1 ▸ ht) hs
 ·have ht := e1 ▸ ht
  have ho : (overM x.mid.ss x.mid.cs).2 ≠ false := fun ho => by
   have : x.look.ph = x.mid.ph := by unfold J.look J.end_; rw [if_pos ho]
   have h9 : x.mid.ph = x.ph := rfl
   omega
  unfold overM at ho
  split at ho
  ·exact absurd rfl ho
  rename_i hno
  have hi : i < x.mid.ts.length := getD_lt ht
  have hok2 := hok.mid
  have hlc : i < x.mid.cs.length := by rw [hok2.lt] at hi; rw [hok2.lc]; exact hi
  have hst : settleM x.mid.ss x.mid.cs = x.mid.cs := Dg.settle_twice hok.with0
  rw [hst] at hno
  have hne : x.mid.cs.getD i 0 ≠ -1 := fun e => hno (.inr (e ▸ getD_mem hlc))
  rcases T.state4 t with h0 | h0 | h0 | h0
  ·exact absurd (a2 i t ht (.inl h0)) hne
  ·exact absurd (a2 i t ht (.inr h0)) hne
  ·exact .inl h0
  exact .inr h0
 rcases (look_cs x).2 with h9 | h9 <;> omega
theorem J.inv.same {x y : J} (h : x.inv) (ht : y.ts = x.ts) (hs : y.ss = x.ss) (hc : y.cs = x.cs) (hp : y.ph = x.ph ∨ (x.ph = 0 ∧ y.ph = 1) ∨ (x.ph = 2 ∧ y.ph = 3)) : y.inv := ⟨fun i t h1 => by rw [hs, hc]; exact h.he i t (ht ▸ h1), fun i t h1 h2 => by rw [hc]; exact h.op i t (ht ▸ h1) h2, fun h2 i t h1 => h.fi (by omega) i t (ht ▸ h1), fun h0 i => by rw [ht]; exact h.nu (by omega) i⟩
theorem none_get (n i : Nat) : (List.replicate n (none : Option T)).getD i none = none := by
 rw [gD, List.getElem?_replicate]
 split <;> rfl
theorem inv_begin (x : J) : x.begin.inv := by
 have e : ∀ i, x.begin.ts.getD i none = none := fun i => none_get _ i
 exact ⟨fun i t h => (by rw [e] at h; cases h), fun i t h => (by rw [e] at h; cases h), fun _ i t h => (by rw [e] at h; cases h), fun _ => e⟩
theorem J.inv.fin {x : J} (h : x.inv) (hp : x.ph = 0) (a b : Int) : (x.fin a b).inv := by
 have e : ∀ i, (x.fin a b).ts.getD i none = none := h.nu hp
 exact ⟨fun i t h => (by rw [e] at h; cases h), fun i t h => (by rw [e] at h; cases h), fun _ i t h => (by rw [e] at h; cases h), fun h0 => (by cases h0)⟩
theorem J.inv.put {x : J} {m : M} {t : T} (h : x.inv) (hp : x.ph = 1) (ht : x.ts.getD m.st.toNat none = some t) : (x.put m.st.toNat (says t m).2).inv := by
 have key : ∀ i u, (x.put m.st.toNat (says t m).2).ts.getD i none = some u → (u = (says t m).2 ∧ i = m.st.toNat) ∨ x.ts.getD i none = some u := fun i u hu => by
  have hu : (x.ts.set m.st.toNat (some (says t m).2)).getD i none = some u := hu
  rw [getD_set] at hu
  split at hu
  ·rename_i h1
   exact .inl ⟨(Option.some.inj hu).symm, h1.1.symm⟩
  exact .inr hu
 refine ⟨fun i u hu => ?_, fun i u hu hs => ?_, fun h2 => ?_, fun h0 => ?_⟩
 ·rcases key i u hu with ⟨_, rfl⟩ | h1
  ·exact h.he _ t ht
  exact h.he i u h1
 ·rcases key i u hu with ⟨rfl, rfl⟩ | h1
  ·exact h.op _ t ht (says_01 hs)
  exact h.op i u h1 hs
 ·have h2 : 2 ≤ x.ph := h2
  omega
 have h0 : x.ph = 0 := h0
 omega
theorem J.inv.cancel {x : J} (h : x.inv) (hok : x.ok) : x.cancel.inv := by
 unfold J.cancel
 split
 ·rename_i hp
  exact J.inv.look (x := x.ask) (h.same rfl rfl rfl (.inl rfl)) hok.ask hp
 exact h.same rfl rfl rfl (.inl rfl)
theorem J.inv.hear {x : J} (h : x.inv) (hok : x.ok) {m : M} (hm : x.mine m) : (x.hear m).2.inv := by
 unfold J.hear
 split
 ·rename_i hp
  show (x.started m.f m.ar).inv
  unfold J.started
  have hR : (x.hasR m.f).inv := h.same rfl rfl rfl (.inl rfl)
  split
  ·split
   ·exact J.inv.look (x := (x.hasR m.f).run) (hR.same rfl rfl rfl (.inr (.inl ⟨hp.2, rfl⟩))) (hok.hasR hm.2.2).run rfl
   exact hR
  split
  ·exact h.fin hp.2 _ _
  exact h.fin hp.2 _ _
 split
 ·rename_i hp
  unfold J.said
  split
  ·exact h
  split
  ·exact h
  rename_i t ht
  split
  ·exact h
  exact J.inv.look (h.put hp.2 ht) (hok.put ((hok.tk (ht ▸ getD_mem (getD_lt ht))).says m)) hp.2
 split
 ·rename_i hp
  show (x.left m.f).inv
  unfold J.left
  split
  ·exact h.same rfl rfl rfl (.inl rfl)
  split
  ·exact inv_begin _
  exact h.same rfl rfl rfl (.inr (.inr ⟨hp.2, rfl⟩))
 exact h
theorem look_id (x : J) : x.look.id = x.id := (look_same x).2.2.2
theorem cancel_id (x : J) : x.cancel.id = x.id := by
 unfold J.cancel
 split
 ·exact look_id x.ask
 rfl
theorem hear_id (x : J) (m : M) : (x.hear m).2.id = x.id := by
 unfold J.hear
 split
 ·show (x.started m.f m.ar).id = x.id
  unfold J.started
  split
  ·split
   ·exact look_id _
   rfl
  split <;> rfl
 split
 ·unfold J.said
  split
  ·rfl
  split
  ·rfl
  split
  ·rfl
  exact look_id _
 split
 ·show (x.left m.f).id = x.id
  unfold J.left
  split
  ·rfl
  split <;> rfl
 rfl
structure okL (js : List J) : Prop where
 iv : ∀ x ∈ js, x.inv
 id : ∀ (k : Nat) x, js[k]? = some x → x.id = (k : Int) + 1
theorem okL.nil : okL [] := ⟨fun x hx => (by cases hx), fun k x hx => (by simp at hx)⟩
theorem okL.set {js : List J} {i : Nat} {x y : J} (h : okL js) (hx : js[i]? = some x) (hy : y.inv) (hid : y.id = x.id) : okL (js.set i y) := ⟨fun z hz => by
 rcases List.mem_or_eq_of_mem_set hz with hz | rfl
 ·exact h.iv z hz
 ·exact hy, fun k z hz => by
 rw [List.getElem?_set] at hz
 split at hz
 ·rename_i e
  split at hz
  ·obtain rfl := Option.some.inj hz
   rw [hid, h.id i x hx, e]
  cases hz
 exact h.id k z hz⟩
theorem okL.run {js : List J} (h : okL js) (hok : okJ js) (o : O) : okL (o.run js) := by
 unfold O.run
 split
 ·unfold subM
  split
  ·refine ⟨fun z hz => ?_, fun k z hz => ?_⟩
   ·rcases List.mem_append.1 hz with hz | hz
    ·exact h.iv z hz
    obtain rfl := List.mem_singleton.1 hz
    exact inv_begin _
   have hz : (js ++ [newJ o.ns o.ss js.length])[k]? = some z := hz
   rw [List.getElem?_append] at hz
   split at hz
   ·exact h.id k z hz
   rename_i hk
   rw [List.getElem?_singleton] at hz
   split at hz
   ·obtain rfl := Option.some.inj hz
    show ((js.length : Int) + 1) = k + 1
    omega
   cases hz
  exact h
 split
 ·unfold canM
  split
  ·exact h
  split
  ·exact h
  rename_i i hi _ x hx
  split
  ·exact h
  exact h.set hx ((h.iv x (mG hx)).cancel (hok.ok x (mG hx))) (cancel_id x)
 split
 ·unfold delM
  split
  ·exact h
  split
  ·exact h
  split
  ·exact h
  rename_i i hi _ x hx
  split
  ·rename_i hm
   exact h.set hx ((h.iv x (mG hx)).hear (hok.ok x (mG hx)) hm) (hear_id x _)
  exact h
 exact h
theorem same_c (w : World) {r1 r2 : Res} {b1 b2 : Nat} {key key2 : List UInt8} {js : List J} (id : Int) (h : St W F (r1 :: r2 :: cs) w) (hC : CtlR F r1 b1 key js) (hQ : CtlQ F r2 b2 key2 js) (hok : ∀ x ∈ js, x.ok) (hnd : ∀ x ∈ js, x.once) (hjl : js.length ≤ 16) (hid : ∀ (k : Nat) x, js[k]? = some x → x.id = (k : Int) + 1) : Calls prog 22 #[pz b1, pz b2, Vi id] w fun e w' => e = .returned (.bool true) ∧ ∃ G r1' r2', Le F G ∧ CtlR G r1' b1 key js ∧ CtlQ G r2' b2 key2 js ∧ St W G (r1' :: r2' :: cs) w'  := by
 refine enter (args := [pz b1, pz b2, Vi id]) func22 rfl rfl rfl ?_
 have hleF := Le.refl F
 refine Wi<|C0 1 rfl<|J0 (H0 (N0 ?_))
 rcases hat : at_ js id with _ | k
 ·refine L0<|C0 2 rfl<|C1 (cn func19) rfl rfl (job_no _ h hC id hjl hat) fun w1 ⟨ra, hCa, h1⟩ => ?_
  replace hC := hCa
  refine C0 3 rfl<|O2 rfl h1 inf54 fun b7 w2 h2=>F4 h2 0 rfl rfl rfl inf54 rfl rfl rfl ?_
  intro  w3 h3
  try simp only [ZZ] at h3
  refine C0 1 rfl<|J0 (H0 (N0 ?_))
  obtain ⟨G7, hG7, hfr7, h3⟩ := h3.freeze (i := 0) rfl
  have hfz7 : G7 b7 = some (.cells #[Vi 0, Vi 0, Vi 0, Vi 0, Vi 0, .slice none 0 0, .slice none 0 0] 54 (0, 0)) := hfr7 _ List.mem_cons_self
  replace h3 : St W G7 (ra :: r2 :: cs) w3 := h3
  replace hleF := Le.trans hleF hG7
  replace hC := hC.mono hG7
  replace hQ := hQ.mono hG7
  obtain ⟨A0, cap0, rP, qs, rj, h5, hr, hK⟩ := CtlQ.open_ (St.swap2 h3) hQ
  have hlq := hK.lq
  have hlr := hK.lr
  refine L0<|C0 2 rfl<|C1 (cn func50) rfl rfl (qfind_no _ id h5 hr (by omega) (js := js) hlq hat) fun w4 h4 =>C0 1 rfl<|Wh<|C0 1 rfl<|I0 (L2 underlying98 rfl rfl) rfl<|Wa<|J1 rfl (rfl)<|Wi<|C0 1 rfl<|I0 (Bt (R1 rfl) rfl) rfl<|C0 2 rfl<|Q0 rfl<|I0 (K0 underlying3 rfl rfl (h4.cell (cellB hfz7 rfl))) rfl<|Q0 rfl<|I0 (Bt (L1 rfl rfl) (dA rfl)) rfl<|C0 3 rfl<|Q0 rfl<|I0 (K0 underlying33 rfl rfl (h4.cell (cellB hfz7 rfl))) rfl<|Q0 rfl<|I0 (R0 (n := 0) (Y0 underlying33 rfl rfl) rfl) rfl<|Q0 rfl<|I0 (Bt (L1 rfl rfl) (dA rfl)) rfl<|C0 2 rfl<|J0 (H0 (O1 ?_))
  obtain ⟨r7, hC7, hS7⟩ := CtlQ.close h4 hr hK
  exact ret1 rfl rfl ⟨rfl, G7, ra, r7, hleF, hC, hC7, St.swap2 hS7⟩
 obtain ⟨_, _, hidk, hkl, x, hxk⟩ := at_yes hat
 have hxi : x.id = id := by have := hid k x hxk; omega
 refine L0<|C0 2 rfl<|V1 (cn func19) rfl rfl (job_ye _ h hC id hok hjl hat hxk) ?_
 rintro _ w5 ⟨Ga, ra, Aa, ca, Ba, da, hGa, rfl, hxa, hva, hCa, h5⟩
 refine ⟨_, rfl, ?_⟩
 replace hleF := Le.trans hleF hGa
 replace hC := hCa
 replace hQ := hQ.mono hGa
 refine C0 3 rfl<|O2 rfl h5 inf54 fun b7 w6 h6=>F4 h6 0 rfl rfl rfl inf54 rfl rfl rfl ?_
 intro  w7 h7
 try simp only [ZZ] at h7
 refine C0 1 rfl<|J0 (H0 (N0 ?_))
 obtain ⟨G7, hG7, hfr7, h7⟩ := h7.freeze (i := 0) rfl
 have hfz7 : G7 b7 = some (.cells #[Vi x.id, Vi x.ep, Vi x.ph, Vi x.ft, Vi x.cd, .slice Aa x.cs.length ca, .slice Ba (votesM x).length da] 54 (0, 0)) := hfr7 _ List.mem_cons_self
 replace h7 : St W G7 (ra :: r2 :: cs) w7 := h7
 replace hleF := Le.trans hleF hG7
 replace hC := hC.mono hG7
 replace hQ := hQ.mono hG7
 obtain ⟨A0, cap0, rP, qs, rj, h5, hr, hK⟩ := CtlQ.open_ (St.swap2 h7) hQ
 have hlq := hK.lq
 have hlr := hK.lr
 replace hxa := hxa.mono hG7
 replace hva := hva.mono hG7
 refine L0<|C0 2 rfl<|C1 (cn func50) rfl rfl (qfind_ye _ id h5 hr (by omega) (js := js) hlq hat) fun w8 h8 => ?_
 obtain ⟨rk, hrk, hJ⟩ := hK.at_ k x hxk
 have hokx := hok x (mG hxk)
 have hndx := (hnd x (mG hxk)).few hokx
 replace h8 := take2 h8 hrk
 obtain ⟨bT, A, B, C, R, N, cap, cap2, u3, u4, u5, ps, zt, ft, tm, h8, hO⟩ := JobQ.open_ h8 hJ
 refine C0 1 rfl<|Wh<|C0 1 rfl<|I0 (L2 underlying98 rfl rfl) rfl<|Wa<|E1 rfl (rfl)<|U0<|H0<|N0<|V2 h8 h8 (fun s_ => ([] : List Nat).any (Nat.beq s_)) mixed (by kernel_rfl)<|fun hx =>fun w9 h9=>L3 hx [0, 1, 2, 4] rfl<|Y4 (j := 1) (b := true) 12 hx 3 (by rfl) ⟨_, _, rfl, rfl, rfl⟩ (fun w_ hE_ => K0 underlying3 rfl rfl (hE_.cell (cellB hfz7 rfl))) rfl<|M4 (j := 1) (b := true) hx 5 (by rfl) ⟨_, _, rfl, rfl, rfl⟩ (fun w_ => Bt (L1 rfl rfl) (dA hxi)) rfl<|L3 hx [6, 7, 8, 10, 11, 12] rfl<|Y4 (j := 7) (b := true) 12 hx 9 (by rfl) ⟨_, _, rfl, rfl, rfl⟩ (fun w_ hE_ => K0 underlying3 rfl rfl (hE_.cell (cellB hfz7 rfl))) rfl<|J4 hx 12 [13] [13] [0] rfl<|M4 (j := 7) (b := true) hx 14 (by rfl) ⟨_, _, rfl, rfl, rfl⟩ (fun w_ => Bt (L1 rfl rfl) (dA rfl)) rfl<|L3 hx [15, 16, 17, 19, 20, 21] rfl<|Y4 (j := 16) (b := true) 12 hx 18 (by rfl) ⟨_, _, rfl, rfl, rfl⟩ (fun w_ hE_ => K0 underlying3 rfl rfl (hE_.cell (cellB hfz7 rfl))) rfl<|J4 hx 12 [22] [22] [0] rfl<|M4 (j := 16) (b := true) hx 23 (by rfl) ⟨_, _, rfl, rfl, rfl⟩ (fun w_ => Bt (L1 rfl rfl) (dA rfl)) rfl<|L3 hx [24, 25, 26, 28, 29, 30] rfl<|Y4 (j := 25) (b := true) 12 hx 27 (by rfl) ⟨_, _, rfl, rfl, rfl⟩ (fun w_ hE_ => K0 underlying3 rfl rfl (hE_.cell (cellB hfz7 rfl))) rfl<|J4 hx 12 [31] [31] [0] rfl<|M4 (j := 25) (b := true) hx 32 (by rfl) ⟨_, _, rfl, rfl, rfl⟩ (fun w_ => Bt (L1 rfl rfl) (dA rfl)) rfl<|L3 hx [33, 34, 35, 37, 38, 39] rfl<|Y4 (j := 34) (b := true) 12 hx 36 (by rfl) ⟨_, _, rfl, rfl, rfl⟩ (fun w_ hE_ => K0 underlying3 rfl rfl (hE_.cell (cellB hfz7 rfl))) rfl<|J4 hx 12 [40] [40] [0] rfl<|M4 (j := 34) (b := true) hx 41 (by rfl) ⟨_, _, rfl, rfl, rfl⟩ (fun w_ => Bt (L1 rfl rfl) (dA rfl)) rfl<|L3 hx [42, 43, 44, 46, 47, 48] rfl<|Y4 (j := 43) (b := true) 12 hx 45 (by rfl) ⟨_, _, rfl, rfl, rfl⟩ (fun w_ hE_ => K0 underlying33 rfl rfl (hE_.cell (cellB hfz7 rfl))) rfl<|J4 hx 12 [49] [49] [0] rfl<|F3 50 h9 (by rfl)<|Q0 rfl<|C1 (cn func51) rfl rfl (Wir.same_c _ h9 hxa hO.co (by rw [hokx.lc]; have := (Dg.chk_ok hokx.ss).2.1.2; omega)) fun w10 h10 =>J0<|H2<|L3 hx [51, 52, 53, 55] rfl<|Y4 (j := 52) (b := true) 12 hx 54 (by rfl) ⟨_, _, rfl, rfl, rfl⟩ (fun w_ hE_ => K0 underlying33 rfl rfl (hE_.cell (cellB hfz7 rfl))) rfl<|F3 56 h10 (by rfl)<|Q0 rfl<|V1 (cn func52) rfl rfl (qvotes_c _ h10 hO (by rw [hokx.lt]; exact (Dg.chk_ok hokx.ss).2.1.2)) ?_
 rintro _ w11 ⟨GM, AM, cM, hGM, rfl, hcM, hrM, h11⟩
 refine ⟨_, rfl, ?_⟩
 replace hleF := Le.trans hleF hGM
 replace hxa := hxa.mono hGM
 replace hva := hva.mono hGM
 replace hC := hC.mono hGM
 replace hK := hK.mono hGM
 replace hfz7 := hGM _ _ hfz7
 replace hO := hO.mono hGM
 refine J0<|H2<|F3 57 (h11.weak hGM) (by rfl)<|Q0 rfl<|C1 (cn func51) rfl rfl (Wir.same_c _ h11 hva hrM (by rw [votes_len, hokx.lt]; have := (Dg.chk_ok hokx.ss).2.1.2; omega)) fun w12 h12 =>J0<|H2<|L3 hx [58, 59] rfl<|H3 (.inr (h12.weak hGM)) (by kernel_rfl)<|H0 (O1 ?_)
 obtain ⟨r9, hJ9, hS9⟩ := JobQ.close (x := x) (show St W _ (qB (x) (qs.getD k 0) bT A B C R N cap cap2 u3 u4 u5 ps zt :: qT ps bT zt ft :: (tm ++ _)) _ from h12) hO
 replace hS9 := give2 hS9 (by omega)
 obtain ⟨r7, hC7, hS7⟩ := CtlQ.close hS9 hr ((hK.mono (Le.refl GM)).set hkl hJ9)
 rw [set_same (d := x) hkl (by rw [gD, hxk]; rfl)] at hC7
 exact ret1 rfl rfl ⟨rfl, GM, ra, r7, hleF, hC, hC7, St.swap2 hS7⟩
theorem CtlQ.lenAt {W w : World} {F : Snap} {cs : List Res} {i : Nat} {r : Res} {b : Nat} {key : List UInt8} {js : List J} (h : St W F cs w) (hi : cs[i]? = some r) (hQ : CtlQ F r b key js) : ∃ A cap, w.cell? ⟨b, 1, none⟩ = some (.slice A js.length cap) := by
 obtain ⟨A, cap, rP, qs, rj, rfl, _, h3⟩ := hQ
 have h5 := St.out h hi
 have h6 : St W F (kQ b key A qs.length cap :: (rP :: (rj ++ cs.set i []))) w := St.flat h5 (by simp)
 refine ⟨A, cap, ?_⟩
 rw [← h3.lq]
 exact h6.ocell (i := 0) rfl rfl
theorem scripts_law (w : World) {A : Option Addr} {cap : Nat} {l : List O} {key : List UInt8} (h : St W F cs w) (hR : RdS KO F A l) (hl : l.length ≤ 9223372036854775807) : Calls prog 6 #[.string (bs key), .slice A l.length cap] w fun r w' => r = .returned (.bool true) ∧ St W F cs w'  := by
 refine enter (args := [.string (bs key), .slice A l.length cap]) func6 rfl rfl rfl ?_
 have hleF : Le F F := Le.refl F
 refine Wi<|C0 1 rfl<|J0 (H0 (N0 (N0 ?_)))
 rcases Bool.eq_false_or_eq_true (fewO l 50) with hfew | hfew
 all_goals have hcs : 100 < key.length ∨ key.length ≤ 100 := by omega
 all_goals rcases hcs with hst | hst
 ·refine L0<|C0 1 rfl<|C1 (cn func10) rfl rfl (smallO_c _ 50 h hR hl) fun w1 h1 =>I0 (Bf (R1 rfl) (by rw [hfew]; rfl)) rfl<|C0 2 rfl<|Q0 rfl<|I0 (R0 (n := (key.length : Int)) (E3 underlying9 rfl rfl) rfl) rfl<|Q0 rfl<|I0 (Bt (Y1 rfl rfl) (dA (by omega))) rfl<|C0 1 rfl<|Wa<|J1 rfl (rfl)<|Wi<|C1 (cn func11) rfl rfl (live_c _ h1) fun w2 ⟨G2, hG2, h2⟩ => ?_
  replace hleF := Le.trans hleF hG2
  refine C0 1 rfl<|Wg<|ret1 rfl rfl ⟨rfl, h2.weak hleF⟩
 ·refine L0<|C0 1 rfl<|C1 (cn func10) rfl rfl (smallO_c _ 50 h hR hl) fun w3 h3 =>I0 (Bf (R1 rfl) (by rw [hfew]; rfl)) rfl<|C0 2 rfl<|Q0 rfl<|I0 (R0 (n := (key.length : Int)) (E3 underlying9 rfl rfl) rfl) rfl<|Q0 rfl<|I0 (Bf (Y1 rfl rfl) (dN (by omega))) rfl<|C0 1 rfl<|Wa<|E1 rfl (rfl)<|Wk<|C0 1 rfl<|V1 (cn func12) rfl rfl (new_c _ key h3) ?_
  rintro _ w4 ⟨bk, rk, rfl, hC0, h4⟩
  refine ⟨_, rfl,C0 1 rfl<|Wh<|C0 1 rfl<|I0 (L2 underlying25 rfl rfl) rfl<|Wa<|E1 rfl (rfl)<|Wk<|C0 1 rfl<|I0 (R2 (vs := [(0, .string (bs key))]) (cells := #[.string (bs key), .slice none 0 0]) rfl (by kernel_rfl)) rfl<|J3 rfl h4 rfl fun b24 w5 h5=>C0 1 rfl<|J0 (H0 (N0 (N0 ?_)))⟩
  replace h5 : St W F (kQ b24 key none 0 0 :: rk :: cs) w5 := h5
  obtain ⟨rq, hQ0, hSq⟩ := CtlQ.close (rj := []) (qs := []) (js := []) (rP := []) (A := none) (cap := 0) (b := b24) (key := key) (show St W F (kQ b24 key none 0 0 :: [] :: ([] ++ (rk :: cs))) _ from St.flat h5 (by simp)) (Row.nil 98 pj) ⟨rfl, rfl, fun i x hxk => by simp at hxk⟩
  replace hSq := St.perm hSq (List.Perm.swap _ _ _)
  refine L0<|C0 1 rfl<|Wj<|B3 (σ := Nat × List J × Snap × Res × Res) (fun q_ => [(0, .string (bs key)), (1, .slice A l.length cap), (5, pz bk), (6, pz b24), (7, .int .i64 (q_.1 : Int))]) (fun q_ w => q_.1 ≤ l.length ∧ Le F q_.2.2.1 ∧ CtlR q_.2.2.1 q_.2.2.2.1 bk key q_.2.1 ∧ CtlQ q_.2.2.1 q_.2.2.2.2 b24 key q_.2.1 ∧ okJ q_.2.1 ∧ (∀ x ∈ q_.2.1, x.once) ∧ okL q_.2.1 ∧ St W q_.2.2.1 (q_.2.2.2.1 :: q_.2.2.2.2 :: cs) w) (fun q_ => l.length - q_.1) (⟨0, [], F, rk, rq⟩) (⟨Nat.zero_le _, Le.refl F, hC0, hQ0, okJ.nil, (fun x hx => by cases hx), okL.nil, hSq⟩) ?_
  rintro ⟨i, js, G, r1, r2⟩ w6 ⟨hi, hle, hC, hQ, hokj, hnd, hLL, hL⟩
  try dsimp only at hi hle hC hQ hokj hnd hLL hL
  refine W2 [(0, .string (bs key)), (1, .slice A l.length cap), (5, pz bk), (6, pz b24), (7, .int .i64 (i : Int))] ?_
  have hleF := hle
  refine N0<|Wi<|C0 2 rfl<|I0 (R0 (n := (l.length : Int)) (Y0 underlying22 rfl rfl) rfl) rfl<|C0 1 rfl<|Wa<|Z0 rfl (fun c7 => ?_) (fun c7 => ?_)
  ·try simp only [DD] at c7
   refine U0 (H0 (N0 (M1 (N0 (N0 ?_)))))
   have hi2 : i < l.length := by omega
   obtain ⟨ad, A1, cap1, B1, cap2, rfl, hA1, hS1, hsl, hcell⟩ := opAt (hR.mono hleF) hi2
   have hsm := fewO.at_ hfew hi2
   refine WC.cutT (σ := List J × Snap × Res × Res) (fun q_ => [(0, .string (bs key)), (1, .slice (some ad) l.length cap), (5, pz bk), (6, pz b24), (7, .int .i64 (i : Int)), (66, .bool false)]) (fun q_ w => Le G q_.2.1 ∧ CtlR q_.2.1 q_.2.2.1 bk key q_.1 ∧ CtlQ q_.2.1 q_.2.2.2 b24 key q_.1 ∧ okJ q_.1 ∧ (∀ x ∈ q_.1, x.once) ∧ okL q_.1 ∧ St W q_.2.1 (q_.2.2.1 :: q_.2.2.2 :: cs) w) ?_ ?_
   ·refine V2 hL ((hL.drop 1).drop 0) (fun s_ => ([] : List Nat).any (Nat.beq s_)) mixed (by kernel_rfl)<|fun hx =>fun w8 h8=>L3 hx [0, 1, 2, 3] rfl<|Z2 hx 4 (by rfl) (fun w_ => N2 underlying22 inf38 rfl rfl (n := i) rfl (by omega)) rfl<|V3 12 hx 5 (by rfl) (fun w_ hE_ => X1 (u := .agg #[Vi (l.getD i O0).d, .slice A1 (l.getD i O0).ns.length cap1, .slice B1 (l.getD i O0).ss.length cap2, Vi (l.getD i O0).n, .string (bs (l.getD i O0).tx), Vi (l.getD i O0).now]) (Runs.loadKF hE_ hcell underlying38 rfl inf38 rfl rfl) rfl) rfl<|F3 6 ((h8.drop 1).drop 0) (by rfl)<|C1 (cn func13) rfl rfl (does_c _ h8 hC hQ hokj.ok hnd hokj.len hA1 hS1 hsm.1 hsm.2.1 hsm.2.2) fun w9 ⟨G9, r8, r9, hG9, hC9, hQ9, h9⟩ => ?_
    replace hleF := Le.trans hleF hG9
    replace hC := hC9
    replace hQ := hQ9
    have hok2 := hokj.run (l.getD i O0)
    have hnd2 := once_run hnd (l.getD i O0)
    have hL2 := hLL.run hokj (l.getD i O0)
    have hjl2 := hok2.len
    generalize (l.getD i O0).run js = js2 at hC hQ hok2 hnd2 hL2 hjl2
    obtain ⟨A0, cap0, hc24⟩ := CtlQ.lenAt h9 (i := 1) rfl hQ
    have hol : (outM js2 key (l.getD i O0).now).length ≤ 16000 := by
     have h9 := outM_len hok2.ok key (l.getD i O0).now js2.length
     rw [List.take_length] at h9
     omega
    refine J0<|H2<|Z2 hx 7 (by rfl) (fun w_ => Bf (R1 rfl) rfl) rfl<|L3 hx [8, 9, 11, 12, 13] rfl<|WE.op2 (.inr (((h9.weak hG9).drop 1).drop 0)) (i := 10) (j := 14) (by rfl) (by rfl) (by kernel_rfl) ?_ ?_
    ·refine Q0 rfl<|C1 (cn func20) rfl rfl (jobs_c _ h9 hC) fun w10 ⟨rj, hCj, h10⟩ => ?_
     replace hC := hCj
     obtain ⟨A0, cap0, hc24⟩ := CtlQ.lenAt h10 (i := 1) rfl hQ
     refine J0<|H2<|F3 14 (((h10.weak hG9).drop 1).drop 0) (by rfl)<|Q0 rfl<|I0 (X1 (u := .slice A0 js2.length cap0) (K0 underlying28 rfl rfl hc24) rfl) rfl<|J0<|H2<|M4 (j := 8) (b := false) hx 15 (by rfl) ⟨_, _, rfl, rfl, rfl⟩ (fun w_ => R0 (n := (js2.length : Int)) (Y0 underlying28 rfl rfl) rfl) rfl<|M4 (j := 8) (b := false) hx 16 (by rfl) ⟨_, _, rfl, rfl, rfl⟩ (fun w_ => Bf (J2 rfl rfl) (by rw [dA rfl]; rfl)) rfl<|L3 hx [17, 18, 19, 20, 21] rfl<|M4 (j := 18) (b := false) hx 22 (by rfl) ⟨_, _, rfl, rfl, rfl⟩ (fun w_ => N2 underlying22 inf38 rfl rfl (n := i) rfl (by omega)) rfl<|L3 hx [23, 26, 27, 28] rfl<|M4 (j := 18) (b := false) hx 29 (by rfl) ⟨_, _, rfl, rfl, rfl⟩ (fun w_ => N2 underlying22 inf38 rfl rfl (n := i) rfl (by omega)) rfl<|L3 hx [30] rfl<|Y4 (j := 18) (b := false) 12 hx 24 (by rfl) ⟨_, _, rfl, rfl, rfl⟩ (fun w_ hE_ => K0 underlying3 rfl rfl (by rw [add_add]; exact hE_.cell (hcell 5 _ rfl))) rfl<|Y4 (j := 18) (b := false) 12 hx 31 (by rfl) ⟨_, _, rfl, rfl, rfl⟩ (fun w_ hE_ => K0 underlying3 rfl rfl (by rw [add_add]; exact hE_.cell (hcell 5 _ rfl))) rfl<|F3 25 (((h10.weak hG9).drop 1).drop 0) (by rfl)<|Q0 rfl<|V1 (cn func14) rfl rfl (outbox_c _ h10 hC hok2.ok hok2.len (l.getD i O0).now (by omega)) ?_
     rintro _ w11 ⟨Gd, rd, Ad, cd, hGd, rfl, hTd, hCd, h11⟩
     refine ⟨_, rfl, ?_⟩
     replace hleF := Le.trans hleF hGd
     replace hC := hCd
     replace hQ := hQ.mono hGd
     refine J0<|H2<|F3 32 (((h11.weak (Le.trans hG9 hGd)).drop 1).drop 0) (by rfl)<|Q0 rfl<|V1 (cn func21) rfl rfl (qoutbox_c _ (St.swap2 h11) hQ hok2.ok hnd2 hok2.len (l.getD i O0).now (by omega)) ?_
     rintro _ w12 ⟨Ge, re, Ae, ce, hGe, rfl, hTe, hQe, h12⟩
     refine ⟨_, rfl, ?_⟩
     replace hleF := Le.trans hleF hGe
     replace hTd := hTd.mono hGe
     replace hQ := hQe
     replace hC := hC.mono hGe
     replace h12 := St.swap2 h12
     refine J0<|H2<|F3 33 (((h12.weak (Le.trans (Le.trans hG9 hGd) hGe)).drop 1).drop 0) (by rfl)<|Q0 rfl<|C1 (cn func17) rfl rfl (texts_t _ h12 hTd hTe (by omega)) fun w13 h13 =>J0<|H2<|M4 (j := 18) (b := false) hx 34 (by rfl) ⟨_, _, rfl, rfl, rfl⟩ (fun w_ => Bf (R1 rfl) rfl) rfl<|L3 hx [35] rfl<|H3 (.inr (((h13.weak (Le.trans (Le.trans hG9 hGd) hGe)).drop 1).drop 0)) (by kernel_rfl)<|Q6 (⟨js2, _, rd, re⟩ : List J × Snap × Res × Res) (by repeat (first | exact trivial | refine ⟨rfl, ?_⟩)) ⟨(Le.trans (Le.trans hG9 hGd) hGe), hC, hQ, hok2, hnd2, hL2, h13⟩
    refine Q0 rfl<|I0 (X1 (u := .slice A0 js2.length cap0) (K0 underlying28 rfl rfl hc24) rfl) rfl<|J0<|H2<|M4 (j := 8) (b := false) hx 15 (by rfl) ⟨_, _, rfl, rfl, rfl⟩ (fun w_ => R0 (n := (js2.length : Int)) (Y0 underlying28 rfl rfl) rfl) rfl<|F3 10 (((h9.weak hG9).drop 1).drop 0) (by rfl)<|Q0 rfl<|C1 (cn func20) rfl rfl (jobs_c _ h9 hC) fun w14 ⟨rj, hCj, h14⟩ => ?_
    replace hC := hCj
    obtain ⟨A0, cap0, hc24⟩ := CtlQ.lenAt h14 (i := 1) rfl hQ
    refine J0<|H2<|M4 (j := 8) (b := false) hx 16 (by rfl) ⟨_, _, rfl, rfl, rfl⟩ (fun w_ => Bf (J2 rfl rfl) (by rw [dA rfl]; rfl)) rfl<|L3 hx [17, 18, 19, 20, 21] rfl<|M4 (j := 18) (b := false) hx 22 (by rfl) ⟨_, _, rfl, rfl, rfl⟩ (fun w_ => N2 underlying22 inf38 rfl rfl (n := i) rfl (by omega)) rfl<|L3 hx [23, 26, 27, 28] rfl<|M4 (j := 18) (b := false) hx 29 (by rfl) ⟨_, _, rfl, rfl, rfl⟩ (fun w_ => N2 underlying22 inf38 rfl rfl (n := i) rfl (by omega)) rfl<|L3 hx [30] rfl<|Y4 (j := 18) (b := false) 12 hx 24 (by rfl) ⟨_, _, rfl, rfl, rfl⟩ (fun w_ hE_ => K0 underlying3 rfl rfl (by rw [add_add]; exact hE_.cell (hcell 5 _ rfl))) rfl<|Y4 (j := 18) (b := false) 12 hx 31 (by rfl) ⟨_, _, rfl, rfl, rfl⟩ (fun w_ hE_ => K0 underlying3 rfl rfl (by rw [add_add]; exact hE_.cell (hcell 5 _ rfl))) rfl<|F3 25 (((h14.weak hG9).drop 1).drop 0) (by rfl)<|Q0 rfl<|V1 (cn func14) rfl rfl (outbox_c _ h14 hC hok2.ok hok2.len (l.getD i O0).now (by omega)) ?_
    rintro _ w15 ⟨Gd, rd, Ad, cd, hGd, rfl, hTd, hCd, h15⟩
    refine ⟨_, rfl, ?_⟩
    replace hleF := Le.trans hleF hGd
    replace hC := hCd
    replace hQ := hQ.mono hGd
    refine J0<|H2<|F3 32 (((h15.weak (Le.trans hG9 hGd)).drop 1).drop 0) (by rfl)<|Q0 rfl<|V1 (cn func21) rfl rfl (qoutbox_c _ (St.swap2 h15) hQ hok2.ok hnd2 hok2.len (l.getD i O0).now (by omega)) ?_
    rintro _ w16 ⟨Ge, re, Ae, ce, hGe, rfl, hTe, hQe, h16⟩
    refine ⟨_, rfl, ?_⟩
    replace hleF := Le.trans hleF hGe
    replace hTd := hTd.mono hGe
    replace hQ := hQe
    replace hC := hC.mono hGe
    replace h16 := St.swap2 h16
    refine J0<|H2<|F3 33 (((h16.weak (Le.trans (Le.trans hG9 hGd) hGe)).drop 1).drop 0) (by rfl)<|Q0 rfl<|C1 (cn func17) rfl rfl (texts_t _ h16 hTd hTe (by omega)) fun w17 h17 =>J0<|H2<|M4 (j := 18) (b := false) hx 34 (by rfl) ⟨_, _, rfl, rfl, rfl⟩ (fun w_ => Bf (R1 rfl) rfl) rfl<|L3 hx [35] rfl<|H3 (.inr (((h17.weak (Le.trans (Le.trans hG9 hGd) hGe)).drop 1).drop 0)) (by kernel_rfl)<|Q6 (⟨js2, _, rd, re⟩ : List J × Snap × Res × Res) (by repeat (first | exact trivial | refine ⟨rfl, ?_⟩)) ⟨(Le.trans (Le.trans hG9 hGd) hGe), hC, hQ, hok2, hnd2, hL2, h17⟩
   rintro ⟨js2, G3, r5, r6⟩ w18 ⟨hG3, hC, hQ, hok2, hnd2, hL2, hL⟩
   dsimp only at hG3 hC hQ hok2 hnd2 hL2 hL
   replace hleF := Le.trans hleF hG3
   refine E1 rfl (rfl)<|Wk<|C0 1 rfl<|Wj<|B3 (σ := Nat × Snap × Res × Res) (fun q_ => [(0, .string (bs key)), (1, .slice (some ad) l.length cap), (5, pz bk), (6, pz b24), (7, .int .i64 (i : Int)), (8, .int .i64 (q_.1 : Int))]) (fun q_ w => q_.1 ≤ 4 ∧ Le F q_.2.1 ∧ CtlR q_.2.1 q_.2.2.1 bk key js2 ∧ CtlQ q_.2.1 q_.2.2.2 b24 key js2 ∧ St W q_.2.1 (q_.2.2.1 :: q_.2.2.2 :: cs) w) (fun q_ => 4 - q_.1) (⟨0, G3, r5, r6⟩) (⟨Nat.zero_le _, hleF, hC, hQ, hL⟩) ?_
   rintro ⟨q, G2, r3, r4⟩ w19 ⟨hq, hle2, hC, hQ, hL⟩
   try dsimp only at hq hle2 hC hQ hL
   refine W2 [(0, .string (bs key)), (1, .slice (some ad) l.length cap), (5, pz bk), (6, pz b24), (7, .int .i64 (i : Int)), (8, .int .i64 (q : Int))] ?_
   have hleF := hle2
   refine N0<|Wi<|C0 2 rfl<|Wa<|Z0 rfl (fun c20 => ?_) (fun c20 => ?_)
   ·try simp only [DD] at c20
    refine U0<|H0<|N0<|M1<|Wi<|C0 3 rfl<|C1 (cn func22) rfl rfl (same_c _ (q : Int) hL hC hQ hok2.ok hnd2 hok2.len hL2.id) fun w21 ⟨Gs, rs, rt, hGs, hCs, hQs, h21⟩ => ?_
    replace hleF := Le.trans hleF hGs
    replace hC := hCs
    replace hQ := hQs
    refine I0 (Bf (R1 rfl) rfl) rfl<|Wa<|E1 rfl (rfl)<|U0<|N1<|H0<|L0<|C0 1 rfl<|I0 (V0 rfl rfl (by omega)) rfl<|C0 1 rfl<|J0<|F1 (⟨q + 1, Gs, rs, rt⟩ : Nat × Snap × Res × Res) (by show 4 - (q + 1) < 4 - q; omega) ⟨rfl, rfl, rfl, rfl, rfl, rfl, trivial⟩ ⟨by show q + 1 ≤ 4; omega, hleF, hC, hQ, h21⟩
   try simp only [DD] at c20
   refine U1<|B2<|WX.cut<|E2<|N1<|H0<|L0<|C0 1 rfl<|I0 (V0 rfl rfl (by omega)) rfl<|C0 1 rfl<|J0<|F1 (⟨i + 1, js2, G2, r3, r4⟩ : Nat × List J × Snap × Res × Res) (by show l.length - (i + 1) < l.length - i; omega) ⟨rfl, rfl, rfl, rfl, rfl, trivial⟩ ⟨by show i + 1 ≤ _; omega, hle2, hC, hQ, hok2, hnd2, hL2, hL⟩
  try simp only [DD] at c7
  refine U1<|B2<|WX.cut<|E2<|H0<|Wi<|C1 (cn func11) rfl rfl (live_c _ hL) fun w22 ⟨G22, hG22, h22⟩ => ?_
  replace hleF := Le.trans hleF hG22
  refine C0 1 rfl<|Wg<|ret1 rfl rfl ⟨rfl, (((h22.drop 0).drop 0)).weak hleF⟩
 ·refine L0<|C0 1 rfl<|C1 (cn func10) rfl rfl (smallO_c _ 50 h hR hl) fun w23 h23 =>I0 (Bt (R1 rfl) (by rw [hfew]; rfl)) rfl<|C0 5 rfl<|Wa<|J1 rfl (rfl)<|Wi<|C1 (cn func11) rfl rfl (live_c _ h23) fun w24 ⟨G24, hG24, h24⟩ => ?_
  replace hleF := Le.trans hleF hG24
  refine C0 1 rfl<|Wg<|ret1 rfl rfl ⟨rfl, h24.weak hleF⟩
 refine L0<|C0 1 rfl<|C1 (cn func10) rfl rfl (smallO_c _ 50 h hR hl) fun w25 h25 =>I0 (Bt (R1 rfl) (by rw [hfew]; rfl)) rfl<|C0 5 rfl<|Wa<|J1 rfl (rfl)<|Wi<|C1 (cn func11) rfl rfl (live_c _ h25) fun w26 ⟨G26, hG26, h26⟩ => ?_
 replace hleF := Le.trans hleF hG26
 refine C0 1 rfl<|Wg<|ret1 rfl rfl ⟨rfl, h26.weak hleF⟩
theorem scripts_row (w : World) {A : Option Addr} {cap : Nat} {l : List O} {key : ByteArray} (h : St W F cs w) (hR : RdS KO F A l) (hl : l.length ≤ 9223372036854775807) : Calls prog 6 #[.string key, .slice A l.length cap] w fun r w' => r = .returned (.bool true) ∧ St W F cs w' := by
 have := scripts_law w (key := key.data.toList) (cap := cap) h hR hl
 rwa [bs_of] at this
end Ct
end
end Go.Proofs.YtifdpllfbaogcaaGreat
