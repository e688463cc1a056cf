/- Joined texts: Z4 .. Z8. -/
import Derived.Test.YtifdpllfbaogcaaGreatN6
import Derived.KernelRfl
set_option linter.unusedVariables false
set_option linter.unusedSimpArgs false
set_option maxRecDepth 100000
set_option maxHeartbeats 32000000
namespace Go.Proofs.YtifdpllfbaogcaaGreat
open Go Go.RowKit B Tryz
variable {W : World} {F : Snap}
open Dg (S E S0 E0 KS KE chkM settleM readyM overM withM okAll)
open Tal (T TR RR okN)
open Wir (M encB decB mayM mayN numB textB)
open Cr (C signM)
namespace Ct
theorem codes_law {cs : List Res} (w : World) {A : Option Addr} {cap : Nat} {l : List O} (h : St W F cs w) (hR : RdS KO F A l) (hl : l.length ≤ 9223372036854775807) : Calls prog 5 #[.slice A l.length cap] w fun r w' => r = .returned (.bool true) ∧ St W F cs w'  := by
 refine enter (args := [.slice A l.length cap]) func5 rfl rfl rfl ?_
 have hleF : Le F F := Le.refl F
 refine Wi<|WL.e 1 rfl<|WL.nil (C0 (K0 (K0 ?_)))
 rcases Bool.eq_false_or_eq_true (fewO l 50) with hfew | hfew
 ·skip
  refine I0<|WL.e 1 rfl<|WL.cv can10 rfl rfl (smallO_c _ 50 h hR hl) fun w1 h1 =>WL.v (Bf (F1 rfl) (by rw [hfew]; rfl)) rfl<|Wa<|W0 rfl (rfl)<|Wk<|N1 can12 rfl rfl (new_c _ [107] h1) ?_
  rintro _ w2 ⟨bk, rk, rfl, hC0, h2⟩
  refine ⟨_, rfl,WL.e 1 rfl<|Wh<|WL.e 1 rfl<|WL.v (Y1 underlying25 rfl rfl) rfl<|Wa<|W0 rfl (rfl)<|Wk<|WL.v (I2 (vs := [(0, .string (bs [107]))]) (cells := #[.string (bs [107]), .slice none 0 0]) rfl (by kernel_rfl)) rfl<|WL.box rfl h2 rfl fun b19 w3 h3=>WL.e 1 rfl<|WL.nil (C0 (K0 (K0 ?_)))⟩
  replace h3 : St W F (kQ b19 [107] none 0 0 :: rk :: cs) w3 := h3
  obtain ⟨rq, hQ0, hSq⟩ := CtlQ.close (rj := []) (qs := []) (js := []) (rP := []) (A := none) (cap := 0) (b := b19) (key := [107]) (show St W F (kQ b19 [107] none 0 0 :: [] :: ([] ++ (rk :: cs))) _ from St.flat h3 (by simp)) (Row.nil 98 pj) ⟨rfl, rfl, fun i x hxk => by simp at hxk⟩
  replace hSq := St.perm hSq (List.Perm.swap _ _ _)
  refine I0<|WL.e 1 rfl<|Wj<|WC.lp (σ := Nat × List J × Snap × Res × Res) (fun q_ => [(0, .slice A l.length cap), (3, .pointer (some ⟨bk, 0, none⟩)), (4, .pointer (some ⟨b19, 0, none⟩)), (5, .int .i64 (q_.1 : Int))]) (fun q_ w => q_.1 ≤ l.length ∧ Le F q_.2.2.1 ∧ CtlR q_.2.2.1 q_.2.2.2.1 bk [107] q_.2.1 ∧ CtlQ q_.2.2.1 q_.2.2.2.2 b19 [107] q_.2.1 ∧ okJ q_.2.1 ∧ (∀ x ∈ q_.2.1, x.once) ∧ St W q_.2.2.1 (q_.2.2.2.1 :: q_.2.2.2.2 :: cs) w) (fun q_ => l.length - q_.1) (⟨0, [], F, rk, rq⟩) (⟨Nat.zero_le _, Le.refl F, hC0, hQ0, okJ.nil, (fun x hx => by cases hx), hSq⟩) ?_
  rintro ⟨i, js, G, r1, r2⟩ w4 ⟨hi, hle, hC, hQ, hokj, hnd, hL⟩
  try dsimp only at hi hle hC hQ hokj hnd hL
  refine O2 [(0, .slice A l.length cap), (3, .pointer (some ⟨bk, 0, none⟩)), (4, .pointer (some ⟨b19, 0, none⟩)), (5, .int .i64 (i : Int))] ?_
  have hleF := hle
  refine K0<|Wi<|WL.e 2 rfl<|WL.v (Q0 (n := (l.length : Int)) (U0 underlying22 rfl rfl) rfl) rfl<|WL.e 1 rfl<|Wa<|V0 rfl (fun c5 => ?_) (fun c5 => ?_)
  ·try simp only [DD] at c5
   refine L0<|C0<|K0<|WC.block<|Wi<|WL.e 1 rfl<|N1 can19 rfl rfl (job1_e _ hL hC hokj) ?_
   rintro _ w6 ⟨Ga, ra, Aa, ca, Ba, da, hGa, rfl, hxa, hva, hCa, h6⟩
   refine ⟨_, rfl, ?_⟩
   replace hleF := Le.trans hleF hGa
   replace hC := hCa
   replace hQ := hQ.mono hGa
   refine WL.e 3 rfl<|Z1 rfl h6 inf54 fun b6 w7 h7=>X1 h7 0 rfl rfl rfl inf54 rfl rfl rfl (Free.zero _) ?_
   intro  w8 h8
   try simp only [ZZ] at h8
   refine WL.e 1 rfl<|WL.nil (C0 (K0 ?_))
   obtain ⟨G6, hG6, hfr6, h8⟩ := h8.freeze (i := 0) rfl
   have hfz6 : G6 b6 = some (.cells #[Vi (js.getD 0 J0).id, Vi (js.getD 0 J0).ep, Vi (js.getD 0 J0).ph, Vi (js.getD 0 J0).ft, Vi (js.getD 0 J0).cd, .slice Aa (js.getD 0 J0).cs.length ca, .slice Ba (votesM (js.getD 0 J0)).length da] 54 (0, 0)) := hfr6 _ List.mem_cons_self
   replace h8 : St W G6 (ra :: r2 :: cs) w8 := h8
   replace hC := hC.mono hG6
   replace hQ := hQ.mono hG6
   replace hleF := Le.trans hleF hG6
   replace hxa := hxa.mono hG6
   have hi2 : i < l.length := by omega
   obtain ⟨ad, A1, cap1, B1, cap2, rfl, hA1, hS1, hsl, hcell⟩ := opAt (hR.mono hleF) hi2
   have hsm := fewO.at_ hfew hi2
   refine I0<|WL.e 4 rfl<|WL.v (E2 underlying22 inf38 rfl rfl (n := i) rfl (by omega)) rfl<|WL.v (O1 (u := .agg #[Vi (l.getD i O0).d, .slice A1 (l.getD i O0).ns.length cap1, .slice B1 (l.getD i O0).ss.length cap2, Vi (l.getD i O0).n, .string (bs (l.getD i O0).tx), Vi (l.getD i O0).now]) (V4 h8 hcell underlying38 rfl inf38 rfl rfl) rfl) rfl<|WL.cv can13 rfl rfl (does_c _ h8 hC hQ hokj.ok hnd hokj.len hA1 hS1 hsm.1 hsm.2.1 hsm.2.2) fun w9 ⟨G9, r8, r9, hG9, hC9, hQ9, h9⟩ => ?_
   replace hleF := Le.trans hleF hG9
   replace hxa := hxa.mono hG9
   replace hfz6 := hG9 _ _ hfz6
   replace hC := hC9
   replace hQ := hQ9
   refine We<|WL.e 1 rfl<|N1 can19 rfl rfl (job1_e _ h9 hC (hokj.run (l.getD i O0))) ?_
   rintro _ w10 ⟨Gb, rb, Ab, cb, Bb, db, hGb, rfl, hxb, hvb, hCb, h10⟩
   refine ⟨_, rfl, ?_⟩
   replace hleF := Le.trans hleF hGb
   replace hxa := hxa.mono hGb
   replace hfz6 := hGb _ _ hfz6
   replace hC := hCb
   replace hQ := hQ.mono hGb
   refine WL.e 3 rfl<|Z1 rfl h10 inf54 fun b8 w11 h11=>X1 h11 0 rfl rfl rfl inf54 rfl rfl rfl (Free.zero _) ?_
   intro  w12 h12
   try simp only [ZZ] at h12
   refine WL.e 1 rfl<|WL.nil (C0 (K0 (K0 ?_)))
   obtain ⟨G8, hG8, hfr8, h12⟩ := h12.freeze (i := 0) rfl
   have hfz8 : G8 b8 = some (.cells #[Vi (((l.getD i O0).run js).getD 0 J0).id, Vi (((l.getD i O0).run js).getD 0 J0).ep, Vi (((l.getD i O0).run js).getD 0 J0).ph, Vi (((l.getD i O0).run js).getD 0 J0).ft, Vi (((l.getD i O0).run js).getD 0 J0).cd, .slice Ab (((l.getD i O0).run js).getD 0 J0).cs.length cb, .slice Bb (votesM (((l.getD i O0).run js).getD 0 J0)).length db] 54 (0, 0)) := hfr8 _ List.mem_cons_self
   replace h12 : St W G8 (rb :: r9 :: cs) w12 := h12
   replace hC := hC.mono hG8
   replace hQ := hQ.mono hG8
   replace hleF := Le.trans hleF hG8
   replace hxb := hxb.mono hG8
   replace hfz6 := hG8 _ _ hfz6
   replace hxa := hxa.mono hG8
   rcases Nat.eq_zero_or_pos js.length with hj0 | hj0
   ·skip
    refine I0<|WL.v (Bf (M2 rfl) (decide_eq_false (by omega))) rfl<|WL.e 4 rfl<|L3 rfl rfl rfl<|L3 rfl rfl rfl<|L3 rfl rfl rfl<|L3 rfl rfl rfl<|L3 rfl rfl rfl<|WL.e 2 rfl<|Wa<|W0 rfl (rfl)<|L0<|C0<|K0<|Wi<|WL.v (Bf (M2 rfl) (decide_eq_false (by omega))) rfl<|WL.v (Bt (F1 rfl) rfl) rfl<|WL.e 7 rfl<|Wa<|C1 rfl (rfl)<|WC.exit<|U1<|V1<|C0<|I0<|WL.e 1 rfl<|WL.v (R0 rfl rfl (by omega)) rfl<|WL.e 1 rfl<|WL.nil<|Z0 (⟨i + 1, (l.getD i O0).run js, G8, rb, r9⟩ : Nat × List J × Snap × Res × Res) (by show l.length - (i + 1) < l.length - i; omega) ⟨rfl, rfl, rfl, rfl, trivial⟩ ⟨by show i + 1 ≤ _; omega, hleF, hC, hQ, hokj.run _, once_run hnd _, h12⟩
   ·obtain ⟨hj1, hfo1, hfo2⟩ := fol_run hokj (l.getD i O0) hj0
    have hk0 := hokj.ok _ (getD_mem (d := J0) hj0)
    have hxl : (js.getD 0 J0).cs.length ≤ 16 := by rw [hk0.lc]; exact (Dg.chk_ok hk0.ss).2.1.2
    refine I0<|WL.v (Bt (M2 rfl) (decide_eq_true hj0)) rfl<|WL.e 2 rfl<|WL.gn rfl<|WL.v (Bf (F1 rfl) (by rw [decide_eq_true hj1]; rfl)) rfl<|WL.e 2 rfl<|WL.gn rfl<|WL.v (H0 underlying3 rfl rfl (h12.cell (cellB hfz8 rfl))) rfl<|WL.e 1 rfl<|WL.gn rfl<|WL.v (H0 underlying3 rfl rfl (h12.cell (cellB hfz6 rfl))) rfl<|WL.gn rfl<|WL.v (Bf (J1 rfl rfl) (decide_eq_false (by omega))) rfl<|WL.e 2 rfl<|Wa<|W0 rfl (rfl)<|L0<|C0<|K0<|Wi<|WL.v (Bt (M2 rfl) (decide_eq_true hj0)) rfl<|WL.v (Bf (F1 rfl) rfl) rfl<|WL.e 2 rfl<|WL.gn rfl<|WL.v (H0 underlying3 rfl rfl (h12.cell (cellB hfz8 rfl))) rfl<|WL.e 1 rfl<|WL.gn rfl<|WL.v (H0 underlying3 rfl rfl (h12.cell (cellB hfz6 rfl))) rfl<|WL.e 2 rfl<|Wa<|V0 rfl (fun c13 => ?_) (fun c13 => ?_)
    ·try simp only [DD] at c13
     refine WC.exit<|U1<|V1<|C0<|I0<|WL.e 1 rfl<|WL.v (R0 rfl rfl (by omega)) rfl<|WL.e 1 rfl<|WL.nil<|Z0 (⟨i + 1, (l.getD i O0).run js, G8, rb, r9⟩ : Nat × List J × Snap × Res × Res) (by show l.length - (i + 1) < l.length - i; omega) ⟨rfl, rfl, rfl, rfl, trivial⟩ ⟨by show i + 1 ≤ _; omega, hleF, hC, hQ, hokj.run _, once_run hnd _, h12⟩
    ·try simp only [DD] at c13
     refine L0 (C0 (K0 (K0 ?_)))
     obtain ⟨hfo3, hfo4, hfo5⟩ := hfo2 (by omega)
     refine I0<|WL.e 1 rfl<|WL.v (H0 underlying3 rfl rfl (h12.cell (cellB hfz8 rfl))) rfl<|WL.e 1 rfl<|WL.v (H0 underlying3 rfl rfl (h12.cell (cellB hfz6 rfl))) rfl<|WL.v (Bf (J1 rfl rfl) (decide_eq_false (by omega))) rfl<|WL.e 2 rfl<|WL.gn rfl<|WL.v (H0 underlying33 rfl rfl (h12.cell (cellB hfz8 rfl))) rfl<|WL.gn rfl<|WL.v (U0 underlying33 rfl rfl) rfl<|WL.e 1 rfl<|WL.gn rfl<|WL.v (H0 underlying33 rfl rfl (h12.cell (cellB hfz6 rfl))) rfl<|WL.gn rfl<|WL.v (U0 underlying33 rfl rfl) rfl<|WL.gn rfl<|WL.v (Bf (T1 rfl rfl) (by rw [decide_eq_true (by rw [hfo4])]; rfl)) rfl<|WL.e 1 rfl<|Wa<|W0 rfl (rfl)<|Wk<|WL.e 1 rfl<|Wj<|WC.lp (σ := Nat) (fun q_ => [(0, .slice (some ad) l.length cap), (3, .pointer (some ⟨bk, 0, none⟩)), (4, .pointer (some ⟨b19, 0, none⟩)), (5, .int .i64 (i : Int)), (6, .pointer (some ⟨b6, 0, none⟩)), (8, .pointer (some ⟨b8, 0, none⟩)), (10, .int .i64 (q_ : Int))]) (fun q_ w => q_ ≤ (js.getD 0 J0).cs.length ∧ St W G8 (rb :: r9 :: cs) w) (fun q_ => (js.getD 0 J0).cs.length - q_) (0) (⟨Nat.zero_le _, h12⟩) ?_
     rintro n w14 ⟨hn, hL⟩
     try dsimp only at hn hL
     refine O2 [(0, .slice (some ad) l.length cap), (3, .pointer (some ⟨bk, 0, none⟩)), (4, .pointer (some ⟨b19, 0, none⟩)), (5, .int .i64 (i : Int)), (6, .pointer (some ⟨b6, 0, none⟩)), (8, .pointer (some ⟨b8, 0, none⟩)), (10, .int .i64 (n : Int))]<|K0<|Wi<|WL.e 2 rfl<|WL.v (H0 underlying33 rfl rfl (hL.cell (cellB hfz6 rfl))) rfl<|WL.v (Q0 (n := ((js.getD 0 J0).cs.length : Int)) (U0 underlying33 rfl rfl) rfl) rfl<|WL.e 1 rfl<|Wa<|V0 rfl (fun c15 => ?_) (fun c15 => ?_)
     ·try simp only [DD] at c15
      refine L0 (C0 (K0 (WC.block (K0 ?_))))
      obtain ⟨aa, hAa, hra⟩ := rd1 hxa (by omega)
      obtain ⟨ab, hAb, hrb⟩ := rd1 hxb (by omega)
      by_cases hxy : (js.getD 0 J0).cs.getD n 0 = -1
      ·skip
       refine N2 hL hL (fun s_ => ([] : List Nat).any (Nat.beq s_)) mixed (by kernel_rfl)<|fun hx =>fun w16 h16=>WE.e hx [0, 2] rfl<|B3 12 hx 1 (by rfl) (fun w_ hE_ => H0 underlying33 rfl rfl (hE_.cell (cellB hfz6 rfl))) rfl<|Q2 hx 3 (by rfl) (fun w_ => Z2 hAa underlying33 inf3 rfl rfl (n := n) rfl (by omega)) rfl<|B3 12 hx 4 (by rfl) (fun w_ hE_ => H1 (f := Vi) (0 : Int) hE_ hra (n := n) (by omega) underlying3 rfl rfl) rfl<|Q2 hx 5 (by rfl) (fun w_ => Bf (T1 rfl rfl) (by rw [decide_eq_true hxy]; rfl)) rfl<|WE.e hx [6, 7, 8, 9, 10, 11, 12, 13, 14, 15, 16, 17, 18] rfl<|WE.fin (.inr h16) (by kernel_rfl)<|C0<|W0 rfl (rfl)<|L0<|WN.blk<|C0<|I0<|WL.e 1 rfl<|WL.v (R0 rfl rfl (by omega)) rfl<|WL.e 1 rfl<|WL.nil<|Z0 (n + 1) (by omega) ⟨rfl, rfl, rfl, rfl, rfl, rfl, rfl, trivial⟩ ⟨by omega, h16⟩
      ·skip
       refine N2 hL hL (fun s_ => ([] : List Nat).any (Nat.beq s_)) mixed (by kernel_rfl)<|fun hx =>fun w17 h17=>WE.e hx [0, 2] rfl<|B3 12 hx 1 (by rfl) (fun w_ hE_ => H0 underlying33 rfl rfl (hE_.cell (cellB hfz6 rfl))) rfl<|Q2 hx 3 (by rfl) (fun w_ => Z2 hAa underlying33 inf3 rfl rfl (n := n) rfl (by omega)) rfl<|B3 12 hx 4 (by rfl) (fun w_ hE_ => H1 (f := Vi) (0 : Int) hE_ hra (n := n) (by omega) underlying3 rfl rfl) rfl<|Q2 hx 5 (by rfl) (fun w_ => Bt (T1 rfl rfl) (by rw [decide_eq_false hxy]; rfl)) rfl<|WE.e hx [6, 7, 9, 12, 14] rfl<|K4 (j := 6) (b := true) 12 hx 8 (by rfl) ⟨_, _, rfl, rfl, rfl⟩ (fun w_ hE_ => H0 underlying33 rfl rfl (hE_.cell (cellB hfz8 rfl))) rfl<|T3 (j := 6) (b := true) hx 10 (by rfl) ⟨_, _, rfl, rfl, rfl⟩ (fun w_ => Z2 hAb underlying33 inf3 rfl rfl (n := n) rfl (by omega)) rfl<|K4 (j := 6) (b := true) 12 hx 11 (by rfl) ⟨_, _, rfl, rfl, rfl⟩ (fun w_ hE_ => H1 (f := Vi) (0 : Int) hE_ hrb (n := n) (by omega) underlying3 rfl rfl) rfl<|K4 (j := 6) (b := true) 12 hx 13 (by rfl) ⟨_, _, rfl, rfl, rfl⟩ (fun w_ hE_ => H0 underlying33 rfl rfl (hE_.cell (cellB hfz6 rfl))) rfl<|T3 (j := 6) (b := true) hx 15 (by rfl) ⟨_, _, rfl, rfl, rfl⟩ (fun w_ => Z2 hAa underlying33 inf3 rfl rfl (n := n) rfl (by omega)) rfl<|K4 (j := 6) (b := true) 12 hx 16 (by rfl) ⟨_, _, rfl, rfl, rfl⟩ (fun w_ hE_ => H1 (f := Vi) (0 : Int) hE_ hra (n := n) (by omega) underlying3 rfl rfl) rfl<|T3 (j := 6) (b := true) hx 17 (by rfl) ⟨_, _, rfl, rfl, rfl⟩ (fun w_ => Bf (T1 rfl rfl) (by rw [decide_eq_true (hfo5 n hxy)]; rfl)) rfl<|WE.e hx [18] rfl<|WE.fin (.inr h17) (by kernel_rfl)<|C0<|W0 rfl (rfl)<|L0<|WN.blk<|C0<|I0<|WL.e 1 rfl<|WL.v (R0 rfl rfl (by omega)) rfl<|WL.e 1 rfl<|WL.nil<|Z0 (n + 1) (by omega) ⟨rfl, rfl, rfl, rfl, rfl, rfl, rfl, trivial⟩ ⟨by omega, h17⟩
     ·try simp only [DD] at c15
      refine WC.exit<|U1<|WX.cut<|V1<|WN.blk<|C0<|I0<|WL.e 1 rfl<|WL.v (R0 rfl rfl (by omega)) rfl<|WL.e 1 rfl<|WL.nil<|Z0 (⟨i + 1, (l.getD i O0).run js, G8, rb, r9⟩ : Nat × List J × Snap × Res × Res) (by show l.length - (i + 1) < l.length - i; omega) ⟨rfl, rfl, rfl, rfl, trivial⟩ ⟨by show i + 1 ≤ _; omega, hleF, hC, hQ, hokj.run _, once_run hnd _, hL⟩
  ·try simp only [DD] at c5
   refine WC.exit<|U1<|WX.cut<|V1<|C0<|Wi<|WL.cv can11 rfl rfl (live_c _ hL) fun w18 ⟨G18, hG18, h18⟩ => ?_
   replace hleF := Le.trans hleF hG18
   refine WL.e 1 rfl<|Wg<|ret1 rfl rfl ⟨rfl, (((h18.drop 0).drop 0)).weak hleF⟩
 ·skip
  refine I0<|WL.e 1 rfl<|WL.cv can10 rfl rfl (smallO_c _ 50 h hR hl) fun w19 h19 =>WL.v (Bt (F1 rfl) (by rw [hfew]; rfl)) rfl<|Wa<|C1 rfl (rfl)<|Wi<|WL.cv can11 rfl rfl (live_c _ h19) fun w20 ⟨G20, hG20, h20⟩ => ?_
  replace hleF := Le.trans hleF hG20
  refine WL.e 1 rfl<|Wg<|ret1 rfl rfl ⟨rfl, h20.weak hleF⟩
theorem codes_row {cs : List Res} (w : World) {A : Option Addr} {cap : Nat} {l : List O} (h : St W F cs w) (hR : RdS KO F A l) (hl : l.length ≤ 9223372036854775807) : Calls prog 5 #[.slice A l.length cap] w fun r w' => r = .returned (.bool true) ∧ St W F cs w' := codes_law w (cap := cap) h hR hl
theorem held_mono {ss : List S} {c d : List Int} {i : Nat} (hcd : ∀ j, c.getD j 0 ≠ -1 → d.getD j 0 = c.getD j 0) (h : heldAt ss c i) : heldAt ss d i := fun k hk => holds_mono hcd (h k hk)
theorem stlS_keeps {l : List S} {c : List Int} {x : Int} {j : Nat} (h : c.getD j 0 ≠ -1) : (Dg.stlS l c x).getD j 0 = c.getD j 0 := by
 rcases (Dg.stlS_le l c x).2 j with h1 | ⟨h1, _⟩
 ·exact h1.symm
 ·exact absurd h1 h
theorem stlS_held {l : List S} {c : List Int} {x : Int} {i : Nat} (h : heldAt l c i) : (Dg.stlS l c x).getD i 0 = c.getD i 0 := by
 unfold Dg.stlS
 split
 ·rename_i h1
  rw [getD_set]
  split
  ·rename_i h2
   exfalso
   obtain ⟨e, he, hf⟩ := List.any_eq_true.1 h1.2
   obtain ⟨k, hk, rfl⟩ := List.getElem_of_mem he
   rw [h2.1] at hk
   have h3 := h k hk
   rw [List.getD_eq_getElem?_getD, List.getElem?_eq_getElem hk] at h3
   have h3 : Dg.holdsM ((l.getD i S0).af[k]) c = true := h3
   have h4 : ((l.getD x.toNat S0).af[k]'(by rw [h2.1]; exact hk)) = ((l.getD i S0).af[k]) := by simp only [h2.1]
   rw [h4] at hf
   unfold Dg.failM at hf
   rw [h3] at hf
   simp at hf
  ·rfl
 ·rfl
theorem stlF_held {l : List S} {i : Nat} : ∀ (xs c : List Int), heldAt l c i → (Dg.stlF l xs c).getD i 0 = c.getD i 0
 |[], c, _ => rfl
 |x :: xs, c, h => by
  have h1 := stlF_held xs (Dg.stlS l c x) (held_mono (fun j hj => stlS_keeps hj) h)
  exact h1.trans (stlS_held h)
theorem settle_held {l : List S} {c : List Int} {i : Nat} (hw : withM l c = 0) (h : heldAt l c i) : (settleM l c).getD i 0 = c.getD i 0 := by
 unfold settleM
 rw [if_pos hw]
 exact stlF_held _ _ h
theorem seen_get (ak : Bool) : ∀ (cs : List Int) (ts : List (Option T)) (j : Nat), ts.length = cs.length → j < cs.length → (seen ak cs ts).getD j 0 = cod ak (cs.getD j 0) (ts.getD j none)
 |[], _, j, _, h => absurd h (Nat.not_lt_zero _)
 |c :: cs, [], j, hl, _ => by cases hl
 |c :: cs, t :: ts, 0, _, _ => rfl
 |c :: cs, t :: ts, j + 1, hl, h => seen_get ak cs ts j (by simpa using hl) (by simpa using h)
structure J.inv (x : J) : Prop where
 he : ∀ i t, x.ts.getD i none = some t → heldAt x.ss x.cs i
 op : ∀ i t, x.ts.getD i none = some t → (t.state = 0 ∨ t.state = 1) → x.cs.getD i 0 = -1
 fi : 2 ≤ x.ph → ∀ i t, x.ts.getD i none = some t → t.state = 2 ∨ t.state = 3
 nu : x.ph = 0 → ∀ i, x.ts.getD i none = none
theorem T.state4 (t : T) : t.state = 0 ∨ t.state = 1 ∨ t.state = 2 ∨ t.state = 3 := by
 unfold Tal.T.state
 split
 ·exact .inr (.inr (.inl rfl))
 ·split
  ·exact .inl rfl
  ·split
   ·exact .inr (.inl rfl)
   ·exact .inr (.inr (.inr rfl))
theorem says_stay {t : T} {m : M} (h0 : t.state ≠ 0) (h1 : t.state ≠ 1) : (says t m).2 = t := by
 unfold says
 split
 ·exact Tal.vote_stay h0
 ·exact Tal.exit_stay h1
theorem says_01 {t : T} {m : M} (h : (says t m).2.state = 0 ∨ (says t m).2.state = 1) : t.state = 0 ∨ t.state = 1 := by
 by_cases h0 : t.state = 0
 ·exact .inl h0
 ·by_cases h1 : t.state = 1
  ·exact .inr h1
  ·rw [says_stay h0 h1] at h
   exact h
theorem J.inv.mid {x : J} (h : x.inv) (hok : x.ok) : (∀ i t, x.mid.ts.getD i none = some t → heldAt x.mid.ss x.mid.cs i) ∧ (∀ i t, x.mid.ts.getD i none = some t → (t.state = 0 ∨ t.state = 1) → x.mid.cs.getD i 0 = -1) := by
 refine ⟨fun i t ht => ?_, fun i t ht hs => ?_⟩
 ·rcases opnL_get ht with h1 | ⟨_, y, hy, rfl⟩
  ·exact held_mono (fun j hj => cs'_keeps hok hj) (h.he i t h1)
  ·exact (Dg.ready_at (Dg.settle_with hok.with0) hy).2.2
 ·rcases opnL_get ht with h1 | ⟨_, y, hy, rfl⟩
  ·have hc := h.op i t h1 hs
   have hi : i < x.cs.length := by have := getD_lt h1; rw [hok.lt] at this; rw [hok.lc]; exact this
   have hl := hok.lt.trans hok.lc.symm
   have e : (seen x.ak x.cs x.ts).getD i 0 = -1 := by
    rw [seen_get _ _ _ _ hl hi, hc, h1]
    unfold cod
    rw [if_neg (fun hh => hh rfl)]
    simp only []
    rw [if_neg (by omega), if_neg (by omega)]
   show x.cs'.getD i 0 = -1
   unfold J.cs'
   rw [settle_held hok.with0 (held_mono (fun j hj => seen_keeps _ _ _ _ hl hj) (h.he i t h1)), e]
  ·exact (Dg.ready_at (Dg.settle_with hok.with0) hy).2.1
theorem look_ts (x : J) : x.look.ts = x.mid.ts := by
 unfold J.look J.end_
 split
 ·rfl
 ·split <;> rfl
theorem J.inv.look {x : J} (h : x.inv) (hok : x.ok) (hp : x.ph = 1) : x.look.inv := by
 obtain ⟨a1, a2⟩ := h.mid hok
 have e1 := look_ts x
 have e2 := (look_cs x).1
 have e3 := (look_same x).2.1
 refine ⟨fun i t ht => ?_, fun i t ht hs => ?_, fun hph i t ht => ?_, fun hph => ?_⟩
 ·rw [e2, e3]; exact a1 i t (e1 ▸ ht)
 ·rw [e2]; exact a2 i t (e1 ▸ ht) hs
 ·have ht := e1 ▸ ht
  have ho : (overM x.mid.ss x.mid.cs).2 ≠ false := fun ho => by
   have : x.look.ph = x.mid.ph := by unfold J.look J.end_; rw [if_pos ho]
   have h9 : x.mid.ph = x.ph := rfl
   omega
  unfold overM at ho
  split at ho
  ·exact absurd rfl ho
  ·rename_i hno
   have hi : i < x.mid.ts.length := getD_lt ht
   have hok2 := hok.mid
   have hlc : i < x.mid.cs.length := by rw [hok2.lt] at hi; rw [hok2.lc]; exact hi
   have hst : settleM x.mid.ss x.mid.cs = x.mid.cs := Dg.settle_twice hok.with0
   rw [hst] at hno
   have hne : x.mid.cs.getD i 0 ≠ -1 := fun e => hno (.inr (e ▸ getD_mem hlc))
   rcases T.state4 t with h0 | h0 | h0 | h0
   ·exact absurd (a2 i t ht (.inl h0)) hne
   ·exact absurd (a2 i t ht (.inr h0)) hne
   ·exact .inl h0
   ·exact .inr h0
 ·rcases (look_cs x).2 with h9 | h9 <;> omega
theorem J.inv.same {x y : J} (h : x.inv) (ht : y.ts = x.ts) (hs : y.ss = x.ss) (hc : y.cs = x.cs) (hp : y.ph = x.ph ∨ (x.ph = 0 ∧ y.ph = 1) ∨ (x.ph = 2 ∧ y.ph = 3)) : y.inv := ⟨fun i t h1 => by rw [hs, hc]; exact h.he i t (ht ▸ h1), fun i t h1 h2 => by rw [hc]; exact h.op i t (ht ▸ h1) h2, fun h2 i t h1 => h.fi (by omega) i t (ht ▸ h1), fun h0 i => by rw [ht]; exact h.nu (by omega) i⟩
theorem none_get (n i : Nat) : (List.replicate n (none : Option T)).getD i none = none := by
 rw [List.getD_eq_getElem?_getD, List.getElem?_replicate]
 split <;> rfl
theorem inv_begin (x : J) : x.begin.inv := by
 have e : ∀ i, x.begin.ts.getD i none = none := fun i => none_get _ i
 exact ⟨fun i t h => (by rw [e] at h; cases h), fun i t h => (by rw [e] at h; cases h), fun _ i t h => (by rw [e] at h; cases h), fun _ => e⟩
theorem J.inv.fin {x : J} (h : x.inv) (hp : x.ph = 0) (a b : Int) : (x.fin a b).inv := by
 have e : ∀ i, (x.fin a b).ts.getD i none = none := h.nu hp
 exact ⟨fun i t h => (by rw [e] at h; cases h), fun i t h => (by rw [e] at h; cases h), fun _ i t h => (by rw [e] at h; cases h), fun h0 => (by cases h0)⟩
theorem J.inv.put {x : J} {m : M} {t : T} (h : x.inv) (hp : x.ph = 1) (ht : x.ts.getD m.st.toNat none = some t) : (x.put m.st.toNat (says t m).2).inv := by
 have key : ∀ i u, (x.put m.st.toNat (says t m).2).ts.getD i none = some u → (u = (says t m).2 ∧ i = m.st.toNat) ∨ x.ts.getD i none = some u := fun i u hu => by
  have hu : (x.ts.set m.st.toNat (some (says t m).2)).getD i none = some u := hu
  rw [getD_set] at hu
  split at hu
  ·rename_i h1
   exact .inl ⟨(Option.some.inj hu).symm, h1.1.symm⟩
  ·exact .inr hu
 refine ⟨fun i u hu => ?_, fun i u hu hs => ?_, fun h2 => ?_, fun h0 => ?_⟩
 ·rcases key i u hu with ⟨_, rfl⟩ | h1
  ·exact h.he _ t ht
  ·exact h.he i u h1
 ·rcases key i u hu with ⟨rfl, rfl⟩ | h1
  ·exact h.op _ t ht (says_01 hs)
  ·exact h.op i u h1 hs
 ·have h2 : 2 ≤ x.ph := h2
  omega
 ·have h0 : x.ph = 0 := h0
  omega
theorem J.inv.cancel {x : J} (h : x.inv) (hok : x.ok) : x.cancel.inv := by
 unfold J.cancel
 split
 ·rename_i hp
  exact J.inv.look (x := x.ask) (h.same rfl rfl rfl (.inl rfl)) hok.ask hp
 ·exact h.same rfl rfl rfl (.inl rfl)
theorem J.inv.hear {x : J} (h : x.inv) (hok : x.ok) {m : M} (hm : x.mine m) : (x.hear m).2.inv := by
 unfold J.hear
 split
 ·rename_i hp
  show (x.started m.f m.ar).inv
  unfold J.started
  have hR : (x.hasR m.f).inv := h.same rfl rfl rfl (.inl rfl)
  split
  ·split
   ·exact J.inv.look (x := (x.hasR m.f).run) (hR.same rfl rfl rfl (.inr (.inl ⟨hp.2, rfl⟩))) (hok.hasR hm.2.2).run rfl
   ·exact hR
  ·split
   ·exact h.fin hp.2 _ _
   ·exact h.fin hp.2 _ _
 ·split
  ·rename_i hp
   unfold J.said
   split
   ·exact h
   ·split
    ·exact h
    ·rename_i t ht
     split
     ·exact h
     ·exact J.inv.look (h.put hp.2 ht) (hok.put ((hok.tk (ht ▸ getD_mem (getD_lt ht))).says m)) hp.2
  ·split
   ·rename_i hp
    show (x.left m.f).inv
    unfold J.left
    split
    ·exact h.same rfl rfl rfl (.inl rfl)
    ·split
     ·exact inv_begin _
     ·exact h.same rfl rfl rfl (.inr (.inr ⟨hp.2, rfl⟩))
   ·exact h
theorem look_id (x : J) : x.look.id = x.id := (look_same x).2.2.2
theorem cancel_id (x : J) : x.cancel.id = x.id := by
 unfold J.cancel
 split
 ·exact look_id x.ask
 ·rfl
theorem hear_id (x : J) (m : M) : (x.hear m).2.id = x.id := by
 unfold J.hear
 split
 ·show (x.started m.f m.ar).id = x.id
  unfold J.started
  split
  ·split
   ·exact look_id _
   ·rfl
  ·split <;> rfl
 ·split
  ·unfold J.said
   split
   ·rfl
   ·split
    ·rfl
    ·split
     ·rfl
     ·exact look_id _
  ·split
   ·show (x.left m.f).id = x.id
    unfold J.left
    split
    ·rfl
    ·split <;> rfl
   ·rfl
structure okL (js : List J) : Prop where
 iv : ∀ x ∈ js, x.inv
 id : ∀ (k : Nat) x, js[k]? = some x → x.id = (k : Int) + 1
theorem okL.nil : okL [] := ⟨fun x hx => (by cases hx), fun k x hx => (by simp at hx)⟩
theorem okL.set {js : List J} {i : Nat} {x y : J} (h : okL js) (hx : js[i]? = some x) (hy : y.inv) (hid : y.id = x.id) : okL (js.set i y) := ⟨fun z hz => by
 rcases List.mem_or_eq_of_mem_set hz with hz | rfl
 ·exact h.iv z hz
 ·exact hy, fun k z hz => by
 rw [List.getElem?_set] at hz
 split at hz
 ·rename_i e
  split at hz
  ·obtain rfl := Option.some.inj hz
   rw [hid, h.id i x hx, e]
  ·cases hz
 ·exact h.id k z hz⟩
theorem okL.run {js : List J} (h : okL js) (hok : okJ js) (o : O) : okL (o.run js) := by
 unfold O.run
 split
 ·unfold subM
  split
  ·refine ⟨fun z hz => ?_, fun k z hz => ?_⟩
   ·rcases List.mem_append.1 hz with hz | hz
    ·exact h.iv z hz
    ·obtain rfl := List.mem_singleton.1 hz
     exact inv_begin _
   ·have hz : (js ++ [newJ o.ns o.ss js.length])[k]? = some z := hz
    rw [List.getElem?_append] at hz
    split at hz
    ·exact h.id k z hz
    ·rename_i hk
     rw [List.getElem?_singleton] at hz
     split at hz
     ·obtain rfl := Option.some.inj hz
      show ((js.length : Int) + 1) = k + 1
      omega
     ·cases hz
  ·exact h
 ·split
  ·unfold canM
   split
   ·exact h
   ·split
    ·exact h
    ·rename_i i hi _ x hx
     split
     ·exact h
     ·exact h.set hx ((h.iv x (List.mem_of_getElem? hx)).cancel (hok.ok x (List.mem_of_getElem? hx))) (cancel_id x)
  ·split
   ·unfold delM
    split
    ·exact h
    ·split
     ·exact h
     ·split
      ·exact h
      ·rename_i i hi _ x hx
       split
       ·rename_i hm
        exact h.set hx ((h.iv x (List.mem_of_getElem? hx)).hear (hok.ok x (List.mem_of_getElem? hx)) hm) (hear_id x _)
       ·exact h
   ·exact h
theorem out_j {x : J} {key : List UInt8} {now : Int} {m : M} (hm : m ∈ x.out key now) : m.j = x.id ∧ x.ph ≠ 3 := by
 unfold J.out at hm
 split at hm
 ·rename_i hp
  obtain ⟨n, _, rfl⟩ := List.mem_map.1 hm
  exact ⟨rfl, by omega⟩
 ·split at hm
  ·rename_i hp
   refine ⟨?_, by omega⟩
   obtain ⟨i, _, hi⟩ := List.mem_flatMap.1 hm
   unfold J.stepO at hi
   split at hi
   ·cases hi
   ·split at hi
    ·obtain ⟨n, _, rfl⟩ := List.mem_map.1 hi; rfl
    ·split at hi
     ·obtain ⟨n, _, hn⟩ := List.mem_flatMap.1 hi
      rcases List.mem_cons.1 hn with rfl | hn
      ·rfl
      ·split at hn
       ·obtain rfl := List.mem_singleton.1 hn; rfl
       ·cases hn
     ·split at hi
      ·obtain ⟨n, _, rfl⟩ := List.mem_map.1 hi; rfl
      ·cases hi
  ·split at hm
   ·rename_i hp
    refine ⟨?_, by omega⟩
    obtain ⟨n, _, hn⟩ := List.mem_flatMap.1 hm
    rcases List.mem_append.1 hn with hn | hn
    ·obtain ⟨j, _, rfl⟩ := List.mem_map.1 hn; rfl
    ·obtain rfl := List.mem_singleton.1 hn; rfl
   ·cases hm
theorem dec_enc_j (m : M) : decB (encB m) = (m, 0) ∨ (decB (encB m)).1.j = 0 := by
 by_cases h : mayM m
 ·exact .inl (Wir.decB_enc h)
 ·right
  have e : encB m = [] := if_neg h
  rw [e]
  rfl
theorem over_quiet {js : List J} (h : okL js) {k : Nat} {x : J} (hx : js[k]? = some x) (hp : x.ph = 3) {key : List UInt8} {now : Int} {b : List UInt8} (hb : b ∈ outM js key now) : (decB b).1.j ≠ (k : Int) + 1 := by
 unfold outM at hb
 obtain ⟨m, hm, rfl⟩ := List.mem_map.1 hb
 obtain ⟨y, hy, hm⟩ := List.mem_flatMap.1 hm
 obtain ⟨q, hq, rfl⟩ := List.getElem_of_mem hy
 have hyq : js[q]? = some js[q] := List.getElem?_eq_getElem hq
 obtain ⟨e1, e2⟩ := out_j hm
 rcases dec_enc_j m with h1 | h1
 ·rw [h1]
  intro e
  have e : m.j = (k : Int) + 1 := e
  have e4 := h.id q _ hyq
  have : q = k := by omega
  subst this
  rw [hyq] at hx
  obtain rfl := Option.some.inj hx
  exact e2 hp
 ·rw [h1]; omega
theorem votes_get {x : J} {n : Nat} (h : n < x.ts.length) : (votesM x).getD n 0 = match x.ts.getD n none with
 |none => -1
 |some t => t.state := by
 unfold votesM
 rw [List.getD_eq_getElem?_getD, List.getD_eq_getElem?_getD, List.getElem?_map, List.getElem?_eq_getElem h]
 rfl
theorem over_votes {x : J} (h : x.inv) (hp : 2 ≤ x.ph) {n : Nat} (hn : n < (votesM x).length) : (votesM x).getD n 0 ≠ 1 ∧ (votesM x).getD n 0 ≠ 0 := by
 rw [votes_len] at hn
 rw [votes_get hn]
 split
 ·omega
 ·rename_i t ht
  rcases h.fi hp n t ht with h1 | h1 <;> omega
theorem jobk_e {cs : List Res} (w : World) {b : Nat} {key : List UInt8} {js : List J} {r : Res} (h : St W F (r :: cs) w) (hC : CtlR F r b key js) (hok : okJ js) {k : Nat} (hk : k < js.length) : Calls prog 19 #[.pointer (some ⟨b, 0, none⟩), Vi ((k : Int) + 1)] w fun e w' => ∃ G r' A cap A' cap', Le F G ∧ e = .returned (.tuple #[.agg #[Vi (js.getD k J0).id, Vi (js.getD k J0).ep, Vi (js.getD k J0).ph, Vi (js.getD k J0).ft, Vi (js.getD k J0).cd, .slice A (js.getD k J0).cs.length cap, .slice A' (votesM (js.getD k J0)).length cap'], .bool true]) ∧ RdS (Kd.one Vi) G A (js.getD k J0).cs ∧ RdS (Kd.one Vi) G A' (votesM (js.getD k J0)) ∧ CtlR G r' b key js ∧ St W G (r' :: cs) w' := by
 have hat : at_ js ((k : Int) + 1) = some k := by
  unfold at_
  rw [if_neg (by omega)]
  exact congrArg some (by omega)
 have hx : js[k]? = some (js.getD k J0) := by rw [List.getD_eq_getElem?_getD, List.getElem?_eq_getElem hk]; rfl
 refine (job_ye w h hC _ hok.ok hok.len hat hx).mono ?_
 rintro e w' ⟨G, r', A, cap, A', cap', hG, rfl, h1, h2, hC', hS⟩
 exact ⟨G, r', A, cap, A', cap', hG, rfl, h1, h2, hC', hS⟩
theorem outM_enc {js : List J} {key : List UInt8} {now : Int} {m : Nat} (hm : m < (outM js key now).length) : ((outM js key now).getD m []).length ≤ 100000 := by
 have h := getD_mem (d := []) hm
 unfold outM at h ⊢
 obtain ⟨q, _, e⟩ := List.mem_map.1 h
 rw [← e]
 exact encB_len q
theorem over_law {cs : List Res} (w : World) {A : Option Addr} {cap : Nat} {l : List O} (h : St W F cs w) (hR : RdS KO F A l) (hl : l.length ≤ 9223372036854775807) : Calls prog 9 #[.slice A l.length cap] w fun r w' => r = .returned (.bool true) ∧ St W F cs w'  := by
 refine enter (args := [.slice A l.length cap]) func9 rfl rfl rfl ?_
 have hleF : Le F F := Le.refl F
 refine Wi<|WL.e 1 rfl<|WL.nil (C0 (K0 (K0 ?_)))
 rcases Bool.eq_false_or_eq_true (fewO l 50) with hfew | hfew
 ·skip
  refine I0<|WL.e 1 rfl<|WL.cv can10 rfl rfl (smallO_c _ 50 h hR hl) fun w1 h1 =>WL.v (Bf (F1 rfl) (by rw [hfew]; rfl)) rfl<|Wa<|W0 rfl (rfl)<|Wk<|N1 can12 rfl rfl (new_c _ [107] h1) ?_
  rintro _ w2 ⟨bk, rk, rfl, hC0, h2⟩
  refine ⟨_, rfl,WL.e 1 rfl<|Wh<|WL.e 1 rfl<|WL.v (Y1 underlying25 rfl rfl) rfl<|Wa<|W0 rfl (rfl)<|Wk<|WL.v (I2 (vs := [(0, .string (bs [107]))]) (cells := #[.string (bs [107]), .slice none 0 0]) rfl (by kernel_rfl)) rfl<|WL.box rfl h2 rfl fun b22 w3 h3=>WL.e 1 rfl<|WL.nil (C0 (K0 (K0 ?_)))⟩
  replace h3 : St W F (kQ b22 [107] none 0 0 :: rk :: cs) w3 := h3
  obtain ⟨rq, hQ0, hSq⟩ := CtlQ.close (rj := []) (qs := []) (js := []) (rP := []) (A := none) (cap := 0) (b := b22) (key := [107]) (show St W F (kQ b22 [107] none 0 0 :: [] :: ([] ++ (rk :: cs))) _ from St.flat h3 (by simp)) (Row.nil 98 pj) ⟨rfl, rfl, fun i x hxk => by simp at hxk⟩
  replace hSq := St.perm hSq (List.Perm.swap _ _ _)
  refine I0<|WL.e 1 rfl<|Wj<|WC.lp (σ := Nat × List J × Snap × Res × Res) (fun q_ => [(0, .slice A l.length cap), (3, .pointer (some ⟨bk, 0, none⟩)), (4, .pointer (some ⟨b22, 0, none⟩)), (5, .int .i64 (q_.1 : Int))]) (fun q_ w => q_.1 ≤ l.length ∧ Le F q_.2.2.1 ∧ CtlR q_.2.2.1 q_.2.2.2.1 bk [107] q_.2.1 ∧ CtlQ q_.2.2.1 q_.2.2.2.2 b22 [107] q_.2.1 ∧ okJ q_.2.1 ∧ (∀ x ∈ q_.2.1, x.once) ∧ okL q_.2.1 ∧ St W q_.2.2.1 (q_.2.2.2.1 :: q_.2.2.2.2 :: cs) w) (fun q_ => l.length - q_.1) (⟨0, [], F, rk, rq⟩) (⟨Nat.zero_le _, Le.refl F, hC0, hQ0, okJ.nil, (fun x hx => by cases hx), okL.nil, hSq⟩) ?_
  rintro ⟨i, js, G, r1, r2⟩ w4 ⟨hi, hle, hC, hQ, hokj, hnd, hLL, hL⟩
  try dsimp only at hi hle hC hQ hokj hnd hLL hL
  refine O2 [(0, .slice A l.length cap), (3, .pointer (some ⟨bk, 0, none⟩)), (4, .pointer (some ⟨b22, 0, none⟩)), (5, .int .i64 (i : Int))] ?_
  have hleF := hle
  refine K0<|Wi<|WL.e 2 rfl<|WL.v (Q0 (n := (l.length : Int)) (U0 underlying22 rfl rfl) rfl) rfl<|WL.e 1 rfl<|Wa<|V0 rfl (fun c5 => ?_) (fun c5 => ?_)
  ·try simp only [DD] at c5
   refine L0 (C0 (K0 (WC.block (K0 ?_))))
   have hi2 : i < l.length := by omega
   obtain ⟨ad, A1, cap1, B1, cap2, rfl, hA1, hS1, hsl, hcell⟩ := opAt (hR.mono hleF) hi2
   have hsm := fewO.at_ hfew hi2
   refine I0<|WL.e 4 rfl<|WL.v (E2 underlying22 inf38 rfl rfl (n := i) rfl (by omega)) rfl<|WL.v (O1 (u := .agg #[Vi (l.getD i O0).d, .slice A1 (l.getD i O0).ns.length cap1, .slice B1 (l.getD i O0).ss.length cap2, Vi (l.getD i O0).n, .string (bs (l.getD i O0).tx), Vi (l.getD i O0).now]) (V4 hL hcell underlying38 rfl inf38 rfl rfl) rfl) rfl<|WL.cv can13 rfl rfl (does_c _ hL hC hQ hokj.ok hnd hokj.len hA1 hS1 hsm.1 hsm.2.1 hsm.2.2) fun w6 ⟨G9, r8, r9, hG9, hC9, hQ9, h6⟩ => ?_
   replace hleF := Le.trans hleF hG9
   replace hC := hC9
   replace hQ := hQ9
   refine WL.nil (C0 (K0 ?_))
   have hok2 := hokj.run (l.getD i O0)
   have hnd2 := once_run hnd (l.getD i O0)
   have hL2 := hLL.run hokj (l.getD i O0)
   have hjl2 := hok2.len
   generalize (l.getD i O0).run js = js2 at hC hQ hok2 hnd2 hL2 hjl2
   refine I0<|WL.e 1 rfl<|Wj<|WC.lp (σ := Nat × Snap × Res × Res) (fun q_ => [(0, .slice (some ad) l.length cap), (3, .pointer (some ⟨bk, 0, none⟩)), (4, .pointer (some ⟨b22, 0, none⟩)), (5, .int .i64 (i : Int)), (6, .int .i64 ((q_.1 : Int) + 1))]) (fun q_ w => q_.1 ≤ js2.length ∧ Le F q_.2.1 ∧ CtlR q_.2.1 q_.2.2.1 bk [107] js2 ∧ CtlQ q_.2.1 q_.2.2.2 b22 [107] js2 ∧ St W q_.2.1 (q_.2.2.1 :: q_.2.2.2 :: cs) w) (fun q_ => js2.length + 1 - q_.1) (⟨0, G9, r8, r9⟩) (⟨Nat.zero_le _, hleF, hC, hQ, h6⟩) ?_
   rintro ⟨k, G2, r3, r4⟩ w7 ⟨hk, hle2, hC, hQ, hL⟩
   try dsimp only at hk hle2 hC hQ hL
   refine O2 [(0, .slice (some ad) l.length cap), (3, .pointer (some ⟨bk, 0, none⟩)), (4, .pointer (some ⟨b22, 0, none⟩)), (5, .int .i64 (i : Int)), (6, .int .i64 ((k : Int) + 1))] ?_
   have hleF := hle2
   refine K0<|Wi<|WL.e 2 rfl<|WL.cv can20 rfl rfl (jobs_c _ hL hC) fun w8 ⟨rj, hCj, h8⟩ => ?_
   replace hC := hCj
   refine WL.e 1 rfl<|Wa<|V0 rfl (fun c9 => ?_) (fun c9 => ?_)
   ·try simp only [DD] at c9
    refine L0<|C0<|K0<|WC.block<|Wi<|WL.e 2 rfl<|N1 can19 rfl rfl (jobk_e _ h8 hC hok2 (k := k) (by omega)) ?_
    rintro _ w10 ⟨Ga, ra, Aa, ca, Ba, da, hGa, rfl, hxa, hva, hCa, h10⟩
    refine ⟨_, rfl, ?_⟩
    replace hleF := Le.trans hleF hGa
    replace hC := hCa
    replace hQ := hQ.mono hGa
    refine WL.e 3 rfl<|Z1 rfl h10 inf54 fun b7 w11 h11=>X1 h11 0 rfl rfl rfl inf54 rfl rfl rfl (Free.zero _) ?_
    intro  w12 h12
    try simp only [ZZ] at h12
    refine WL.e 1 rfl<|WL.nil (C0 (K0 (K0 ?_)))
    obtain ⟨G7, hG7, hfr7, h12⟩ := h12.freeze (i := 0) rfl
    have hfz7 : G7 b7 = some (.cells #[Vi (js2.getD k J0).id, Vi (js2.getD k J0).ep, Vi (js2.getD k J0).ph, Vi (js2.getD k J0).ft, Vi (js2.getD k J0).cd, .slice Aa (js2.getD k J0).cs.length ca, .slice Ba (votesM (js2.getD k J0)).length da] 54 (0, 0)) := hfr7 _ List.mem_cons_self
    replace h12 : St W G7 (ra :: r4 :: cs) w12 := h12
    replace hC := hC.mono hG7
    replace hQ := hQ.mono hG7
    replace hleF := Le.trans hleF hG7
    replace hva := hva.mono hG7
    have hkl : k < js2.length := by omega
    have hxk : js2[k]? = some (js2.getD k J0) := by rw [List.getD_eq_getElem?_getD, List.getElem?_eq_getElem hkl]; rfl
    have hkx := hok2.ok _ (List.mem_of_getElem? hxk)
    have hvl : (votesM (js2.getD k J0)).length ≤ 16 := by rw [votes_len, hkx.lt]; exact (Dg.chk_ok hkx.ss).2.1.2
    refine I0<|WL.e 1 rfl<|Wj<|WC.lp (σ := Nat) (fun q_ => [(0, .slice (some ad) l.length cap), (3, .pointer (some ⟨bk, 0, none⟩)), (4, .pointer (some ⟨b22, 0, none⟩)), (5, .int .i64 (i : Int)), (6, .int .i64 ((k : Int) + 1)), (7, .pointer (some ⟨b7, 0, none⟩)), (9, .int .i64 (q_ : Int))]) (fun q_ w => q_ ≤ (votesM (js2.getD k J0)).length ∧ St W G7 (ra :: r4 :: cs) w) (fun q_ => (votesM (js2.getD k J0)).length - q_) (0) (⟨Nat.zero_le _, h12⟩) ?_
    rintro n w13 ⟨hn, hL⟩
    try dsimp only at hn hL
    refine O2 [(0, .slice (some ad) l.length cap), (3, .pointer (some ⟨bk, 0, none⟩)), (4, .pointer (some ⟨b22, 0, none⟩)), (5, .int .i64 (i : Int)), (6, .int .i64 ((k : Int) + 1)), (7, .pointer (some ⟨b7, 0, none⟩)), (9, .int .i64 (n : Int))]<|K0 (K0 ?_)
    have hn3 : (n < (votesM (js2.getD k J0)).length ∧ 2 ≤ (js2.getD k J0).ph) ∨ (n < (votesM (js2.getD k J0)).length ∧ ¬ 2 ≤ (js2.getD k J0).ph) ∨ ¬ n < (votesM (js2.getD k J0)).length := by omega
    rcases hn3 with ⟨hn1, hn2⟩ | ⟨hn1, hn2⟩ | hn1
    ·skip
     refine I0<|WL.e 2 rfl<|WL.v (H0 underlying33 rfl rfl (hL.cell (cellB hfz7 rfl))) rfl<|WL.v (Q0 (n := ((votesM (js2.getD k J0)).length : Int)) (U0 underlying33 rfl rfl) rfl) rfl<|WL.v (Bt (J1 rfl rfl) (decide_eq_true (by omega))) rfl<|WL.e 2 rfl<|WL.gn rfl<|WL.v (H0 underlying3 rfl rfl (hL.cell (cellB hfz7 rfl))) rfl<|WL.gn rfl<|WL.v (Bt (M1 rfl rfl) (decide_eq_true (by omega))) rfl<|WL.e 1 rfl<|Wa<|C1 rfl (rfl)<|L0 (C0 (K0 (WC.block (K0 ?_))))
     obtain ⟨hv1, hv0⟩ := over_votes (hL2.iv _ (List.mem_of_getElem? hxk)) hn2 hn1
     obtain ⟨aa, hAa, hra⟩ := rd1 hva (by omega)
     ·skip
      refine I0<|WL.e 1 rfl<|WL.v (H0 underlying33 rfl rfl (hL.cell (cellB hfz7 rfl))) rfl<|WL.e 1 rfl<|WL.v (Z2 hAa underlying33 inf3 rfl rfl (n := n) rfl (by omega)) rfl<|WL.v (H1 (f := Vi) (0 : Int) hL hra (n := n) (by omega) underlying3 rfl rfl) rfl<|WL.v (Bf (E1 rfl rfl) (decide_eq_false hv1)) rfl<|WL.e 2 rfl<|WL.gn rfl<|WL.v (H0 underlying33 rfl rfl (hL.cell (cellB hfz7 rfl))) rfl<|WL.e 1 rfl<|WL.gn rfl<|WL.v (Z2 hAa underlying33 inf3 rfl rfl (n := n) rfl (by omega)) rfl<|WL.gn rfl<|WL.v (H1 (f := Vi) (0 : Int) hL hra (n := n) (by omega) underlying3 rfl rfl) rfl<|WL.gn rfl<|WL.v (Bf (E1 rfl rfl) (decide_eq_false hv0)) rfl<|WL.e 9 rfl<|Wa<|W0 rfl (rfl)<|L0<|WN.blk<|C0<|I0<|WL.e 1 rfl<|WL.v (R0 rfl rfl (by omega)) rfl<|WL.e 1 rfl<|WL.nil<|Z0 (n + 1) (by omega) ⟨rfl, rfl, rfl, rfl, rfl, rfl, rfl, trivial⟩ ⟨by omega, hL⟩
    ·skip
     refine I0<|WL.e 2 rfl<|WL.v (H0 underlying33 rfl rfl (hL.cell (cellB hfz7 rfl))) rfl<|WL.v (Q0 (n := ((votesM (js2.getD k J0)).length : Int)) (U0 underlying33 rfl rfl) rfl) rfl<|WL.v (Bt (J1 rfl rfl) (decide_eq_true (by omega))) rfl<|WL.e 2 rfl<|WL.gn rfl<|WL.v (H0 underlying3 rfl rfl (hL.cell (cellB hfz7 rfl))) rfl<|WL.gn rfl<|WL.v (Bf (M1 rfl rfl) (decide_eq_false (by omega))) rfl<|WL.e 1 rfl<|Wa<|W0 rfl (rfl)<|WC.exit<|U1<|WX.cut<|V1<|C0<|K0<|Wi<|WL.e 1 rfl<|WL.v (H0 underlying3 rfl rfl (hL.cell (cellB hfz7 rfl))) rfl<|WL.e 1 rfl<|Wa<|V0 rfl (fun c14 => ?_) (fun c14 => ?_)
     ·try simp only [DD] at c14
      refine WC.exit<|U1<|V1<|C0<|I0<|WL.e 1 rfl<|WL.v (R0 rfl rfl (by omega)) rfl<|WL.e 1 rfl<|WL.nil<|Z0 (⟨k + 1, G7, ra, r4⟩ : Nat × Snap × Res × Res) (by show js2.length + 1 - (k + 1) < js2.length + 1 - k; omega) ⟨rfl, rfl, rfl, rfl, rfl, trivial⟩ ⟨by show k + 1 ≤ _; omega, hleF, hC, hQ, hL⟩
     ·try simp only [DD] at c14
      refine Wk<|WL.e 2 rfl<|N1 can14 rfl rfl (outbox_c _ hL hC hok2.ok hok2.len (i : Int) (by decide)) ?_
      rintro _ w15 ⟨Gd, rd, Ad, cd, hGd, rfl, hTd, hCd, h15⟩
      refine ⟨_, rfl, ?_⟩
      replace hleF := Le.trans hleF hGd
      replace hva := hva.mono hGd
      replace hfz7 := hGd _ _ hfz7
      replace hC := hCd
      replace hQ := hQ.mono hGd
      refine WL.e 1 rfl<|WL.nil (C0 (K0 ?_))
      have hol : (outM js2 [107] (i : Int)).length ≤ 16000 := by
       have h9 := outM_len hok2.ok [107] (i : Int) js2.length
       rw [List.take_length] at h9
       have := hok2.len
       omega
      refine I0<|WL.e 1 rfl<|Wj<|WC.lp (σ := Nat) (fun q_ => [(0, .slice (some ad) l.length cap), (3, .pointer (some ⟨bk, 0, none⟩)), (4, .pointer (some ⟨b22, 0, none⟩)), (5, .int .i64 (i : Int)), (6, .int .i64 ((k : Int) + 1)), (10, .slice Ad (outM js2 [107] (i : Int)).length cd), (11, .int .i64 (q_ : Int))]) (fun q_ w => q_ ≤ (outM js2 [107] (i : Int)).length ∧ St W Gd (rd :: r4 :: cs) w) (fun q_ => (outM js2 [107] (i : Int)).length - q_) (0) (⟨Nat.zero_le _, h15⟩) ?_
      rintro m w16 ⟨hm, hL⟩
      try dsimp only at hm hL
      refine O2 [(0, .slice (some ad) l.length cap), (3, .pointer (some ⟨bk, 0, none⟩)), (4, .pointer (some ⟨b22, 0, none⟩)), (5, .int .i64 (i : Int)), (6, .int .i64 ((k : Int) + 1)), (10, .slice Ad (outM js2 [107] (i : Int)).length cd), (11, .int .i64 (m : Int))]<|K0<|Wi<|WL.e 2 rfl<|WL.v (Q0 (n := ((outM js2 [107] (i : Int)).length : Int)) (U0 underlying39 rfl rfl) rfl) rfl<|WL.e 1 rfl<|Wa<|V0 rfl (fun c17 => ?_) (fun c17 => ?_)
      ·try simp only [DD] at c17
       refine L0 (C0 (K0 (WC.block (K0 ?_))))
       obtain ⟨ao, hAo, hro⟩ := rd1 hTd (by omega)
       refine I0<|WL.e 2 rfl<|WL.v (Z2 hAo underlying39 inf9 rfl rfl (n := m) rfl (by omega)) rfl<|WL.v (H1 (f := sB) ([] : List UInt8) hL hro (n := m) (by omega) underlying9 rfl rfl) rfl<|N1 can15 rfl rfl (qdec_m _ _ hL (outM_enc (by omega))) ?_
       rintro _ w18 ⟨q, ec, hdec, rfl, h18⟩
       refine ⟨_, rfl,WL.e 3 rfl<|Z1 rfl h18 inf42 fun b12 w19 h19=>X1 h19 0 rfl rfl rfl inf42 rfl rfl rfl (Free.zero _) ?_⟩
       intro  w20 h20
       try simp only [ZZ] at h20
       refine WL.e 1 rfl<|WL.nil (C0 (K0 ?_))
       have hqj : ¬ q.j = (k : Int) + 1 := by
        have h9 := over_quiet hL2 hxk (by omega) (getD_mem (d := []) (l := (outM js2 [107] (i : Int))) (i := m) (by omega))
        rw [hdec] at h9
        exact h9
       ·skip
        refine I0<|Y0 h20 [0] 3 rfl<|WL.v (Bf (E1 rfl rfl) (decide_eq_false hqj)) rfl<|Wa<|W0 rfl (rfl)<|L0<|WN.blk<|C0<|I0<|WL.e 1 rfl<|WL.v (R0 rfl rfl (by omega)) rfl<|WL.e 1 rfl<|WL.nil<|Z0 (m + 1) (by omega) ⟨rfl, rfl, rfl, rfl, rfl, rfl, rfl, trivial⟩ ⟨by omega, h20.drop 0⟩
      ·try simp only [DD] at c17
       refine WC.exit<|U1<|WX.cut<|V1<|WN.blk<|C0<|I0<|WL.e 1 rfl<|WL.v (R0 rfl rfl (by omega)) rfl<|WL.e 1 rfl<|WL.nil<|Z0 (⟨k + 1, Gd, rd, r4⟩ : Nat × Snap × Res × Res) (by show js2.length + 1 - (k + 1) < js2.length + 1 - k; omega) ⟨rfl, rfl, rfl, rfl, rfl, trivial⟩ ⟨by show k + 1 ≤ _; omega, hleF, hC, hQ, hL⟩
    ·skip
     refine I0<|WL.e 2 rfl<|WL.v (H0 underlying33 rfl rfl (hL.cell (cellB hfz7 rfl))) rfl<|WL.v (Q0 (n := ((votesM (js2.getD k J0)).length : Int)) (U0 underlying33 rfl rfl) rfl) rfl<|WL.v (Bf (J1 rfl rfl) (decide_eq_false (by omega))) rfl<|WL.e 5 rfl<|Wa<|W0 rfl (rfl)<|WC.exit<|U1<|WX.cut<|V1<|C0<|K0<|Wi<|WL.e 1 rfl<|WL.v (H0 underlying3 rfl rfl (hL.cell (cellB hfz7 rfl))) rfl<|WL.e 1 rfl<|Wa<|V0 rfl (fun c21 => ?_) (fun c21 => ?_)
     ·try simp only [DD] at c21
      refine WC.exit<|U1<|V1<|C0<|I0<|WL.e 1 rfl<|WL.v (R0 rfl rfl (by omega)) rfl<|WL.e 1 rfl<|WL.nil<|Z0 (⟨k + 1, G7, ra, r4⟩ : Nat × Snap × Res × Res) (by show js2.length + 1 - (k + 1) < js2.length + 1 - k; omega) ⟨rfl, rfl, rfl, rfl, rfl, trivial⟩ ⟨by show k + 1 ≤ _; omega, hleF, hC, hQ, hL⟩
     ·try simp only [DD] at c21
      refine Wk<|WL.e 2 rfl<|N1 can14 rfl rfl (outbox_c _ hL hC hok2.ok hok2.len (i : Int) (by decide)) ?_
      rintro _ w22 ⟨Gd, rd, Ad, cd, hGd, rfl, hTd, hCd, h22⟩
      refine ⟨_, rfl, ?_⟩
      replace hleF := Le.trans hleF hGd
      replace hva := hva.mono hGd
      replace hfz7 := hGd _ _ hfz7
      replace hC := hCd
      replace hQ := hQ.mono hGd
      refine WL.e 1 rfl<|WL.nil (C0 (K0 ?_))
      have hol : (outM js2 [107] (i : Int)).length ≤ 16000 := by
       have h9 := outM_len hok2.ok [107] (i : Int) js2.length
       rw [List.take_length] at h9
       have := hok2.len
       omega
      refine I0<|WL.e 1 rfl<|Wj<|WC.lp (σ := Nat) (fun q_ => [(0, .slice (some ad) l.length cap), (3, .pointer (some ⟨bk, 0, none⟩)), (4, .pointer (some ⟨b22, 0, none⟩)), (5, .int .i64 (i : Int)), (6, .int .i64 ((k : Int) + 1)), (10, .slice Ad (outM js2 [107] (i : Int)).length cd), (11, .int .i64 (q_ : Int))]) (fun q_ w => q_ ≤ (outM js2 [107] (i : Int)).length ∧ St W Gd (rd :: r4 :: cs) w) (fun q_ => (outM js2 [107] (i : Int)).length - q_) (0) (⟨Nat.zero_le _, h22⟩) ?_
      rintro m w23 ⟨hm, hL⟩
      try dsimp only at hm hL
      refine O2 [(0, .slice (some ad) l.length cap), (3, .pointer (some ⟨bk, 0, none⟩)), (4, .pointer (some ⟨b22, 0, none⟩)), (5, .int .i64 (i : Int)), (6, .int .i64 ((k : Int) + 1)), (10, .slice Ad (outM js2 [107] (i : Int)).length cd), (11, .int .i64 (m : Int))]<|K0<|Wi<|WL.e 2 rfl<|WL.v (Q0 (n := ((outM js2 [107] (i : Int)).length : Int)) (U0 underlying39 rfl rfl) rfl) rfl<|WL.e 1 rfl<|Wa<|V0 rfl (fun c24 => ?_) (fun c24 => ?_)
      ·try simp only [DD] at c24
       refine L0 (C0 (K0 (WC.block (K0 ?_))))
       obtain ⟨ao, hAo, hro⟩ := rd1 hTd (by omega)
       refine I0<|WL.e 2 rfl<|WL.v (Z2 hAo underlying39 inf9 rfl rfl (n := m) rfl (by omega)) rfl<|WL.v (H1 (f := sB) ([] : List UInt8) hL hro (n := m) (by omega) underlying9 rfl rfl) rfl<|N1 can15 rfl rfl (qdec_m _ _ hL (outM_enc (by omega))) ?_
       rintro _ w25 ⟨q, ec, hdec, rfl, h25⟩
       refine ⟨_, rfl,WL.e 3 rfl<|Z1 rfl h25 inf42 fun b12 w26 h26=>X1 h26 0 rfl rfl rfl inf42 rfl rfl rfl (Free.zero _) ?_⟩
       intro  w27 h27
       try simp only [ZZ] at h27
       refine WL.e 1 rfl<|WL.nil (C0 (K0 ?_))
       have hqj : ¬ q.j = (k : Int) + 1 := by
        have h9 := over_quiet hL2 hxk (by omega) (getD_mem (d := []) (l := (outM js2 [107] (i : Int))) (i := m) (by omega))
        rw [hdec] at h9
        exact h9
       ·skip
        refine I0<|Y0 h27 [0] 3 rfl<|WL.v (Bf (E1 rfl rfl) (decide_eq_false hqj)) rfl<|Wa<|W0 rfl (rfl)<|L0<|WN.blk<|C0<|I0<|WL.e 1 rfl<|WL.v (R0 rfl rfl (by omega)) rfl<|WL.e 1 rfl<|WL.nil<|Z0 (m + 1) (by omega) ⟨rfl, rfl, rfl, rfl, rfl, rfl, rfl, trivial⟩ ⟨by omega, h27.drop 0⟩
      ·try simp only [DD] at c24
       refine WC.exit<|U1<|WX.cut<|V1<|WN.blk<|C0<|I0<|WL.e 1 rfl<|WL.v (R0 rfl rfl (by omega)) rfl<|WL.e 1 rfl<|WL.nil<|Z0 (⟨k + 1, Gd, rd, r4⟩ : Nat × Snap × Res × Res) (by show js2.length + 1 - (k + 1) < js2.length + 1 - k; omega) ⟨rfl, rfl, rfl, rfl, rfl, trivial⟩ ⟨by show k + 1 ≤ _; omega, hleF, hC, hQ, hL⟩
   ·try simp only [DD] at c9
    refine WC.exit<|U1<|WX.cut<|V1<|WN.blk<|C0<|I0<|WL.e 1 rfl<|WL.v (R0 rfl rfl (by omega)) rfl<|WL.e 1 rfl<|WL.nil<|Z0 (⟨i + 1, js2, G2, rj, r4⟩ : Nat × List J × Snap × Res × Res) (by show l.length - (i + 1) < l.length - i; omega) ⟨rfl, rfl, rfl, rfl, trivial⟩ ⟨by show i + 1 ≤ _; omega, hleF, hC, hQ, hok2, hnd2, hL2, h8⟩
  ·try simp only [DD] at c5
   refine WC.exit<|U1<|WX.cut<|V1<|C0<|Wi<|WL.cv can11 rfl rfl (live_c _ hL) fun w28 ⟨G28, hG28, h28⟩ => ?_
   replace hleF := Le.trans hleF hG28
   refine WL.e 1 rfl<|Wg<|ret1 rfl rfl ⟨rfl, (((h28.drop 0).drop 0)).weak hleF⟩
 ·skip
  refine I0<|WL.e 1 rfl<|WL.cv can10 rfl rfl (smallO_c _ 50 h hR hl) fun w29 h29 =>WL.v (Bt (F1 rfl) (by rw [hfew]; rfl)) rfl<|Wa<|C1 rfl (rfl)<|Wi<|WL.cv can11 rfl rfl (live_c _ h29) fun w30 ⟨G30, hG30, h30⟩ => ?_
  replace hleF := Le.trans hleF hG30
  refine WL.e 1 rfl<|Wg<|ret1 rfl rfl ⟨rfl, h30.weak hleF⟩
theorem over_row {cs : List Res} (w : World) {A : Option Addr} {cap : Nat} {l : List O} (h : St W F cs w) (hR : RdS KO F A l) (hl : l.length ≤ 9223372036854775807) : Calls prog 9 #[.slice A l.length cap] w fun r w' => r = .returned (.bool true) ∧ St W F cs w' := over_law w (cap := cap) h hR hl
theorem inf48 : Inf prog 48 (.agg #[.int .i64 0, .int .i64 0, .int .i64 0, .int .i64 0]) 4 32 := by unfold Inf; kernel_rfl
structure Sn where
 jb : Int
 ep : Int
 st : Int
 kd : Int
def N0 : Sn := ⟨0, 0, 0, 0⟩
abbrev snC (z : Sn) : List Value := [Vi z.jb, Vi z.ep, Vi z.st, Vi z.kd]
def KSn : Kd Sn := Kd.rows 4 snC (fun _ => rfl)
def J.nxt (x y : J) : Prop := x.ep ≤ y.ep ∧ (y.ep = x.ep → ∀ i t, x.ts.getD i none = some t → ∃ u, y.ts.getD i none = some u ∧ ((t.state = 1 ∨ t.state = 3) → u.state = 1 ∨ u.state = 3) ∧ (t.state = 2 → u.state = 2))
theorem nxt_same {x y : J} (he : y.ep = x.ep) (ht : y.ts = x.ts) : x.nxt y := ⟨by omega, fun _ i t h => ⟨t, by rw [ht]; exact h, id, id⟩⟩
theorem J.nxt.trans {x y z : J} (h : x.nxt y) (k : y.nxt z) : x.nxt z := ⟨Int.le_trans h.1 k.1, fun e i t ht => by
 have h1 := h.1
 have k1 := k.1
 obtain ⟨u, a1, a2, a3⟩ := h.2 (by omega) i t ht
 obtain ⟨v, b1, b2, b3⟩ := k.2 (by omega) i u a1
 exact ⟨v, b1, fun hh => b2 (a2 hh), fun hh => b3 (a3 hh)⟩⟩
theorem opn1_keep {ns : List Int} {ts : List (Option T)} {y : Int} {i : Nat} {t : T} (h : ts.getD i none = some t) : (opn1 ns ts y).getD i none = some t := by
 unfold opn1
 split
 ·rename_i hn
  rw [getD_set]
  split
  ·rename_i h1
   rw [h1.1, h] at hn
   cases hn
  ·exact h
 ·exact h
theorem opnL_keep {ns : List Int} {i : Nat} {t : T} : ∀ {l : List Int} {ts : List (Option T)}, ts.getD i none = some t → (opnL ns ts l).getD i none = some t
 |[], _, h => h
 |y :: l, ts, h => opnL_keep (l := l) (ts := opn1 ns ts y) (opn1_keep h)
theorem nxt_look (x : J) : x.nxt x.look := ⟨by rw [(look_same x).2.2.1]; exact Int.le_refl _, fun _ i t h => ⟨t, by rw [look_ts]; exact opnL_keep h, id, id⟩⟩
theorem says_13 {t : T} {m : M} (h : t.state = 1 ∨ t.state = 3) : (says t m).2.state = 1 ∨ (says t m).2.state = 3 := by
 rcases h with h | h
 ·unfold says
  split
  ·rw [Tal.vote_stay (by omega)]
   exact .inl h
  ·obtain ⟨e1, e2⟩ := Tal.exit_vs t m.f m.ar
   obtain ⟨a1, a2, _⟩ := Tal.state1 h
   rw [Tal.state_of (by rw [e1]; exact a1), e1, e2, if_neg (by omega)]
   split
   ·exact .inl rfl
   ·exact .inr rfl
 ·rw [says_stay (by omega) (by omega)]
  exact .inr h
theorem nxt_put {x : J} {m : M} {t : T} (ht : x.ts.getD m.st.toNat none = some t) : x.nxt (x.put m.st.toNat (says t m).2) := ⟨Int.le_refl _, fun _ i u hu => by
 show ∃ v, (x.ts.set m.st.toNat (some (says t m).2)).getD i none = some v ∧ _
 rw [getD_set]
 split
 ·rename_i h1
  have e : u = t := by rw [← h1.1, ht] at hu; exact (Option.some.inj hu).symm
  subst e
  exact ⟨_, rfl, says_13, fun h2 => by rw [says_stay (by omega) (by omega)]; exact h2⟩
 ·exact ⟨u, hu, id, id⟩⟩
theorem nxt_cancel (x : J) : x.nxt x.cancel := by
 unfold J.cancel
 split
 ·exact (nxt_same (y := x.ask) rfl rfl).trans (nxt_look _)
 ·exact nxt_same rfl rfl
theorem nxt_hear (x : J) (m : M) : x.nxt (x.hear m).2 := by
 unfold J.hear
 split
 ·show x.nxt (x.started m.f m.ar)
  unfold J.started
  split
  ·split
   ·exact (nxt_same (x := x) (y := (x.hasR m.f).run) rfl rfl).trans (nxt_look _)
   ·exact nxt_same rfl rfl
  ·split <;> exact nxt_same rfl rfl
 ·split
  ·unfold J.said
   split
   ·exact nxt_same rfl rfl
   ·split
    ·exact nxt_same rfl rfl
    ·rename_i t ht
     split
     ·exact nxt_same rfl rfl
     ·exact (nxt_put ht).trans (nxt_look _)
  ·split
   ·show x.nxt (x.left m.f)
    unfold J.left
    split
    ·exact nxt_same rfl rfl
    ·split
     ·refine ⟨by show x.ep ≤ x.ep + 1; omega, fun e => ?_⟩
      have e : x.ep + 1 = x.ep := e
      omega
     ·exact nxt_same rfl rfl
   ·exact nxt_same rfl rfl
def okZ (js : List J) (z : Sn) : Prop := ∃ (k : Nat) (x : J), js[k]? = some x ∧ z.jb = (k : Int) + 1 ∧ z.ep ≤ x.ep ∧ (z.ep = x.ep → ∃ (i : Nat) (t : T), z.st = (i : Int) ∧ x.ts.getD i none = some t ∧ ((z.kd = 4 ∧ (t.state = 1 ∨ t.state = 3)) ∨ (z.kd = 5 ∧ t.state = 2)))
theorem okZ.nxt {js js2 : List J} {z : Sn} (h : okZ js z) (hn : ∀ (k : Nat) x, js[k]? = some x → ∃ y, js2[k]? = some y ∧ x.nxt y) : okZ js2 z := by
 obtain ⟨k, x, hx, h1, h2, h3⟩ := h
 obtain ⟨y, hy, n1, n2⟩ := hn k x hx
 refine ⟨k, y, hy, h1, by omega, fun e => ?_⟩
 obtain ⟨i, t, a1, a2, a3⟩ := h3 (by omega)
 obtain ⟨u, b1, b2, b3⟩ := n2 (by omega) i t a2
 refine ⟨i, u, a1, b1, ?_⟩
 rcases a3 with ⟨a3, a4⟩ | ⟨a3, a4⟩
 ·exact .inl ⟨a3, b2 a4⟩
 ·exact .inr ⟨a3, b3 a4⟩
theorem nxt_set {js : List J} {i : Nat} {x y : J} (hx : js[i]? = some x) (h : x.nxt y) : ∀ (k : Nat) z, js[k]? = some z → ∃ u, (js.set i y)[k]? = some u ∧ z.nxt u := fun k z hz => by
 by_cases e : i = k
 ·subst e
  rw [hx] at hz
  obtain rfl := Option.some.inj hz
  exact ⟨y, List.getElem?_set_self (List.getElem?_eq_some_iff.1 hx).1, h⟩
 ·exact ⟨z, by rw [List.getElem?_set_ne e]; exact hz, nxt_same rfl rfl⟩
theorem nxt_run (js : List J) (o : O) : ∀ (k : Nat) x, js[k]? = some x → ∃ y, (o.run js)[k]? = some y ∧ x.nxt y := by
 have triv : ∀ (k : Nat) x, js[k]? = some x → ∃ y, js[k]? = some y ∧ x.nxt y := fun k x hx => ⟨x, hx, nxt_same rfl rfl⟩
 unfold O.run
 split
 ·unfold subM
  split
  ·intro k x hx
   refine ⟨x, ?_, nxt_same rfl rfl⟩
   show (js ++ [_])[k]? = some x
   rw [List.getElem?_append_left (List.getElem?_eq_some_iff.1 hx).1]
   exact hx
  ·exact triv
 ·split
  ·unfold canM
   split
   ·exact triv
   ·split
    ·exact triv
    ·rename_i i hi _ x hx
     split
     ·exact triv
     ·exact nxt_set hx (nxt_cancel x)
  ·split
   ·unfold delM
    split
    ·exact triv
    ·split
     ·exact triv
     ·split
      ·exact triv
      ·rename_i i hi _ x hx
       split
       ·exact nxt_set hx (nxt_hear x _)
       ·exact triv
   ·exact triv
theorem miss_in {α : Type} {n : Int} : ∀ {ns : List Int} {os : List (Option α)}, n ∈ Tal.miss ns os → n ∈ ns
 |[], [], h => by simp [Tal.miss] at h
 |[], _ :: _, h => by simp [Tal.miss] at h
 |_ :: _, [], h => by simp [Tal.miss] at h
 |m :: ns, o :: os, h => by
  unfold Tal.miss at h
  cases o with
  |none =>
   simp only [Option.isNone_none, if_true, List.mem_cons] at h
   rcases h with h | h
   ·simp [h]
   ·simp [miss_in h]
  |some x =>
   simp only [Option.isNone_some] at h
   simp [miss_in h]
theorem missing_in {t : T} {n : Int} (h : n ∈ t.missing) : n ∈ t.ns := by
 unfold Tal.T.missing at h
 split at h
 ·exact miss_in h
 ·split at h
  ·exact miss_in h
  ·cases h
theorem order_len4 (x : J) (key : List UInt8) (i : Nat) (now : Int) : ((x.order key i now).length : Int) ≤ 4096 := by
 unfold J.order packM
 have h1 := sign_len key (x.cred i now)
 have h2 := Wir.numB_len (x.ss.getD i S0).rk
 have h3 := Wir.numB_len (x.ss.getD i S0).per
 have h4 := Wir.numB_len (x.ss.getD i S0).ds
 have h5 := Wir.numB_len (x.ss.getD i S0).lim
 have h6 := Wir.numB_len ((signM key (x.cred i now)).length : Int)
 simp only [List.length_append]
 unfold Wir.textB
 split
 ·simp only [List.length_nil]; omega
 ·rw [List.length_append]; omega
theorem msg_may {x : J} (hok : x.ok) {k n : Int} {i : Nat} {tx : List UInt8} (hk : 0 ≤ k ∧ k < 10) (hn : n ∈ x.ns) (hi : i ≤ 16) (ht : (tx.length : Int) ≤ 4096) : mayM (x.msg k n i tx) := by
 obtain ⟨q, hq, rfl⟩ := List.getElem_of_mem hn
 have h1 := hok.ns.2.1 q hq
 rw [List.getD_eq_getElem?_getD, List.getElem?_eq_getElem hq] at h1
 have h1 : 0 ≤ x.ns[q] ∧ x.ns[q] < 16 := h1
 have h2 := hok.id
 have h3 := hok.ep
 exact ⟨hk.1, hk.2, ⟨by show (-1 : Int) ≤ -1; decide, by show (-1 : Int) < 16; decide⟩, ⟨by show -1 ≤ x.ns[q]; omega, h1.2⟩, ⟨by show 0 ≤ x.id; omega, by show x.id ≤ _; omega⟩, ⟨by show 0 ≤ x.ep; omega, by show x.ep ≤ _; omega⟩, ⟨by show (0 : Int) ≤ i; omega, by show (i : Int) ≤ _; omega⟩, ⟨by show (0 : Int) ≤ 0; decide, by show (0 : Int) ≤ _; decide⟩, ht⟩
theorem out_may {x : J} (hok : x.ok) {key : List UInt8} {now : Int} {m : M} (hm : m ∈ x.out key now) : mayM m ∧ m.f = -1 ∧ m.ep = x.ep ∧ ((m.k = 4 ∨ m.k = 5) → ∃ (i : Nat) (t : T), m.st = (i : Int) ∧ x.ts.getD i none = some t ∧ ((m.k = 4 ∧ (t.state = 1 ∨ t.state = 3)) ∨ (m.k = 5 ∧ t.state = 2))) := by
 have hss := (Dg.chk_ok hok.ss).2.1.2
 have h0 : (([] : List UInt8).length : Int) ≤ 4096 := by decide
 have bad : ∀ {k : Int} {P : Prop}, k ≠ 4 → k ≠ 5 → (k = 4 ∨ k = 5) → P := fun a b c => by rcases c with c | c; exact absurd c a; exact absurd c b
 unfold J.out at hm
 split at hm
 ·obtain ⟨n, hn, rfl⟩ := List.mem_map.1 hm
  exact ⟨msg_may hok (by decide) (List.mem_filter.1 hn).1 (by omega) h0, rfl, rfl, bad (by show (0 : Int) ≠ 4; decide) (by show (0 : Int) ≠ 5; decide)⟩
 ·split at hm
  ·obtain ⟨i, _, hi⟩ := List.mem_flatMap.1 hm
   unfold J.stepO at hi
   split at hi
   ·cases hi
   ·rename_i t ht
    have hil := getD_lt ht
    have htk := hok.tk (ht ▸ getD_mem hil)
    rw [hok.lt] at hil
    split at hi
    ·obtain ⟨n, hn, rfl⟩ := List.mem_map.1 hi
     exact ⟨msg_may hok (by decide) (htk.ns ▸ missing_in hn) (by omega) (order_len4 _ _ _ _), rfl, rfl, bad (by show (2 : Int) ≠ 4; decide) (by show (2 : Int) ≠ 5; decide)⟩
    ·split at hi
     ·rename_i h1
      obtain ⟨n, hn, hm⟩ := List.mem_flatMap.1 hi
      have hn := htk.ns ▸ missing_in hn
      rcases List.mem_cons.1 hm with rfl | hm
      ·exact ⟨msg_may hok (by decide) hn (by omega) h0, rfl, rfl, fun _ => ⟨i, t, rfl, ht, .inl ⟨rfl, .inl h1⟩⟩⟩
      ·split at hm
       ·obtain rfl := List.mem_singleton.1 hm
        exact ⟨msg_may hok (by decide) hn (by omega) h0, rfl, rfl, bad (by show (7 : Int) ≠ 4; decide) (by show (7 : Int) ≠ 5; decide)⟩
       ·cases hm
     ·split at hi
      ·rename_i h2
       obtain ⟨n, hn, rfl⟩ := List.mem_map.1 hi
       exact ⟨msg_may hok (by decide) hn (by omega) h0, rfl, rfl, fun _ => ⟨i, t, rfl, ht, .inr ⟨rfl, h2⟩⟩⟩
      ·cases hi
  ·split at hm
   ·obtain ⟨n, hn, hm⟩ := List.mem_flatMap.1 hm
    have hn := (List.mem_filter.1 hn).1
    rcases List.mem_append.1 hm with hm | hm
    ·obtain ⟨j, hj, rfl⟩ := List.mem_map.1 hm
     have h9 := (List.mem_filter.1 hj).2
     unfold no2 at h9
     split at h9
     ·cases h9
     ·rename_i t ht
      have hil := getD_lt ht
      rw [hok.lt] at hil
      exact ⟨msg_may hok (by decide) hn (by omega) h0, rfl, rfl, fun _ => ⟨j, t, rfl, ht, .inr ⟨rfl, of_decide_eq_true h9⟩⟩⟩
    ·obtain rfl := List.mem_singleton.1 hm
     exact ⟨msg_may hok (by decide) hn (by omega) h0, rfl, rfl, bad (by show (8 : Int) ≠ 4; decide) (by show (8 : Int) ≠ 5; decide)⟩
   ·cases hm
theorem sent_m {js : List J} (hok : okJ js) (hL : okL js) {key : List UInt8} {now : Int} {b : List UInt8} (hb : b ∈ outM js key now) : (decB b).2 = 0 ∧ (decB b).1.f = -1 ∧ (((decB b).1.k = 4 ∨ (decB b).1.k = 5) → okZ js ⟨(decB b).1.j, (decB b).1.ep, (decB b).1.st, (decB b).1.k⟩) := by
 unfold outM at hb
 obtain ⟨m, hm, rfl⟩ := List.mem_map.1 hb
 obtain ⟨y, hy, hm⟩ := List.mem_flatMap.1 hm
 obtain ⟨q, hq, rfl⟩ := List.getElem_of_mem hy
 have hyq : js[q]? = some js[q] := List.getElem?_eq_getElem hq
 obtain ⟨a1, a2, a3, a4⟩ := out_may (hok.ok _ hy) hm
 have e1 := (out_j hm).1
 have e2 := hL.id q _ hyq
 rw [Wir.decB_enc a1]
 exact ⟨rfl, a2, fun hk => ⟨q, _, hyq, by show m.j = _; omega, by show m.ep ≤ _; omega, fun _ => a4 hk⟩⟩
theorem okZ.one {js : List J} {y z : Sn} (hy : okZ js y) (hz : okZ js z) (h1 : y.jb = z.jb) (h2 : y.ep = z.ep) (h3 : y.st = z.st) (hcur : ∃ (k : Nat) (x : J), js[k]? = some x ∧ z.jb = (k : Int) + 1 ∧ z.ep = x.ep) : y.kd = z.kd := by
 obtain ⟨k, x, hx, a1, a2⟩ := hcur
 obtain ⟨k1, x1, hx1, b1, _, b3⟩ := hy
 obtain ⟨k2, x2, hx2, c1, _, c3⟩ := hz
 obtain rfl : k1 = k := by omega
 obtain rfl : k2 = k1 := by omega
 rw [hx] at hx1 hx2
 obtain rfl := Option.some.inj hx1
 obtain rfl := Option.some.inj hx2
 obtain ⟨i, t, d1, d2, d3⟩ := b3 (by omega)
 obtain ⟨j, u, f1, f2, f3⟩ := c3 a2
 obtain rfl : i = j := by omega
 rw [d2] at f2
 obtain rfl := Option.some.inj f2
 rcases d3 with ⟨g1, g2⟩ | ⟨g1, g2⟩ <;> rcases f3 with ⟨k1, k2⟩ | ⟨k1, k2⟩ <;> omega
def othM (l : List Sn) (q : M) : Prop := ∃ i, i < l.length ∧ (l.getD i N0).jb = q.j ∧ (l.getD i N0).ep = q.ep ∧ (l.getD i N0).st = q.st ∧ (l.getD i N0).kd ≠ q.k
theorem sent_cur {js : List J} (hok : okJ js) (hL : okL js) {key : List UInt8} {now : Int} {b : List UInt8} (hb : b ∈ outM js key now) : ∃ (k : Nat) (x : J), js[k]? = some x ∧ (decB b).1.j = (k : Int) + 1 ∧ (decB b).1.ep = x.ep := by
 unfold outM at hb
 obtain ⟨m, hm, rfl⟩ := List.mem_map.1 hb
 obtain ⟨y, hy, hm⟩ := List.mem_flatMap.1 hm
 obtain ⟨q, hq, rfl⟩ := List.getElem_of_mem hy
 have hyq : js[q]? = some js[q] := List.getElem?_eq_getElem hq
 obtain ⟨a1, a2, a3, a4⟩ := out_may (hok.ok _ hy) hm
 have e1 := (out_j hm).1
 have e2 := hL.id q _ hyq
 rw [Wir.decB_enc a1]
 exact ⟨q, _, hyq, by show m.j = _; omega, a3⟩
theorem not_oth {js : List J} (hok : okJ js) (hL : okL js) {key : List UInt8} {now : Int} {b : List UInt8} (hb : b ∈ outM js key now) (hk : (decB b).1.k = 4 ∨ (decB b).1.k = 5) {l : List Sn} (hl : ∀ z ∈ l, okZ js z) : ¬ othM l (decB b).1 := fun ⟨i, hi, h1, h2, h3, h4⟩ => h4 (okZ.one (hl _ (getD_mem hi)) ((sent_m hok hL hb).2.2 hk) h1 h2 h3 (sent_cur hok hL hb))
theorem snAt {F : Snap} {A : Option Addr} {l : List Sn} {i : Nat} (h : RdS KSn F A l) (hi : i < l.length) : ∃ ad, A = some ad ∧ ∀ j v, (snC (l.getD i N0))[j]? = some v → cellF F (ad.add (i * 4 + j)) = some v := by
 obtain ⟨ad, c, hA, hc, hr⟩ := h.at_ (i := i) (x := l.getD i N0) (by rw [List.getD_eq_getElem?_getD, List.getElem?_eq_getElem hi]; rfl)
 subst hc
 exact ⟨ad, hA, hr⟩
theorem eq4 {z : Sn} {q : M} : (¬ z.jb = q.j) ∨ (z.jb = q.j ∧ ¬ z.ep = q.ep) ∨ (z.jb = q.j ∧ z.ep = q.ep ∧ ¬ z.st = q.st) ∨ (z.jb = q.j ∧ z.ep = q.ep ∧ z.st = q.st ∧ z.kd = q.k) ∨ (z.jb = q.j ∧ z.ep = q.ep ∧ z.st = q.st ∧ ¬ z.kd = q.k) := by
 by_cases a : z.jb = q.j <;> by_cases b : z.ep = q.ep <;> by_cases c : z.st = q.st <;> by_cases d : z.kd = q.k <;> simp [a, b, c, d]
theorem other_c {cs : List Res} (w : World) {A : Option Addr} {cap : Nat} {l : List Sn} {q : M} (h : St W F cs w) (hR : RdS KSn F A l) (hl : l.length ≤ 1000000) (hno : ¬ othM l q) : Calls prog 16 #[.slice A l.length cap, .agg #[Vi q.k, Vi q.f, Vi q.t, Vi q.j, Vi q.ep, Vi q.st, Vi q.ar, .string (bs q.tx)]] w fun r w' => r = .returned (.bool false) ∧ St W F cs w'  := by
 refine enter (args := [.slice A l.length cap, .agg #[Vi q.k, Vi q.f, Vi q.t, Vi q.j, Vi q.ep, Vi q.st, Vi q.ar, .string (bs q.tx)]]) func16 rfl rfl rfl<|Wi<|WL.box rfl h rfl fun b3 w1 h1=>WL.e 1 rfl<|Wh<|WL.e 1 rfl<|Wj<|WC.lp (σ := Nat) (fun q_ => [(0, .slice A l.length cap), (3, .pointer (some ⟨b3, 0, none⟩)), (5, .int .i64 (q_ : Int))]) (fun q_ w => q_ ≤ l.length ∧ St W F ([(b3, .cells #[Vi q.k, Vi q.f, Vi q.t, Vi q.j, Vi q.ep, Vi q.st, Vi q.ar, .string (bs q.tx)] 42 (0, 0))] :: cs) w) (fun q_ => l.length - q_) (0) (⟨Nat.zero_le _, h1⟩) ?_
 rintro i w2 ⟨hi, hL⟩
 try dsimp only at hi hL
 refine O2 [(0, .slice A l.length cap), (3, .pointer (some ⟨b3, 0, none⟩)), (5, .int .i64 (i : Int))]<|K0<|Wi<|WL.e 2 rfl<|WL.v (Q0 (n := (l.length : Int)) (U0 underlying31 rfl rfl) rfl) rfl<|WL.e 1 rfl<|Wa<|V0 rfl (fun c3 => ?_) (fun c3 => ?_)
 ·try simp only [DD] at c3
  refine L0 (C0 (K0 (WC.block (K0 ?_))))
  have hi2 : i < l.length := by omega
  obtain ⟨ad, rfl, hcell⟩ := snAt hR hi2
  refine I0<|WL.e 2 rfl<|WL.v (E2 underlying31 inf48 rfl rfl (n := i) rfl (by omega)) rfl<|WL.v (O1 (u := .agg #[Vi (l.getD i N0).jb, Vi (l.getD i N0).ep, Vi (l.getD i N0).st, Vi (l.getD i N0).kd]) (V4 hL hcell underlying48 rfl inf48 rfl rfl) rfl) rfl<|Z1 rfl hL inf48 fun b6 w4 h4=>X1 h4 0 rfl rfl rfl inf48 rfl rfl rfl (Free.zero _) ?_
  intro  w5 h5
  try simp only [ZZ] at h5
  refine WL.nil (C0 (K0 ?_))
  have hq5 := (eq4 (z := (l.getD i N0)) (q := q))
  have hq6 : (¬ (l.getD i N0).jb = q.j) ∨ ((l.getD i N0).jb = q.j ∧ ¬ (l.getD i N0).ep = q.ep) ∨ ((l.getD i N0).jb = q.j ∧ (l.getD i N0).ep = q.ep ∧ ¬ (l.getD i N0).st = q.st) ∨ ((l.getD i N0).jb = q.j ∧ (l.getD i N0).ep = q.ep ∧ (l.getD i N0).st = q.st ∧ (l.getD i N0).kd = q.k) := by
   rcases hq5 with q1 | q1 | q1 | q1 | ⟨q1, q2, q3, q4⟩
   ·exact .inl q1
   ·exact .inr (.inl q1)
   ·exact .inr (.inr (.inl q1))
   ·exact .inr (.inr (.inr q1))
   ·exact absurd ⟨i, hi2, q1, q2, q3, q4⟩ hno
  rcases hq6 with q1 | ⟨q1, q2⟩ | ⟨q1, q2, q3⟩ | ⟨q1, q2, q3, q4⟩
  ·skip
   refine I0<|Y0 h5 [0, 1] 4 rfl<|WL.v (Bf (E1 rfl rfl) (decide_eq_false q1)) rfl<|WL.e 21 rfl<|Wa<|W0 rfl (rfl)<|L0<|WN.blk<|C0<|I0<|WL.e 1 rfl<|WL.v (R0 rfl rfl (by omega)) rfl<|WL.e 1 rfl<|WL.nil<|Z0 (i + 1) (by omega) ⟨rfl, rfl, rfl, trivial⟩ ⟨by omega, h5.drop 0⟩
  ·skip
   refine I0<|Y0 h5 [0, 1] 4 rfl<|WL.v (Bt (E1 rfl rfl) (decide_eq_true q1)) rfl<|Y0 h5 [0, 1] 5 rfl<|WL.gn rfl<|WL.v (Bf (E1 rfl rfl) (decide_eq_false q2)) rfl<|WL.e 15 rfl<|Wa<|W0 rfl (rfl)<|L0<|WN.blk<|C0<|I0<|WL.e 1 rfl<|WL.v (R0 rfl rfl (by omega)) rfl<|WL.e 1 rfl<|WL.nil<|Z0 (i + 1) (by omega) ⟨rfl, rfl, rfl, trivial⟩ ⟨by omega, h5.drop 0⟩
  ·skip
   refine I0<|Y0 h5 [0, 1] 4 rfl<|WL.v (Bt (E1 rfl rfl) (decide_eq_true q1)) rfl<|Y0 h5 [0, 1] 5 rfl<|WL.gn rfl<|WL.v (Bt (E1 rfl rfl) (decide_eq_true q2)) rfl<|Y0 h5 [0, 1] 6 rfl<|WL.gn rfl<|WL.v (Bf (E1 rfl rfl) (decide_eq_false q3)) rfl<|WL.e 8 rfl<|Wa<|W0 rfl (rfl)<|L0<|WN.blk<|C0<|I0<|WL.e 1 rfl<|WL.v (R0 rfl rfl (by omega)) rfl<|WL.e 1 rfl<|WL.nil<|Z0 (i + 1) (by omega) ⟨rfl, rfl, rfl, trivial⟩ ⟨by omega, h5.drop 0⟩
  ·skip
   refine I0<|Y0 h5 [0, 1] 4 rfl<|WL.v (Bt (E1 rfl rfl) (decide_eq_true q1)) rfl<|Y0 h5 [0, 1] 5 rfl<|WL.gn rfl<|WL.v (Bt (E1 rfl rfl) (decide_eq_true q2)) rfl<|Y0 h5 [0, 1] 6 rfl<|WL.gn rfl<|WL.v (Bt (E1 rfl rfl) (decide_eq_true q3)) rfl<|Y0 h5 [0, 1] 6 rfl<|WL.gn rfl<|WL.v (Bf (T1 rfl rfl) (by rw [decide_eq_true q4]; rfl)) rfl<|WL.e 1 rfl<|Wa<|W0 rfl (rfl)<|L0<|WN.blk<|C0<|I0<|WL.e 1 rfl<|WL.v (R0 rfl rfl (by omega)) rfl<|WL.e 1 rfl<|WL.nil<|Z0 (i + 1) (by omega) ⟨rfl, rfl, rfl, trivial⟩ ⟨by omega, h5.drop 0⟩
 ·try simp only [DD] at c3
  refine WC.exit<|U1<|WX.cut<|V1<|C0<|Wi<|WL.e 1 rfl<|Wg<|ret1 rfl rfl ⟨rfl, hL.drop 0⟩
theorem can16 : B.Can prog 16 := ⟨_, func16, by kernel_rfl, rfl⟩
theorem other_row {cs : List Res} (w : World) {i n cap : Nat} {A : Option Addr} {rz : Res} {l : List Sn} {q : M} (h : St W F cs w) (hi : cs[i]? = some rz) (hr : RowM 48 4 snC rz (.slice A n cap) l) (hn : n = l.length) (hl : l.length ≤ 1000000) (hno : ¬ othM l q) : Calls prog 16 #[.slice A n cap, .agg #[Vi q.k, Vi q.f, Vi q.t, Vi q.j, Vi q.ep, Vi q.st, Vi q.ar, .string (bs q.tx)]] w fun r w' => r = .returned (.bool false) ∧ St W F cs w' := by
 subst hn
 obtain ⟨G, hG, hf, hS⟩ := h.freeze hi
 refine (other_c w hS (RowM.read (f := snC) (m := 4) (fun _ => rfl) hr rfl hf) hl hno).mono ?_
 rintro e w' ⟨rfl, hS2⟩
 exact ⟨rfl, St.thaw (new := []) h hi hf hG hS2⟩
theorem never_law {cs : List Res} (w : World) {A : Option Addr} {cap : Nat} {l : List O} (h : St W F cs w) (hR : RdS KO F A l) (hl : l.length ≤ 9223372036854775807) : Calls prog 3 #[.slice A l.length cap] w fun r w' => r = .returned (.bool true) ∧ St W F cs w'  := by
 refine enter (args := [.slice A l.length cap]) func3 rfl rfl rfl ?_
 have hleF : Le F F := Le.refl F
 refine Wi<|WL.e 1 rfl<|WL.nil (C0 (K0 (K0 ?_)))
 rcases Bool.eq_false_or_eq_true (fewO l 50) with hfew | hfew
 ·skip
  refine I0<|WL.e 1 rfl<|WL.cv can10 rfl rfl (smallO_c _ 50 h hR hl) fun w1 h1 =>WL.v (Bf (F1 rfl) (by rw [hfew]; rfl)) rfl<|Wa<|W0 rfl (rfl)<|Wk<|N1 can12 rfl rfl (new_c _ [107] h1) ?_
  rintro _ w2 ⟨bk, rk, rfl, hC0, h2⟩
  refine ⟨_, rfl,WL.e 1 rfl<|Wh<|WL.e 1 rfl<|WL.v (Y1 underlying25 rfl rfl) rfl<|Wa<|W0 rfl (rfl)<|Wk<|WL.v (I2 (vs := [(0, .string (bs [107]))]) (cells := #[.string (bs [107]), .slice none 0 0]) rfl (by kernel_rfl)) rfl<|WL.box rfl h2 rfl fun b19 w3 h3=>WL.e 1 rfl<|WL.nil (C0 (K0 ?_))⟩
  replace h3 : St W F (kQ b19 [107] none 0 0 :: rk :: cs) w3 := h3
  obtain ⟨rq, hQ0, hSq⟩ := CtlQ.close (rj := []) (qs := []) (js := []) (rP := []) (A := none) (cap := 0) (b := b19) (key := [107]) (show St W F (kQ b19 [107] none 0 0 :: [] :: ([] ++ (rk :: cs))) _ from St.flat h3 (by simp)) (Row.nil 98 pj) ⟨rfl, rfl, fun i x hxk => by simp at hxk⟩
  replace hSq := St.perm hSq (List.Perm.swap _ _ _)
  refine I0<|WL.e 1 rfl<|WL.nil (C0 (K0 (K0 ?_)))
  replace hSq := hSq.nilRes
  replace hSq : St W F (rk :: rq :: [] :: cs) w3 := St.perm hSq (((List.Perm.swap _ _ _).cons _).trans (List.Perm.swap _ _ _))
  refine I0<|WL.e 1 rfl<|Wj<|WC.lp (σ := Nat × List J × Snap × Res × Res × Res × List Sn × Option Addr × Nat) (fun q_ => [(0, .slice A l.length cap), (3, .pointer (some ⟨bk, 0, none⟩)), (4, .pointer (some ⟨b19, 0, none⟩)), (5, .slice q_.2.2.2.2.2.2.2.1 q_.2.2.2.2.2.2.1.length q_.2.2.2.2.2.2.2.2), (6, .int .i64 (q_.1 : Int))]) (fun q_ w => q_.1 ≤ l.length ∧ Le F q_.2.2.1 ∧ CtlR q_.2.2.1 q_.2.2.2.1 bk [107] q_.2.1 ∧ CtlQ q_.2.2.1 q_.2.2.2.2.1 b19 [107] q_.2.1 ∧ okJ q_.2.1 ∧ (∀ x ∈ q_.2.1, x.once) ∧ okL q_.2.1 ∧ (∀ z ∈ q_.2.2.2.2.2.2.1, okZ q_.2.1 z) ∧ q_.2.2.2.2.2.2.1.length ≤ q_.1 * 16000 ∧ RowM 48 4 snC q_.2.2.2.2.2.1 (.slice q_.2.2.2.2.2.2.2.1 q_.2.2.2.2.2.2.1.length q_.2.2.2.2.2.2.2.2) q_.2.2.2.2.2.2.1 ∧ St W q_.2.2.1 (q_.2.2.2.1 :: q_.2.2.2.2.1 :: q_.2.2.2.2.2.1 :: cs) w) (fun q_ => l.length - q_.1) (⟨0, [], F, rk, rq, [], [], none, 0⟩) (⟨Nat.zero_le _, Le.refl F, hC0, hQ0, okJ.nil, (fun x hx => by cases hx), okL.nil, (fun z hz => by cases hz), Nat.zero_le _, RowM.nil _ _ _, hSq⟩) ?_
  rintro ⟨i, js, G, r1, r2, rz, zs, Az, cz⟩ w4 ⟨hi, hle, hC, hQ, hokj, hnd, hLL, hzs, hzl, hrz, hL⟩
  try dsimp only at hi hle hC hQ hokj hnd hLL hzs hzl hrz hL
  refine O2 [(0, .slice A l.length cap), (3, .pointer (some ⟨bk, 0, none⟩)), (4, .pointer (some ⟨b19, 0, none⟩)), (5, .slice Az zs.length cz), (6, .int .i64 (i : Int))] ?_
  have hleF := hle
  refine K0<|Wi<|WL.e 2 rfl<|WL.v (Q0 (n := (l.length : Int)) (U0 underlying22 rfl rfl) rfl) rfl<|WL.e 1 rfl<|Wa<|V0 rfl (fun c5 => ?_) (fun c5 => ?_)
  ·try simp only [DD] at c5
   refine L0 (C0 (K0 (WC.block (K0 ?_))))
   have hi2 : i < l.length := by omega
   obtain ⟨ad, A1, cap1, B1, cap2, rfl, hA1, hS1, hsl, hcell⟩ := opAt (hR.mono hleF) hi2
   have hsm := fewO.at_ hfew hi2
   refine I0<|WL.e 4 rfl<|WL.v (E2 underlying22 inf38 rfl rfl (n := i) rfl (by omega)) rfl<|WL.v (O1 (u := .agg #[Vi (l.getD i O0).d, .slice A1 (l.getD i O0).ns.length cap1, .slice B1 (l.getD i O0).ss.length cap2, Vi (l.getD i O0).n, .string (bs (l.getD i O0).tx), Vi (l.getD i O0).now]) (V4 hL hcell underlying38 rfl inf38 rfl rfl) rfl) rfl<|WL.cv can13 rfl rfl (does_c _ hL hC hQ hokj.ok hnd hokj.len hA1 hS1 hsm.1 hsm.2.1 hsm.2.2) fun w6 ⟨G9, r8, r9, hG9, hC9, hQ9, h6⟩ => ?_
   replace hleF := Le.trans hleF hG9
   replace hC := hC9
   replace hQ := hQ9
   refine WL.nil (C0 (K0 ?_))
   have hok2 := hokj.run (l.getD i O0)
   have hnd2 := once_run hnd (l.getD i O0)
   have hL2 := hLL.run hokj (l.getD i O0)
   have hjl2 := hok2.len
   have hz0 : ∀ z ∈ zs, okZ ((l.getD i O0).run js) z := fun z hz => (hzs z hz).nxt (nxt_run js _)
   have hli := fewO.len hfew
   generalize (l.getD i O0).run js = js2 at hC hQ hok2 hnd2 hL2 hjl2 hz0
   refine I0<|WL.e 2 rfl<|N1 can14 rfl rfl (outbox_c _ h6 hC hok2.ok hok2.len (i : Int) (by decide)) ?_
   rintro _ w7 ⟨Gd, rd, Ad, cd, hGd, rfl, hTd, hCd, h7⟩
   refine ⟨_, rfl, ?_⟩
   replace hleF := Le.trans hleF hGd
   replace hC := hCd
   replace hQ := hQ.mono hGd
   refine WL.e 1 rfl<|WL.nil (C0 (K0 ?_))
   have hol : (outM js2 [107] (i : Int)).length ≤ 16000 := by
    have h9 := outM_len hok2.ok [107] (i : Int) js2.length
    rw [List.take_length] at h9
    have := hok2.len
    omega
   refine I0<|WL.e 1 rfl<|Wj<|WC.lp (σ := Nat × Res × List Sn × Option Addr × Nat) (fun q_ => [(0, .slice (some ad) l.length cap), (3, .pointer (some ⟨bk, 0, none⟩)), (4, .pointer (some ⟨b19, 0, none⟩)), (5, .slice q_.2.2.2.1 q_.2.2.1.length q_.2.2.2.2), (6, .int .i64 (i : Int)), (7, .slice Ad (outM js2 [107] (i : Int)).length cd), (8, .int .i64 (q_.1 : Int))]) (fun q_ w => q_.1 ≤ (outM js2 [107] (i : Int)).length ∧ (∀ z ∈ q_.2.2.1, okZ js2 z) ∧ q_.2.2.1.length ≤ i * 16000 + q_.1 ∧ RowM 48 4 snC q_.2.1 (.slice q_.2.2.2.1 q_.2.2.1.length q_.2.2.2.2) q_.2.2.1 ∧ St W Gd (rd :: r9 :: q_.2.1 :: cs) w) (fun q_ => (outM js2 [107] (i : Int)).length - q_.1) (⟨0, rz, zs, Az, cz⟩) (⟨Nat.zero_le _, hz0, hzl, hrz, h7⟩) ?_
   rintro ⟨m, rz2, zs2, Az2, cz2⟩ w8 ⟨hm, hzs2, hzl2, hrz2, hL⟩
   try dsimp only at hm hzs2 hzl2 hrz2 hL
   refine O2 [(0, .slice (some ad) l.length cap), (3, .pointer (some ⟨bk, 0, none⟩)), (4, .pointer (some ⟨b19, 0, none⟩)), (5, .slice Az2 zs2.length cz2), (6, .int .i64 (i : Int)), (7, .slice Ad (outM js2 [107] (i : Int)).length cd), (8, .int .i64 (m : Int))]<|K0<|Wi<|WL.e 2 rfl<|WL.v (Q0 (n := ((outM js2 [107] (i : Int)).length : Int)) (U0 underlying39 rfl rfl) rfl) rfl<|WL.e 1 rfl<|Wa<|V0 rfl (fun c9 => ?_) (fun c9 => ?_)
   ·try simp only [DD] at c9
    refine L0 (C0 (K0 (WC.block (K0 ?_))))
    obtain ⟨ao, hAo, hro⟩ := rd1 hTd (by omega)
    refine I0<|WL.e 2 rfl<|WL.v (Z2 hAo underlying39 inf9 rfl rfl (n := m) rfl (by omega)) rfl<|WL.v (H1 (f := sB) ([] : List UInt8) hL hro (n := m) (by omega) underlying9 rfl rfl) rfl<|N1 can15 rfl rfl (qdec_m _ _ hL (outM_enc (by omega))) ?_
    rintro _ w10 ⟨q, ec, hdec, rfl, h10⟩
    refine ⟨_, rfl,WL.e 3 rfl<|Z1 rfl h10 inf42 fun b9 w11 h11=>X1 h11 0 rfl rfl rfl inf42 rfl rfl rfl (Free.zero _) ?_⟩
    intro  w12 h12
    try simp only [ZZ] at h12
    refine WL.e 1 rfl<|WL.nil (C0 (K0 (K0 ?_)))
    have hb9 := getD_mem (d := []) (l := (outM js2 [107] (i : Int))) (i := m) (by omega)
    obtain ⟨hsm1, hsm2, hsm3⟩ := sent_m hok2 hL2 hb9
    have hno := fun hk => not_oth hok2 hL2 hb9 hk hzs2
    rw [hdec] at hsm1 hsm2 hsm3 hno
    replace hsm1 : ec = 0 := hsm1
    replace hsm2 : q.f = -1 := hsm2
    ·skip
     refine I0<|WL.e 1 rfl<|WL.v (Bf (T1 rfl rfl) (by rw [decide_eq_true hsm1]; rfl)) rfl<|Y0 h12 [0] 3 rfl<|WL.gn rfl<|WL.v (Bf (T1 rfl rfl) (by rw [decide_eq_true hsm2]; rfl)) rfl<|WL.e 1 rfl<|Wa<|W0 rfl (rfl)<|L0 (C0 (K0 (K0 ?_)))
     have hq45 : (¬ q.k = 4 ∧ ¬ q.k = 5) ∨ q.k = 4 ∨ (¬ q.k = 4 ∧ q.k = 5) := by omega
     rcases hq45 with ⟨hq4, hq5⟩ | hq4 | ⟨hq4, hq5⟩
     ·skip
      refine I0<|Y0 h12 [0] 2 rfl<|WL.v (Bt (T1 rfl rfl) (by rw [decide_eq_false hq4]; rfl)) rfl<|Y0 h12 [0] 3 rfl<|WL.gn rfl<|WL.v (Bt (T1 rfl rfl) (by rw [decide_eq_false hq5]; rfl)) rfl<|WL.e 1 rfl<|Wa<|C1 rfl (rfl)<|WC.exit<|U1<|V1<|C0<|I0<|WL.e 1 rfl<|WL.v (R0 rfl rfl (by omega)) rfl<|WL.e 1 rfl<|WL.nil<|Z0 (⟨m + 1, rz2, zs2, Az2, cz2⟩ : Nat × Res × List Sn × Option Addr × Nat) (by show (outM js2 [107] (i : Int)).length - (m + 1) < (outM js2 [107] (i : Int)).length - m; omega) ⟨rfl, rfl, rfl, rfl, rfl, rfl, rfl, trivial⟩ ⟨by show m + 1 ≤ _; omega, hzs2, by show zs2.length ≤ _; omega, hrz2, h12.drop 0⟩
     ·have hqk : q.k = 4 ∨ q.k = 5 := .inl hq4
      replace hno := hno hqk
      refine I0<|Y0 h12 [0] 2 rfl<|WL.v (Bf (T1 rfl rfl) (by rw [decide_eq_true hq4]; rfl)) rfl<|WL.e 5 rfl<|Wa<|W0 rfl (rfl)<|L0<|C0<|K0<|Wi<|WL.e 1 rfl<|WL.v (J2 h12 0 rfl underlying42 rfl inf42 rfl rfl) rfl<|WL.cv can16 rfl rfl (other_row _ h12 (i := 3) rfl hrz2 rfl (by omega) hno) fun w13 h13 =>Wa<|W0 rfl (rfl)<|L0<|C0<|I0<|Y0 h13 [0, 0, 0, 0] 9 rfl<|WL.v (I2 (vs := [(0, Vi q.j), (1, Vi q.ep), (2, Vi q.st), (3, Vi q.k)]) (cells := #[Vi q.j, Vi q.ep, Vi q.st, Vi q.k]) rfl (by kernel_rfl)) rfl<|WL.buildSlice (vs := [.agg #[Vi q.j, Vi q.ep, Vi q.st, Vi q.k]]) h13 rfl underlying31 (inf48.elem rfl rfl) rfl rfl rfl (by decide) ?_
      intro lit78 w14 h14
      try simp only [ZZ] at h14
      refine T5 (f := snC) (ys := [⟨q.j, q.ep, q.st, q.k⟩]) 4 h14 rfl rfl rfl rfl underlying31 underlying31 (.inr ⟨_, rfl⟩) (inf48.elem rfl rfl) hrz2 (Src.litM h14 0 rfl rfl rfl) rfl (by first | omega | (simp; done) | (simp; omega)) (by first | omega | (simp; done) | (simp; omega)) ?_
      intro r15 v15 w16 hr15 h16
      simp only [lz, ls] at h16
      replace h16 := h16.drop 0
      simp only [ez, es'] at h16
      obtain ⟨A15, cap15, rfl, hcap15⟩ := hr15.val
      refine WL.e 1 rfl<|WL.nil<|WN.blk<|C0<|I0<|WL.e 1 rfl<|WL.v (R0 rfl rfl (by omega)) rfl<|WL.e 1 rfl<|WL.nil ?_
      have hzl9 : (zs2 ++ [(⟨q.j, q.ep, q.st, q.k⟩ : Sn)]).length = zs2.length + 1 := by rw [List.length_append]; rfl
      have hz9 : ∀ z ∈ zs2 ++ [(⟨q.j, q.ep, q.st, q.k⟩ : Sn)], okZ js2 z := fun z hz => by
       rcases List.mem_append.1 hz with hz | hz
       ·exact hzs2 z hz
       ·rw [List.mem_singleton.1 hz]; exact hsm3 hqk
      exact Z0 (⟨m + 1, r15, zs2 ++ [⟨q.j, q.ep, q.st, q.k⟩], _, _⟩ : Nat × Res × List Sn × Option Addr × Nat) (by show (outM js2 [107] (i : Int)).length - (m + 1) < (outM js2 [107] (i : Int)).length - m; omega) ⟨rfl, rfl, rfl, rfl, rfl, rfl, rfl, trivial⟩ ⟨by show m + 1 ≤ _; omega, hz9, by show (zs2 ++ [(⟨q.j, q.ep, q.st, q.k⟩ : Sn)]).length ≤ _; omega, hr15, h16.drop 0⟩
     ·have hqk : q.k = 4 ∨ q.k = 5 := .inr hq5
      replace hno := hno hqk
      refine I0<|Y0 h12 [0] 2 rfl<|WL.v (Bt (T1 rfl rfl) (by rw [decide_eq_false hq4]; rfl)) rfl<|Y0 h12 [0] 3 rfl<|WL.gn rfl<|WL.v (Bf (T1 rfl rfl) (by rw [decide_eq_true hq5]; rfl)) rfl<|WL.e 1 rfl<|Wa<|W0 rfl (rfl)<|L0<|C0<|K0<|Wi<|WL.e 1 rfl<|WL.v (J2 h12 0 rfl underlying42 rfl inf42 rfl rfl) rfl<|WL.cv can16 rfl rfl (other_row _ h12 (i := 3) rfl hrz2 rfl (by omega) hno) fun w17 h17 =>Wa<|W0 rfl (rfl)<|L0<|C0<|I0<|Y0 h17 [0, 0, 0, 0] 9 rfl<|WL.v (I2 (vs := [(0, Vi q.j), (1, Vi q.ep), (2, Vi q.st), (3, Vi q.k)]) (cells := #[Vi q.j, Vi q.ep, Vi q.st, Vi q.k]) rfl (by kernel_rfl)) rfl<|WL.buildSlice (vs := [.agg #[Vi q.j, Vi q.ep, Vi q.st, Vi q.k]]) h17 rfl underlying31 (inf48.elem rfl rfl) rfl rfl rfl (by decide) ?_
      intro lit78 w18 h18
      try simp only [ZZ] at h18
      refine T5 (f := snC) (ys := [⟨q.j, q.ep, q.st, q.k⟩]) 4 h18 rfl rfl rfl rfl underlying31 underlying31 (.inr ⟨_, rfl⟩) (inf48.elem rfl rfl) hrz2 (Src.litM h18 0 rfl rfl rfl) rfl (by first | omega | (simp; done) | (simp; omega)) (by first | omega | (simp; done) | (simp; omega)) ?_
      intro r19 v19 w20 hr19 h20
      simp only [lz, ls] at h20
      replace h20 := h20.drop 0
      simp only [ez, es'] at h20
      obtain ⟨A19, cap19, rfl, hcap19⟩ := hr19.val
      refine WL.e 1 rfl<|WL.nil<|WN.blk<|C0<|I0<|WL.e 1 rfl<|WL.v (R0 rfl rfl (by omega)) rfl<|WL.e 1 rfl<|WL.nil ?_
      have hzl9 : (zs2 ++ [(⟨q.j, q.ep, q.st, q.k⟩ : Sn)]).length = zs2.length + 1 := by rw [List.length_append]; rfl
      have hz9 : ∀ z ∈ zs2 ++ [(⟨q.j, q.ep, q.st, q.k⟩ : Sn)], okZ js2 z := fun z hz => by
       rcases List.mem_append.1 hz with hz | hz
       ·exact hzs2 z hz
       ·rw [List.mem_singleton.1 hz]; exact hsm3 hqk
      exact Z0 (⟨m + 1, r19, zs2 ++ [⟨q.j, q.ep, q.st, q.k⟩], _, _⟩ : Nat × Res × List Sn × Option Addr × Nat) (by show (outM js2 [107] (i : Int)).length - (m + 1) < (outM js2 [107] (i : Int)).length - m; omega) ⟨rfl, rfl, rfl, rfl, rfl, rfl, rfl, trivial⟩ ⟨by show m + 1 ≤ _; omega, hz9, by show (zs2 ++ [(⟨q.j, q.ep, q.st, q.k⟩ : Sn)]).length ≤ _; omega, hr19, h20.drop 0⟩
   ·try simp only [DD] at c9
    refine WC.exit<|U1<|WX.cut<|V1<|WN.blk<|C0<|I0<|WL.e 1 rfl<|WL.v (R0 rfl rfl (by omega)) rfl<|WL.e 1 rfl<|WL.nil<|Z0 (⟨i + 1, js2, Gd, rd, r9, rz2, zs2, Az2, cz2⟩ : Nat × List J × Snap × Res × Res × Res × List Sn × Option Addr × Nat) (by show l.length - (i + 1) < l.length - i; omega) ⟨rfl, rfl, rfl, rfl, rfl, trivial⟩ ⟨by show i + 1 ≤ _; omega, hleF, hC, hQ, hok2, hnd2, hL2, hzs2, by show zs2.length ≤ (i + 1) * 16000; omega, hrz2, hL⟩
  ·try simp only [DD] at c5
   refine WC.exit<|U1<|WX.cut<|V1<|C0<|Wi<|WL.cv can11 rfl rfl (live_c _ hL) fun w21 ⟨G21, hG21, h21⟩ => ?_
   replace hleF := Le.trans hleF hG21
   refine WL.e 1 rfl<|Wg<|ret1 rfl rfl ⟨rfl, ((((h21.drop 0).drop 0).drop 0)).weak hleF⟩
 ·skip
  refine I0<|WL.e 1 rfl<|WL.cv can10 rfl rfl (smallO_c _ 50 h hR hl) fun w22 h22 =>WL.v (Bt (F1 rfl) (by rw [hfew]; rfl)) rfl<|Wa<|C1 rfl (rfl)<|Wi<|WL.cv can11 rfl rfl (live_c _ h22) fun w23 ⟨G23, hG23, h23⟩ => ?_
  replace hleF := Le.trans hleF hG23
  refine WL.e 1 rfl<|Wg<|ret1 rfl rfl ⟨rfl, h23.weak hleF⟩
theorem never_row {cs : List Res} (w : World) {A : Option Addr} {cap : Nat} {l : List O} (h : St W F cs w) (hR : RdS KO F A l) (hl : l.length ≤ 9223372036854775807) : Calls prog 3 #[.slice A l.length cap] w fun r w' => r = .returned (.bool true) ∧ St W F cs w' := never_law w (cap := cap) h hR hl
end Ct
end Go.Proofs.YtifdpllfbaogcaaGreat
