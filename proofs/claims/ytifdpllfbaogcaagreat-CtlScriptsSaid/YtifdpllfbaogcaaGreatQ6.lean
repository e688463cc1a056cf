/- Joined texts: X14 .. Y5. -/
import Derived.Test.YtifdpllfbaogcaaGreatQ5
import Derived.KernelRfl
set_option linter.unusedVariables false
set_option linter.unusedSimpArgs false
set_option maxRecDepth 100000
set_option maxHeartbeats 32000000
namespace Go.Proofs.YtifdpllfbaogcaaGreat
open Go Go.RowKit B Tryz
variable {W : World} {F : Snap}
section
variable {cs : List Res}
open Dg (S E S0 E0 KS KE chkM settleM readyM overM withM okAll)
open Tal (T TR RR okN)
open Wir (M encB decB mayM mayN numB textB)
open Cr (C signM)
namespace Ct
theorem inf66 : Inf prog 66 (.slice none 0 0) 1 24 := by unfold Inf; kernel_rfl
theorem inf73 : Inf prog 73 (.slice none 0 0) 1 24 := by unfold Inf; kernel_rfl
theorem fld68_4 : fldB prog 68 4 4 = true := by kernel_rfl
theorem CtlO.snoc {F : Snap} {js : List J} {qs : List Nat} {rj : List Res} (h : CtlO F js qs rj) {b : Nat} {x : J} {r : Res} (hJ : JobR F r b x) : CtlO F (js ++ [x]) (qs ++ [b]) (rj ++ [r]) := by
 have hlq := h.lq
 have hlr := h.lr
 refine ⟨by simp [hlq], by simp [hlr], fun i y hy => ?_⟩
 by_cases hi : i < js.length
 ·rw [List.getElem?_append_left hi] at hy
  obtain ⟨q, h1, h2⟩ := h.at_ i y hy
  refine ⟨q, by rw [List.getElem?_append_left (by omega)]; exact h1, ?_⟩
  rw [gD, List.getElem?_append_left (by omega), ← gD]
  exact h2
 have hi2 : i < (js ++ [x]).length := (List.getElem?_eq_some_iff.1 hy).1
 rw [lA] at hi2
 have hi3 : i = js.length := by
  have : ([x] : List J).length = 1 := rfl
  omega
 subst hi3
 rw [List.getElem?_append_right (Nat.le_refl _), Nat.sub_self] at hy
 obtain rfl := Option.some.inj hy
 refine ⟨r, by rw [← hlr, List.getElem?_append_right (Nat.le_refl _), Nat.sub_self]; rfl, ?_⟩
 rw [gD, ← hlq, List.getElem?_append_right (Nat.le_refl _), Nat.sub_self]
 exact hJ
theorem sub_n {js : List J} {ns : List Int} {ss : List S} {e : Int} (h : subE js ns ss = e) (he : ¬ e = 0) : subM js ns ss = ((0, e), js) := by
 subst h
 exact if_neg he
theorem sub_y {js : List J} {ns : List Int} {ss : List S} (h : subE js ns ss = 0) : subM js ns ss = (((js.length : Int) + 1, 0), js ++ [newJ ns ss js.length]) := if_pos h
theorem sub_a {js : List J} {ns : List Int} {ss : List S} (h : ¬ okN ns) : subE js ns ss = 1 := if_pos h
theorem sub_b {js : List J} {ns : List Int} {ss : List S} (h : okN ns) (h2 : ¬ chkM ss = 0) : subE js ns ss = chkM ss := by
 unfold subE
 rw [if_neg (fun hh => hh h), if_pos h2]
theorem sub_c {js : List J} {ns : List Int} {ss : List S} (h : okN ns) (h2 : chkM ss = 0) (h3 : wideM ss = true) : subE js ns ss = 1 := by
 unfold subE
 rw [if_neg (fun hh => hh h), if_neg (fun hh => hh h2), if_pos h3]
theorem sub_d {js : List J} {ns : List Int} {ss : List S} (h : okN ns) (h2 : chkM ss = 0) (h3 : wideM ss = false) (h4 : (js.length : Int) = 16) : subE js ns ss = 6 := by
 unfold subE
 rw [if_neg (fun hh => hh h), if_neg (fun hh => hh h2), if_neg (by rw [h3]; simp), if_pos (by omega)]
theorem sub_e {js : List J} {ns : List Int} {ss : List S} (h : okN ns) (h2 : chkM ss = 0) (h3 : wideM ss = false) (h4 : ¬ (js.length : Int) = 16) : subE js ns ss = 0 := by
 unfold subE
 rw [if_neg (fun hh => hh h), if_neg (fun hh => hh h2), if_neg (by rw [h3]; simp), if_neg (by omega)]
def ES0 : ES := ⟨S0, none, 0⟩
theorem getD_at {α : Type} {l : List α} {i : Nat} (d : α) (h : i < l.length) : l[i]? = some (l.getD i d) := by
 rw [gD, gE h]; rfl
theorem step_rng {ss : List S} (h : chkM ss = 0) : ∀ s ∈ ss, (1 ≤ s.rk ∧ s.rk ≤ 32) ∧ 1 ≤ s.per ∧ s.per ≤ 256 := fun s hs => by
 obtain ⟨i, hi, rfl⟩ := List.getElem_of_mem hs
 have h1 := ((Dg.chk_ok h).1 i hi).1
 have e : ss.getD i S0 = ss[i] := by rw [gD, gE hi]; rfl
 rw [e] at h1
 have h2 := h1.1
 have h3 := h1.2.1
 unfold Dg.inB at h2 h3
 simp only [decide_eq_true_eq] at h2 h3
 exact ⟨h2, h3⟩
theorem es_at {es : List ES} {i : Nat} {ss : List S} (h : es.map (·.s) = ss) (hi : i < es.length) : (es.getD i ES0).s = ss.getD i S0 := by
 rw [← h, gD (l := es.map (·.s)), List.getElem?_map, getD_at ES0 hi]; rfl
theorem es_map {es : List ES} {i : Nat} {ss : List S} {A : Option Addr} {c : Nat} (h : es.map (·.s) = ss) (hi : i < es.length) : (es.set i { es.getD i ES0 with A := A, cap := c }).map (·.s) = ss := by
 rw [List.map_set, ← h]
 refine set_same (d := S0) (by rw [List.length_map]; exact hi) ?_
 rw [gD, List.getElem?_map, getD_at ES0 hi]; rfl
theorem submit_c (w : World) {r : Res} {b : Nat} {key : List UInt8} {js : List J} (h : St W F (r :: cs) w) (hC : CtlR F r b key js) (hok : ∀ x ∈ js, x.ok) (hjl : js.length ≤ 16) {ns : List Int} {ss : List S} {A B : Option Addr} {cap cap2 : Nat} (hA : RdS (Kd.one Vi) F A ns) (hB : RdS KS F B ss) (hnl : ns.length ≤ 100000) (hsl : ss.length ≤ 100000) (hf : Dg.fewE ss) : Calls prog 24 #[pz b, .agg #[.slice A ns.length cap, .slice B ss.length cap2]] w fun e w' => e = .returned (.tuple #[Vi (subM js ns ss).1.1, Vi (subM js ns ss).1.2]) ∧ ∃ G r', Le F G ∧ CtlR G r' b key ((subM js ns ss).2) ∧ St W G (r' :: cs) w'  := by
 refine enter (args := [pz b, .agg #[.slice A ns.length cap, .slice B ss.length cap2]]) func24 rfl rfl rfl ?_
 obtain ⟨A0, cap0, rP, qs, rj, h, hr, hK⟩ := CtlR.open_ h hC
 have hlq := hK.lq
 have hlr := hK.lr
 refine Wi<|J3 rfl h rfl fun b3 w1 h1=>C0 2 rfl<|J0 (H0 (N0 ?_))
 obtain ⟨G0, hG0, hfr0, h1⟩ := h1.freeze (i := 0) rfl
 have hfz3 : G0 b3 = some (.cells #[.slice A ns.length cap, .slice B ss.length cap2] 36 (0, 0)) := hfr0 _ List.mem_cons_self
 replace hK := hK.mono hG0
 replace hA := hA.mono hG0
 replace hB := hB.mono hG0
 refine L0<|C0 1 rfl<|We<|C0 1 rfl<|I0 (K0 underlying34 rfl rfl (h1.cell (cellB hfz3 rfl))) rfl<|C1 (cn func54) rfl rfl (Dg.check_c _ h1 hB hsl hf) fun w2 h2 =>C0 1 rfl<|Wb<|M1<|Wi<|C0 1 rfl<|I0 (Bf (L2 underlying25 rfl rfl) rfl) rfl<|C0 2 rfl<|Q0 rfl<|I0 (K0 underlying33 rfl rfl (h2.cell (cellB hfz3 rfl))) rfl<|Q0 rfl<|C1 (cn func55) rfl rfl (nodes_c _ h2 hA hnl) fun w3 h3 =>C0 3 rfl<|Wa<|Z0 rfl (fun c4 => ?_) (fun c4 => ?_)
 ·try simp only [DD] at c4
  refine Wi<|C0 2 rfl<|J0 (H0 (O1 ?_))
  obtain ⟨r7, hC7, hS7⟩ := CtlR.close h3 hr hK
  refine ret2 rfl rfl rfl ?_
  rw [sub_n (e := _) (sub_a c4) (by first | decide | exact «c22»)]
  exact ⟨rfl, G0, r7, hG0, hC7, hS7⟩
 try simp only [DD] at c4
 refine Wi<|C0 3 rfl<|Wa<|Z0 rfl (fun c5 => ?_) (fun c5 => ?_)
 ·try simp only [DD] at c5
  refine Wi<|C0 3 rfl<|J0 (H0 (O1 ?_))
  obtain ⟨r7, hC7, hS7⟩ := CtlR.close h3 hr hK
  refine ret2 rfl rfl rfl ?_
  rw [sub_n (e := _) (sub_b c4 c5) (by first | decide | exact c5)]
  exact ⟨rfl, G0, r7, hG0, hC7, hS7⟩
 try simp only [DD] at c5
 refine Wi<|C0 1 rfl<|I0 (K0 underlying34 rfl rfl (h3.cell (cellB hfz3 rfl))) rfl<|C0 1 rfl<|C1 (cn func56) rfl rfl (cfS_c _ 53 (fun s => decide (256 < s.rk * s.per)) (cn func53) h3 hB hsl (fun w s A' cap' hs h => wide_c w s h (step_rng c5 s hs).1 (step_rng c5 s hs).2)) fun w6 h6 =>C0 1 rfl<|Wa<|Z0 rfl (fun c7 => ?_) (fun c7 => ?_)
 ·try simp only [DD] at c7
  refine Wi<|C0 2 rfl<|J0 (H0 (O1 ?_))
  obtain ⟨r7, hC7, hS7⟩ := CtlR.close h6 hr hK
  refine ret2 rfl rfl rfl ?_
  rw [sub_n (e := _) (sub_c c4 c5 c7) (by first | decide | exact c5)]
  exact ⟨rfl, G0, r7, hG0, hC7, hS7⟩
 try simp only [DD] at c7
 refine Wi<|H1 h6 [0] 4 rfl<|I0 (R0 (n := (js.length : Int)) (Y0 underlying73 rfl rfl) (congrArg (fun n : Nat => (n : Int)) hlq)) rfl<|C0 2 rfl<|Wa<|Z0 rfl (fun c8 => ?_) (fun c8 => ?_)
 ·try simp only [DD] at c8
  refine Wi<|C0 2 rfl<|J0 (H0 (O1 ?_))
  obtain ⟨r7, hC7, hS7⟩ := CtlR.close h6 hr hK
  refine ret2 rfl rfl rfl ?_
  rw [sub_n (e := _) (sub_d c4 c5 c7 c8) (by first | decide | exact c5)]
  exact ⟨rfl, G0, r7, hG0, hC7, hS7⟩
 try simp only [DD] at c8
 refine U0<|N1<|H0<|N0<|V2 h6 h6 (fun s_ => ([] : List Nat).any (Nat.beq s_)) mixed (by kernel_rfl)<|fun hx =>fun w9 h9=>L3 hx [0, 3, 7, 8, 9] rfl<|V3 12 hx 1 (by rfl) (fun w_ hE_ => K0 underlying33 rfl rfl (hE_.cell (cellB hfz3 rfl))) rfl<|V3 12 hx 4 (by rfl) (fun w_ hE_ => K0 underlying34 rfl rfl (hE_.cell (cellB hfz3 rfl))) rfl<|J4 hx 12 [10] [10] [0] rfl<|Z2 hx 11 (by rfl) (fun w_ => R0 (n := (js.length : Int)) (Y0 underlying73 rfl rfl) (congrArg (fun n : Nat => (n : Int)) hlq)) rfl<|Z2 hx 12 (by rfl) (fun w_ => V0 rfl rfl (by omega)) rfl<|F3 2 h9 (by rfl)<|V1 (cn func44) rfl rfl (Tal.clone_c _ h9 hA c4.1 hnl) ?_
 rintro _ w10 ⟨rN, vN, rfl, hrN, h10⟩
 refine ⟨_, rfl, ?_⟩
 obtain ⟨aN, cN, rfl, hcN⟩ := hrN.val
 refine J0<|H2<|F3 5 (h10.drop 0) (by rfl)<|V1 (cn func57) rfl rfl (cloneSt_c _ h10 hB hsl) ?_
 rintro _ w11 ⟨rS, vS, es0, rfl, hrS, hes0, hpe0, h11⟩
 refine ⟨_, rfl, ?_⟩
 obtain ⟨aS, cS, rfl, hcS⟩ := hrS.val
 have hel0 : es0.length = ss.length := by rw [← hes0, List.length_map]
 rw [hel0] at hrS hcS ⊢
 obtain ⟨adS, rfl⟩ : ∃ ad, aS = some ad := RowM.some hrS (by have := (Dg.chk_ok c5).2.1; omega)
 refine J0<|H2<|Z2 hx 6 (by rfl) (fun w_ => R2 (vs := [(0, .slice aN ns.length cN), (1, .slice (some adS) ss.length cS)]) (cells := #[.slice aN ns.length cN, .slice (some adS) ss.length cS]) rfl (by kernel_rfl)) rfl<|Z2 hx 13 (by rfl) (fun w_ => R2 (vs := [(0, .agg #[.slice aN ns.length cN, .slice (some adS) ss.length cS]), (1, Vi ((js.length : Int) + 1))]) (cells := #[.slice aN ns.length cN, .slice (some adS) ss.length cS, Vi ((js.length : Int) + 1), Vi 0, Vi 0, Vi 0, Vi 0, .slice none 0 0, .slice none 0 0, .map none, .map none, .bool false]) rfl (by kernel_rfl)) rfl<|F3 14 ((h11.drop 1).drop 0) (by rfl)<|J3 rfl h11 rfl fun b52 w12 h12=>J0<|H2<|L3 hx [15] rfl<|H3 (.inr (((h12.drop 2).drop 1).drop 0)) (by kernel_rfl)<|H0 (N0 (N0 ?_))
 have hchk := c5
 obtain ⟨G1, hG1, hf1, h12⟩ := h12.freeze (i := 2) rfl
 have hAN1 := Row.read hrN rfl hf1
 have hpe1 : ∀ e ∈ es0, RdS KE G1 e.A e.s.af := fun e he => (hpe0 e he).mono hG1
 replace h12 : St W G1 ([(b52, .cells #[.slice aN ns.length cN, .slice (some adS) ss.length cS, Vi ((js.length : Int) + 1), Vi 0, Vi 0, Vi 0, Vi 0, .slice none 0 0, .slice none 0 0, .map none, .map none, .bool false] 83 (0, 0))] :: rS :: kB b key A0 qs.length cap0 :: rP :: (rj ++ cs)) w12 := h12
 refine L0<|H1 h12 [0] 5 rfl<|I0 (R0 (n := (ss.length : Int)) (Y0 underlying34 rfl rfl) rfl) rfl<|C0 1 rfl<|Wj<|B3 (σ := Nat × Snap × List ES × Res) (fun q_ => [(0, pz b), (8, pz b52), (58, .int .i64 (ss.length : Int)), (59, .int .i64 (q_.1 : Int))]) (fun q_ w => q_.1 ≤ ss.length ∧ Le G1 q_.2.1 ∧ RowM 68 5 ES.c q_.2.2.2 (.slice (some adS) ss.length cS) q_.2.2.1 ∧ q_.2.2.1.map (·.s) = ss ∧ (∀ e ∈ q_.2.2.1, RdS KE q_.2.1 e.A e.s.af) ∧ St W q_.2.1 ([(b52, .cells #[.slice aN ns.length cN, .slice (some adS) ss.length cS, Vi ((js.length : Int) + 1), Vi 0, Vi 0, Vi 0, Vi 0, .slice none 0 0, .slice none 0 0, .map none, .map none, .bool false] 83 (0, 0))] :: q_.2.2.2 :: kB b key A0 qs.length cap0 :: rP :: (rj ++ cs)) w) (fun q_ => ss.length - q_.1) (⟨0, G1, es0, rS⟩) (⟨Nat.zero_le _, Le.refl _, hrS, hes0, hpe1, h12⟩) ?_
 rintro ⟨i, G2, es, rSl⟩ w13 ⟨hi, hle2, hrSl, hes, hpe, hL⟩
 try dsimp only at hi hle2 hrSl hes hpe hL
 refine W2 [(0, pz b), (8, pz b52), (58, .int .i64 (ss.length : Int)), (59, .int .i64 (i : Int))]<|Wi<|C0 1 rfl<|Wb<|Z0 rfl (fun c14 => ?_) (fun c14 => ?_)
 ·try simp only [DD] at c14
  refine U0<|H0<|N0<|M1<|Wi<|C0 2 rfl<|J0 (H0 ?_)
  have hi2 : i < ss.length := by omega
  have hel : es.length = ss.length := by rw [← hes, List.length_map]
  have hie : i < es.length := by omega
  have hes2 := es_at hes hie
  refine V2 hL hL (fun s_ => ([18] : List Nat).any (Nat.beq s_)) mixed (by kernel_rfl)<|fun hx =>fun w15 h15=>J4 hx 12 [4, 10] [0, 1, 2, 3, 5, 6, 7, 8, 9, 11, 4, 10] [0, 0] rfl<|Z2 hx 12 (by rfl) (fun w_ => N2 underlying34 inf68 rfl rfl (n := i) rfl (by omega)) rfl<|L3 hx [13] rfl<|V3 12 hx 14 (by rfl) (fun w_ hE_ => K0 underlying66 rfl rfl (RowM.cellAt (f := ES.c) (i := 1) (k := 4) (u := .slice (es.getD i ES0).A (es.getD i ES0).s.af.length (es.getD i ES0).cap) (fun _ => rfl) hrSl hE_ rfl (getD_at ES0 hie) rfl)) rfl<|F3 15 h15 (by rfl)<|V1 (cn func58) rfl rfl (cloneEd_c _ h15 (hpe _ (getD_mem hie)) (by rw [hes2]; exact hf i hi2)) ?_
  rintro _ w16 ⟨G3, AE, cE, hG3, rfl, hrE, h16⟩
  refine ⟨_, rfl,J0<|H2<|Z2 hx 16 (by rfl) (fun w_ => N2 underlying34 inf68 rfl rfl (n := i) rfl (by omega)) rfl<|L3 hx [17] rfl<|F3 18 (h16.weak hG3) (by rfl)<|WL.storeM h16 1 (fun _ => rfl) (f := ES.c) (e := es.getD i ES0) (e' := { es.getD i ES0 with A := AE, cap := cE }) rfl hrSl rfl (getD_at ES0 hie) (k := 4) (by omega) rfl rfl rfl inf66 rfl ?_⟩
  intro r17 w18 hr17 h18
  try simp only [ZZ] at h18
  refine J0<|H2<|H3 (.inl ⟨18, rfl, by kernel_rfl⟩) (by kernel_rfl)<|N1<|H0<|L0<|I0 (V0 rfl rfl (by omega)) rfl<|C0 1 rfl<|J0<|F1 (⟨i + 1, G3, _, r17⟩ : Nat × Snap × List ES × Res) (by show ss.length - (i + 1) < ss.length - i; omega) ⟨rfl, rfl, rfl, rfl, trivial⟩ ⟨by show i + 1 ≤ _; omega, Le.trans hle2 hG3, hr17, es_map hes hie, (fun e he => by
   rcases List.mem_or_eq_of_mem_set he with he | rfl
   ·exact (hpe e he).mono hG3
   exact hrE), h18⟩
 try simp only [DD] at c14
 refine U1 (B2 (WX.cut (E2 (H0 (N0 ?_)))))
 obtain ⟨G4, hG4, hf4, hL⟩ := hL.freeze (i := 1) rfl
 have hBS := ES.frz (RowM.read (f := ES.c) (m := 5) (fun _ => rfl) hrSl rfl hf4) hes (fun e he => (hpe e he).mono hG4)
 have hAN := hAN1.mono (Le.trans hle2 hG4)
 have hle4 := Le.trans hG1 (Le.trans hle2 hG4)
 refine L0<|C0 1 rfl<|C1 (cn func59) rfl rfl (begin_c (x := (⟨ns, ss, (js.length : Int) + 1, 0, 0, 0, 0, [], [], [], [], false⟩ : J)) _ hL hAN hBS (Dg.chk_ok hchk).2.1.1 (Dg.chk_ok hchk).2.1.2) fun w19 ⟨r8, hJ8, h19⟩ =>We<|H1 h19 [1] 6 rfl<|X2 (vs := (([b52] : List Nat)).map pj) h19 rfl underlying73 inf76 rfl rfl rfl rfl rfl fun lit89 w20 h20=>I3 (ys := ([b52] : List Nat)) 3 h20 rfl rfl rfl rfl underlying73 underlying73 (.inr ⟨_, rfl⟩) inf76 rfl hr (Src.lit h20 0 rfl rfl rfl) rfl rfl (by first | omega | (simp []; done) | (simp []; omega)) (by first | omega | (simp []; done) | (simp []; omega)) ?_
 intro r21 v21 w22 hr21 h22
 simp only [lz, ls] at h22
 replace h22 := h22.drop 0
 simp only [ez, es'] at h22
 obtain ⟨Aq21, cq21, rfl, hcq21⟩ := hr21.val
 refine C0 2 rfl<|O3 h22 1 rfl rfl rfl inf73 rfl rfl ?_
 intro  w23 h23
 try simp only [ZZ] at h23
 refine J0 (H0 (N0 ?_))
 obtain ⟨bC, bT, m1, m2, Aj, Bj, capj, cap2j, ps, zc, zt, fc, ft, l1, l2, tm, h23, hO⟩ := JobR.open_ h23 hJ8
 refine L0<|C0 3 rfl<|I0 (R0 (n := ((js.length : Int) + 1)) (K0 underlying3 rfl rfl (h23.ocell (i := 0) rfl rfl)) rfl) rfl<|C0 2 rfl<|J0 (H0 (O1 ?_))
 obtain ⟨r9, hJ9, hS9⟩ := JobR.close (x := newJ ns ss js.length) h23 hO
 replace hS9 := St.back1 hS9
 rw [show rj ++ (r9 :: cs) = (rj ++ [r9]) ++ cs by simp] at hS9
 obtain ⟨r7, hC7, hS7⟩ := CtlR.close (js := js ++ [newJ ns ss js.length]) (qs := qs ++ [b52]) hS9 hr21 ((hK.mono hle4).snoc hJ9)
 refine ret2 rfl rfl rfl ?_
 rw [sub_y (sub_e c4 c5 c7 c8)]
 exact ⟨rfl, G4, r7, Le.trans hG0 hle4, hC7, hS7⟩
theorem inf169 : Inf prog 169 (.agg #[.int .i64 0, .int .i64 0, .int .i64 0, .int .i64 0, .int .i64 0, .slice none 0 0, .int .i64 0]) 7 72 := by unfold Inf; kernel_rfl
theorem inf187 : Inf prog 187 (.agg #[.string ⟨#[]⟩, .int .i64 0, .int .i64 0, .int .i64 0, .int .i64 0]) 5 48 := by unfold Inf; kernel_rfl
theorem fld68_2 : fldB prog 68 2 2 = true := by kernel_rfl
theorem fld68_3 : fldB prog 68 3 3 = true := by kernel_rfl
def okR (s : S) : Prop := (1 ≤ s.rk ∧ s.rk ≤ 32) ∧ (1 ≤ s.per ∧ s.per ≤ 256) ∧ (0 ≤ s.ds ∧ s.ds ≤ 1) ∧ 1 ≤ s.lim ∧ s.lim ≤ 1073741824
def n4 (s : S) : List Int := [s.rk, s.per, s.ds, s.lim]
theorem n4_at (s : S) {k : Nat} (hk : k < 4) : (#[Vi s.rk, Vi s.per, Vi s.ds, Vi s.lim])[k]? = some (Vi ((n4 s).getD k 0)) := by
 have : k = 0 ∨ k = 1 ∨ k = 2 ∨ k = 3 := by omega
 rcases this with rfl | rfl | rfl | rfl <;> rfl
theorem pack_n4 (cr : List UInt8) (s : S) : textB cr ++ (n4 s).flatMap numB = packM cr s := by simp [n4, packM]
theorem step_ok {ss : List S} (h : chkM ss = 0) {i : Nat} (hi : i < ss.length) : okR (ss.getD i S0) := by
 have h1 := ((Dg.chk_ok h).1 i hi).1
 have a := h1.1
 have b := h1.2.1
 have c := h1.2.2.1
 have d := h1.2.2.2
 unfold Dg.inB at a b c d
 simp only [decide_eq_true_eq] at a b c d
 exact ⟨a, b, c, d⟩
theorem sign_len (k : List UInt8) (c : C) : (signM k c).length ≤ 400 := by
 unfold Cr.signM
 split
 ·exact Nat.zero_le _
 rw [lA, Cr.hmac_len]
 have := Cr.encC_len (c := c)
 omega
theorem ain_c (w : World) (n a b : Int) (h : St W F cs w) (hn : a ≤ n ∧ n ≤ b) : Calls prog 174 #[Vi n, Vi a, Vi b] w fun r w' => r = .returned (.bool true) ∧ St W F cs w'  := by
 refine enter (args := [Vi n, Vi a, Vi b]) func174 rfl rfl rfl<|Wi<|C0 1 rfl<|We<|C0 2 rfl<|I0 (Bt (T1 rfl rfl) (dA (by omega))) rfl<|C0 3 rfl<|Q0 rfl<|I0 (Bt (Z1 rfl rfl) (dA (by omega))) rfl<|C0 2 rfl<|Wg<|ret1 rfl rfl ⟨rfl, h⟩
theorem amay_c (w : World) (cr : List UInt8) (s : S) (h : St W F cs w) (hc : cr.length ≤ 400) (hs : okR s) : Calls prog 167 #[.agg #[.string (bs cr), Vi s.rk, Vi s.per, Vi s.ds, Vi s.lim]] w fun r w' => r = .returned (.bool true) ∧ St W F cs w'  := by
 refine enter (args := [.agg #[.string (bs cr), Vi s.rk, Vi s.per, Vi s.ds, Vi s.lim]]) func167 rfl rfl rfl ?_
 obtain ⟨hs1, hs2, hs3, hs4⟩ := hs
 refine Wi<|J3 rfl h rfl fun b1 w1 h1=>C0 1 rfl<|We<|H1 h1 [0] 2 rfl<|I0 (R0 (n := (cr.length : Int)) (E3 underlying9 rfl rfl) rfl) rfl<|I0 (Bt (Z1 rfl rfl) (dA (by omega))) rfl<|H1 h1 [0] 3 rfl<|Q0 rfl<|C1 (cn func174) rfl rfl (ain_c _ (s.rk) _ _ h1 (by omega)) fun w2 h2 =>H1 h2 [0] 4 rfl<|Q0 rfl<|C1 (cn func174) rfl rfl (ain_c _ (s.per) _ _ h2 (by omega)) fun w3 h3 =>H1 h3 [0] 4 rfl<|Q0 rfl<|C1 (cn func174) rfl rfl (ain_c _ (s.ds) _ _ h3 (by omega)) fun w4 h4 =>H1 h4 [0] 4 rfl<|Q0 rfl<|C1 (cn func174) rfl rfl (ain_c _ (s.lim) _ _ h4 (by omega)) fun w5 h5 =>C0 2 rfl<|Wg<|ret1 rfl rfl ⟨rfl, h5.drop 0⟩
theorem pack_c (w : World) (cr : List UInt8) (s : S) (h : St W F cs w) (hc : cr.length ≤ 400) (hs : okR s) : Calls prog 151 #[.agg #[.string (bs cr), Vi s.rk, Vi s.per, Vi s.ds, Vi s.lim]] w fun r w' => r = .returned (.string (bs (packM cr s))) ∧ St W F cs w'  := by
 refine enter (args := [.agg #[.string (bs cr), Vi s.rk, Vi s.per, Vi s.ds, Vi s.lim]]) func151 rfl rfl rfl<|Wi<|J3 rfl h rfl fun b1 w1 h1=>C0 1 rfl<|Wh<|I0 (U2 h1 0 rfl underlying187 rfl inf187 rfl rfl) rfl<|C1 (cn func167) rfl rfl (amay_c _ cr s h1 hc hs) fun w2 h2 =>C0 1 rfl<|Wa<|E1 rfl (rfl)<|Wk<|H1 h2 [0] 2 rfl<|C1 (cn func78) rfl rfl (Wir.wtext_c _ _ h2 (by omega)) fun w3 h3 =>C0 1 rfl<|Wh<|H1 h3 [0, 0, 0, 0] 8 rfl<|I0 (R2 (vs := [(0, Vi s.rk), (1, Vi s.per), (2, Vi s.ds), (3, Vi s.lim)]) (cells := #[Vi s.rk, Vi s.per, Vi s.ds, Vi s.lim]) rfl (by kernel_rfl)) rfl<|C0 1 rfl<|Wj<|N4 (σ := Nat) (fun q_ => [(3, .string (bs (textB cr ++ ((n4 s).take q_).flatMap numB))), (20, .agg #[Vi s.rk, Vi s.per, Vi s.ds, Vi s.lim]), (21, .int .i64 (q_ : Int))]) (fun q_ w => q_ ≤ 4 ∧ St W F ([(b1, .cells #[.string (bs cr), Vi s.rk, Vi s.per, Vi s.ds, Vi s.lim] 187 (0, 0))] :: cs) w) (fun q_ => 4 - q_) (0) ⟨by simp; rfl, rfl, rfl, trivial⟩ (⟨Nat.zero_le _, h3⟩) ?_
 rintro k w4 ⟨hk, hL⟩
 try dsimp only at hk hL
 refine W2 [(3, .string (bs (textB cr ++ ((n4 s).take k).flatMap numB))), (20, .agg #[Vi s.rk, Vi s.per, Vi s.ds, Vi s.lim]), (21, .int .i64 (k : Int))] ?_
 have hfl := Wir.flat_len ((n4 s).take k)
 rw [List.length_take, show (n4 s).length = 4 from rfl] at hfl
 have htx := Wir.text_len (l := cr) (by omega)
 refine Wi<|C0 1 rfl<|Wb<|Z0 rfl (fun c5 => ?_) (fun c5 => ?_)
 ·try simp only [DD] at c5
  refine U0<|H0<|N0<|M1<|Wi<|I0 (R0 (n := (n4 s).getD k 0) (F6 underlying207 underlying3 rfl inf3 rfl rfl (n := k) rfl (by omega) (u := Vi ((n4 s).getD k 0)) (n4_at s (by omega))) rfl) rfl<|C0 1 rfl<|Wf<|C0 2 rfl<|C1 (cn func76) rfl rfl (Wir.wnum_c _ _ hL) fun w6 h6 =>I0 (M3 rfl rfl (by have := Wir.numB_len ((n4 s).getD k 0); rw [lA]; omega)) rfl<|C0 1 rfl<|J0<|N1<|H0<|L0<|I0 (V0 rfl rfl (by omega)) rfl<|C0 1 rfl<|J0<|F1 (k + 1) (by omega) ⟨(by show some (Value.string _) = some (Value.string _); rw [Wir.flat_take (by show k < 4; omega), ← List.append_assoc]), rfl, rfl, trivial⟩ ⟨by omega, h6⟩
 try simp only [DD] at c5
 refine U1<|B2<|WX.cut<|E2<|H0<|Wi<|C0 2 rfl<|J0 (H0 (O1 ?_))
 obtain rfl : k = 4 := by omega
 refine ret1 rfl rfl ⟨?_, hL.drop 0⟩
 rw [← pack_n4]; rfl
theorem order_c (w : World) {x : J} {b bC bT m1 m2 : Nat} {A B : Option Addr} {cap cap2 : Nat} {ps : List (Option Nat)} {zc zt : List Value} {j i : Nat} {key : List UInt8} {now : Int} (h : St W F cs w) (hj : cs[j]? = some (jB x b bC bT m1 m2 A B cap cap2 ps zc zt)) (hA : RdS (Kd.one Vi) F A x.ns) (hB : RdS KS F B x.ss) (hok : x.ok) (hi : i < x.ss.length) (hkl : key.length ≤ 900000) : Calls prog 118 #[pz b, .string (bs key), Vi (i : Nat), Vi now] w fun r w' => r = .returned (.string (bs (x.order key i now))) ∧ St W F cs w'  := by
 refine enter (args := [pz b, .string (bs key), Vi (i : Nat), Vi now]) func118 rfl rfl rfl ?_
 have hsr := step_ok hok.ss hi
 obtain ⟨ad, A1, cap1, rfl, hE1, hcell⟩ := Dg.stepAt hB hi
 have hm1 : 0 ≤ (x.ss.getD i S0).rk * (x.ss.getD i S0).per := Int.mul_nonneg (by have := hsr.1; omega) (by have := hsr.2.1; omega)
 have hm2 : (x.ss.getD i S0).rk * (x.ss.getD i S0).per ≤ 32 * 256 := Int.mul_le_mul hsr.1.2 hsr.2.1.2 (by have := hsr.2.1; omega) (by omega)
 have hns16 := Tal.oks_len hok.ns.2
 refine Wi<|C0 1 rfl<|We<|C0 4 rfl<|I0 (K0 underlying34 rfl rfl (h.ocell (i := (j)) hj rfl)) rfl<|C0 1 rfl<|I0 (N2 underlying34 inf68 rfl rfl (n := i) rfl (by omega)) rfl<|I0 (Dg.Runs.stepA h hcell underlying68 rfl inf68 rfl) rfl<|O2 rfl h inf68 fun b9 w1 h1=>F4 h1 0 rfl rfl rfl inf68 rfl rfl rfl ?_
 intro  w2 h2
 try simp only [ZZ] at h2
 refine Wb<|V2 h2 h2 (fun s_ => ([24] : List Nat).any (Nat.beq s_)) mixed (by kernel_rfl)<|fun hx =>fun w3 h3=>L3 hx [0, 1, 2, 4, 5, 6, 8, 9, 10] rfl<|Z2 hx 11 (by rfl) (fun w_ => Runs.add rfl rfl) rfl<|L3 hx [12, 13, 14, 15, 17, 19] rfl<|V3 12 hx 3 (by rfl) (fun w_ hE_ => K0 underlying3 rfl rfl (hE_.ocell (i := (j + 1)) hj rfl)) rfl<|V3 12 hx 7 (by rfl) (fun w_ hE_ => K0 underlying3 rfl rfl (hE_.ocell (i := (j + 1)) hj rfl)) rfl<|V3 12 hx 16 (by rfl) (fun w_ hE_ => K0 underlying33 rfl rfl (hE_.ocell (i := (j + 1)) hj rfl)) rfl<|J4 hx 12 [18, 20] [18, 20] [0, 0] rfl<|Z2 hx 21 (by rfl) (fun w_ => B4 rfl rfl (by omega)) rfl<|Z2 hx 22 (by rfl) (fun w_ => R2 (vs := [(0, Vi x.id), (1, Vi x.ep), (2, Vi (i : Nat)), (3, Vi now), (4, Vi (IntKind.i64.wrap (now + 8))), (5, .slice A x.ns.length cap), (6, Vi ((x.ss.getD i S0).rk * (x.ss.getD i S0).per))]) (cells := #[Vi x.id, Vi x.ep, Vi (i : Nat), Vi now, Vi (IntKind.i64.wrap (now + 8)), .slice A x.ns.length cap, Vi ((x.ss.getD i S0).rk * (x.ss.getD i S0).per)]) rfl (by kernel_rfl)) rfl<|F3 23 h3 (by rfl)<|O2 rfl h3 inf169 fun b10 w4 h4=>J0<|H2<|F3 24 (h4.drop 0) (by rfl) ?_
 refine F4 h4 0 rfl rfl rfl inf169 rfl rfl rfl ?_
 intro  w5 h5
 try simp only [ZZ] at h5
 refine J0<|H2<|H3 (.inl ⟨24, rfl, by kernel_rfl⟩) (by kernel_rfl)<|H0<|N0<|V2 h5 h5 (fun s_ => ([] : List Nat).any (Nat.beq s_)) mixed (by kernel_rfl)<|fun hx =>fun w6 h6=>L3 hx [0, 3, 5, 7, 9] rfl<|V3 12 hx 1 (by rfl) (fun w_ hE_ => U2 hE_ 0 rfl underlying169 rfl inf169 rfl rfl) rfl<|J4 hx 12 [4, 6, 8, 10] [4, 6, 8, 10] [1, 1, 1, 1] rfl<|F3 2 h6 (by rfl)<|C1 (cn func152) rfl rfl (Cr.sign_c _ (c := x.cred i now) key hkl h6 hA (show x.ns.length ≤ 100000 by omega)) fun w7 h7 =>J0<|H2<|Z2 hx 11 (by rfl) (fun w_ => R2 (vs := [(0, .string (bs (signM key (x.cred i now)))), (1, Vi (x.ss.getD i S0).rk), (2, Vi (x.ss.getD i S0).per), (3, Vi (x.ss.getD i S0).ds), (4, Vi (x.ss.getD i S0).lim)]) (cells := #[.string (bs (signM key (x.cred i now))), Vi (x.ss.getD i S0).rk, Vi (x.ss.getD i S0).per, Vi (x.ss.getD i S0).ds, Vi (x.ss.getD i S0).lim]) rfl (by kernel_rfl)) rfl<|F3 12 h7 (by rfl)<|C1 (cn func151) rfl rfl (pack_c _ (signM key (x.cred i now)) (x.ss.getD i S0) h7 (sign_len _ _) hsr) fun w8 h8 =>J0<|H2<|L3 hx [13] rfl<|H3 (.inr h8) (by kernel_rfl)<|H0<|O1<|ret1 rfl rfl ⟨rfl, (h8.drop 0).drop 0⟩
theorem mfind_mem (n : Int) : ∀ (l : List (Int × Value)) (j : Nat), (mfind n l j).isSome = decide (n ∈ l.map (·.1))
 |[], j => by simp [mfind]
 |p :: l, j => by
  unfold mfind
  by_cases e : n = p.1
  ·rw [if_pos e]
   simp [e]
  rw [if_neg e, mfind_mem n l (j + 1)]
  simp [e]
theorem filt_not (xs ys : List Int) : (xs.filter fun n => !decide (n ∈ ys)) = xs.filter fun n => decide (n ∉ ys) := by
 congr 1
 funext n
 rw [decide_not]
def Seq (gf : FuncId) (fa lb : Array Value) (x : J) (JB : Res) (JL : List Res) (F0 : Snap) (ms : List M) : Prop :=
 ∀ (W : World) (F : Snap) (csx : List Res) (w : World) (y : Nat) (K : List M → Snap → List Res → Prop) (hKm : ∀ out G G' c, K out G c → Le G G' → K out G' c)
  (hY : ∀ out G csx' front w2 k n (i : Nat) tx, K out G csx' → out.length ≤ 100000 → Le F G → (∃ q : Nat, front[q]? = some JB) → tx.length ≤ 100000 → St W G (front ++ csx') w2 → YieldAt Fence.wide 1 prog y #[.agg #[Vi k, Vi 0, Vi n, Vi 0, Vi 0, Vi (i : Int), Vi 0, .string (bs tx)]] w2 fun e w' => e = .returned (.bool true) ∧ ∃ G' csx'', Le G G' ∧ K (out ++ [x.msg k n i tx]) G' csx'' ∧ St W G' (front ++ csx'') w'), Le F0 F → K [] F csx → St W F (JL ++ csx) w →
  Calls prog gf (fa ++ #[.func (.yield y) #[] #[]] ++ lb) w fun e w' => (∃ v, e = .returned v) ∧ ∃ G csx', Le F G ∧ K ms G csx' ∧ St W G (JL ++ csx') w'
theorem wo_clos (w : World) (n : Int) (i j : Nat) {b3 m : Nat} {tt : TypeId} {l : List (Int × Value)} (h : St W F cs w) (hj : cs[j]? = some [(b3, .cells #[.map (some m)] tt (0, 0))]) (hi : cs[i]? = some [(m, mobj l)]) : Calls prog 150 #[Vi n, pz b3] w fun e w' => e = .returned (.bool (decide (n ∈ l.map (·.1)))) ∧ St W F cs w'  := by
 refine enter (args := [Vi n, pz b3]) func150 rfl rfl rfl<|Wi<|C0 1 rfl<|We<|I0 (K0 underlying81 rfl rfl (h.ocell hj rfl)) rfl<|C0 1 rfl<|I0 (L4 h i hi underlying81 underlying3 inf3 rfl rfl) rfl<|C0 5 rfl<|We<|C0 2 rfl<|Wg<|ret1 rfl rfl ⟨by rw [mfind_mem]; rfl, h⟩
theorem without_c (w : World) {x : J} {b bC bT m1 m2 : Nat} {A B : Option Addr} {cap cap2 : Nat} {ps : List (Option Nat)} {zc zt : List Value} {j i m : Nat} {l : List (Int × Value)} (h : St W F cs w) (hj : cs[j]? = some (jB x b bC bT m1 m2 A B cap cap2 ps zc zt)) (hi : cs[i]? = some [(m, mobj l)]) (hA : RdS (Kd.one Vi) F A x.ns) (hok : x.ok) : Calls prog 115 #[pz b, .map (some m)] w (Gives W F cs Vi (x.ns.filter fun n => decide (n ∉ l.map (·.1))))  := by
 refine enter (args := [pz b, .map (some m)]) func115 rfl rfl rfl ?_
 have hns16 := Tal.oks_len hok.ns.2
 refine Wi<|J3 rfl h rfl fun b3 w1 h1=>C0 1 rfl<|We<|C0 4 rfl<|I0 (K0 underlying33 rfl rfl (h1.ocell (i := (j + 1)) hj rfl)) rfl<|V1 (cn func44) rfl rfl (Tal.clone_c _ h1 hA hok.ns.1 (by omega)) ?_
 rintro _ w2 ⟨r2, v2, rfl, hr2, h2⟩
 refine ⟨_, rfl, ?_⟩
 obtain ⟨bc, zs, fz, rfl, rfl, hfz⟩ := hr2.blk hok.ns.1
 refine I0 (Runs.makeFunc (us := []) (vs := [pz b3]) rfl rfl) rfl<|V1 (cn func131) rfl rfl (Tal.del_c _ 150 (pz b3) (fun n => decide (n ∈ l.map (·.1))) (cn func150) h2 hfz (by omega) (fun r w n hnn hS => wo_clos w n (i + 2) 1 hS rfl hi)) ?_
 rintro _ w3 ⟨r3, v3, rfl, hr3, h3⟩
 refine ⟨_, rfl,C0 1 rfl<|J0 (H0 (O1 ?_))⟩
 have hr := hr3
 rw [filt_not] at hr
 exact ret1 rfl rfl (Row.gives hr (h3.drop 1))
theorem msgs0_c (w : World) (y : Nat) (h : St W F cs w) : Calls prog 73 #[.func (.yield y) #[] #[]] w fun e w' => (∃ v, e = .returned v) ∧ St W F cs w'  := by
 refine enter (args := [.func (.yield y) #[] #[]]) func73 rfl rfl rfl<|U0<|end0 rfl ⟨⟨_, rfl⟩, h⟩
theorem msgs0 (x : J) (JB : Res) (JL : List Res) (F0 : Snap) : Seq 73 #[] #[] x JB JL F0 [] := fun W F csx w y K hKm hY hF hK h => by
 have := msgs0_c w y h
 exact this.mono fun e w' ⟨h1, h2⟩ => ⟨h1, F, csx, Le.refl F, hK, h2⟩
theorem first_c {x : J} {b bC bT m1 m2 : Nat} {A B : Option Addr} {cap cap2 : Nat} {ps : List (Option Nat)} {zc zt : List Value} {fc ft : Nat × Nat} {l1 l2 : List (Int × Value)} {tm : List Res}{W : World} {F0 F : Snap} {csx : List Res} (w : World) (y : Nat) (K : List M → Snap → List Res → Prop) (hKm : ∀ out G G' c, K out G c → Le G G' → K out G' c)
  (hY : ∀ out G csx' front w2 k n (i : Nat) tx, K out G csx' → out.length ≤ 100000 → Le F G → (∃ q : Nat, front[q]? = some (jB x b bC bT m1 m2 A B cap cap2 ps zc zt)) → tx.length ≤ 100000 → St W G (front ++ csx') w2 → YieldAt Fence.wide 1 prog y #[.agg #[Vi k, Vi 0, Vi n, Vi 0, Vi 0, Vi (i : Int), Vi 0, .string (bs tx)]] w2 fun e w' => e = .returned (.bool true) ∧ ∃ G' csx'', Le G G' ∧ K (out ++ [x.msg k n i tx]) G' csx'' ∧ St W G' (front ++ csx'') w') (hF : Le F0 F) (hK0 : K [] F csx) (h : St W F ((jB x b bC bT m1 m2 A B cap cap2 ps zc zt :: cB x.cs bC zc fc :: tB ps bT zt ft :: [(m1, mobj l1)] :: [(m2, mobj l2)] :: tm) ++ csx) w) (hO0 : JobO F0 x A B ps zc zt fc ft l1 l2 tm) (hok : x.ok) : Calls prog 70 #[pz b, .func (.yield y) #[] #[]] w fun e w' => (∃ v, e = .returned v) ∧ ∃ G csx', Le F G ∧ K x.firstO G csx' ∧ St W G ((jB x b bC bT m1 m2 A B cap cap2 ps zc zt :: cB x.cs bC zc fc :: tB ps bT zt ft :: [(m1, mobj l1)] :: [(m2, mobj l2)] :: tm) ++ csx') w'  := by
 refine enter (args := [pz b, .func (.yield y) #[] #[]]) func70 rfl rfl rfl ?_
 have hO := hO0.mono hF
 have hns16 := Tal.oks_len hok.ns.2
 replace h : St W F (jB x b bC bT m1 m2 A B cap cap2 ps zc zt :: cB x.cs bC zc fc :: tB ps bT zt ft :: [(m1, mobj l1)] :: [(m2, mobj l2)] :: (tm ++ csx)) w := h
 refine Wi<|H1 h [0] 5 rfl<|V1 (cn func115) rfl rfl (without_c _ h (j := 0) (i := 3) rfl rfl hO.nd hok) ?_
 rintro _ w1 ⟨G1, A9, c9, hG1, rfl, hc9, hrd9, h1⟩
 refine ⟨_, rfl, ?_⟩
 rw [hO.r1] at hrd9 hc9 ⊢
 obtain ⟨N9, hN9⟩ : ∃ N9, (x.ns.filter fun n => decide (n ∉ x.rd)) = N9 := ⟨_, rfl⟩
 have hfl : N9.length ≤ x.ns.length := hN9 ▸ List.length_filter_le _ _
 rw [hN9] at hrd9 hc9 ⊢
 refine I0 (R0 (n := (N9.length : Int)) (Y0 underlying33 rfl rfl) rfl) rfl<|C0 1 rfl<|Wj<|B3 (σ := Nat × Snap × List Res) (fun q_ => [(0, pz b), (1, .func (.yield y) #[] #[]), (11, .slice A9 N9.length c9), (12, .int .i64 (N9.length : Int)), (13, .int .i64 (q_.1 : Int))]) (fun q_ w => q_.1 ≤ N9.length ∧ Le G1 q_.2.1 ∧ K ((N9.take q_.1).map fun n => x.msg 0 n 0 []) q_.2.1 q_.2.2 ∧ St W q_.2.1 (jB x b bC bT m1 m2 A B cap cap2 ps zc zt :: cB x.cs bC zc fc :: tB ps bT zt ft :: [(m1, mobj l1)] :: [(m2, mobj l2)] :: (tm ++ q_.2.2)) w) (fun q_ => N9.length - q_.1) (⟨0, G1, csx⟩) (⟨Nat.zero_le _, Le.refl _, hKm _ _ _ _ hK0 hG1, h1⟩) ?_
 rintro ⟨k, G, csx2⟩ w2 ⟨hk, hle, hK, hL⟩
 try dsimp only at hk hle hK hL
 refine W2 [(0, pz b), (1, .func (.yield y) #[] #[]), (11, .slice A9 N9.length c9), (12, .int .i64 (N9.length : Int)), (13, .int .i64 (k : Int))]<|Wi<|C0 1 rfl<|Wb<|Z0 rfl (fun c3 => ?_) (fun c3 => ?_)
 ·try simp only [DD] at c3
  refine U0 (H0 (N0 (M1 (N0 ?_))))
  obtain ⟨ad9, rfl, hrdk⟩ := rd1 (hrd9.mono hle) (by omega)
  refine L0<|I0 (W0 underlying33 inf3 rfl rfl (n := k) rfl (by omega)) rfl<|I0 (I1 (f := Vi) (0 : Int) hL hrdk (n := k) (by omega) underlying3 rfl rfl) rfl<|C0 1 rfl<|Wb<|B7<|L5 (C3 rfl) rfl<|L5 (C3 rfl) rfl<|L5 (R2 (vs := [(0, Vi 0), (2, Vi (N9.getD k 0))]) (cells := #[Vi 0, Vi 0, Vi (N9.getD k 0), Vi 0, Vi 0, Vi (0), Vi 0, .string (bs ([]))]) rfl (by kernel_rfl)) rfl<|C7 rfl rfl (hY ((N9.take k).map fun n => x.msg 0 n 0 []) G csx2 (jB x b bC bT m1 m2 A B cap cap2 ps zc zt :: cB x.cs bC zc fc :: tB ps bT zt ft :: [(m1, mobj l1)] :: [(m2, mobj l2)] :: tm) _ (0) (N9.getD k 0) (0) ([]) hK ((by simp; omega)) (Le.trans hG1 hle) ⟨0, rfl⟩ (by first | exact Nat.zero_le _ | assumption) hL) rfl ?_
  rintro _ wy ⟨rfl, G2, csx3, hG2, hK2, hS2⟩
  refine ⟨_, rfl,L5 (R1 rfl) rfl<|WI.nil<|H0<|E1 rfl (rfl)<|U0<|N1<|H0<|L0<|I0 (V0 rfl rfl (by omega)) rfl<|C0 1 rfl<|J0 ?_⟩
  have e9 : (N9.take (k + 1)).map (fun n => x.msg 0 n 0 []) = (N9.take k).map (fun n => x.msg 0 n 0 []) ++ [x.msg 0 (N9.getD k 0) 0 []] := by
   rw [List.take_add_one, getD_at 0 (by omega)]; simp
  rw [← e9] at hK2
  exact F1 (⟨k + 1, G2, csx3⟩ : Nat × Snap × List Res) (by show N9.length - (k + 1) < N9.length - k; omega) ⟨rfl, rfl, rfl, rfl, rfl, trivial⟩ ⟨by show k + 1 ≤ _; omega, Le.trans hle hG2, hK2, hS2⟩
 try simp only [DD] at c3
 refine U1 (B2 (WX.cut (E2 ?_)))
 obtain rfl : k = N9.length := by omega
 rw [List.take_of_length_le (Nat.le_refl _)] at hK
 exact end0 rfl ⟨⟨_, rfl⟩, G, csx2, Le.trans hG1 hle, (by unfold J.firstO; rw [hN9]; exact hK), hL⟩
def abI (x : J) (n : Int) (i : Nat) : List M := ((List.range i).filter fun i => no2 (x.ts.getD i none)).map fun i => x.msg 5 n i []
def lastK (x : J) (l : List Int) (k : Nat) : List M := (l.take k).flatMap fun n => x.abrt n ++ [x.msg 8 n 0 []]
theorem fm_len {α β : Type} {f : α → List β} {c : Nat} : ∀ (l : List α), (∀ a ∈ l, (f a).length ≤ c) → (l.flatMap f).length ≤ l.length * c
 |[], _ => by simp
 |a :: l, h => by
  rw [List.flatMap_cons, lA, List.length_cons, Nat.succ_mul]
  have h1 := fm_len l (fun b hb => h b (List.mem_cons_of_mem _ hb))
  have h2 := h a List.mem_cons_self
  omega
theorem abI_len (x : J) (n : Int) (i : Nat) : (abI x n i).length ≤ i := by
 unfold abI
 rw [List.length_map]
 refine Nat.le_trans (List.length_filter_le _ _) ?_
 rw [List.length_range]; exact Nat.le_refl _
theorem lastK_len {x : J} (h : x.ts.length ≤ 16) (l : List Int) (k : Nat) : (lastK x l k).length ≤ k * 17 := by
 unfold lastK
 refine Nat.le_trans (fm_len (c := 17) _ fun n _ => ?_) ?_
 ·rw [lA]
  have := abI_len x n x.ts.length
  have e : (x.abrt n).length = (abI x n x.ts.length).length := rfl
  show (x.abrt n).length + 1 ≤ 17
  omega
 exact Nat.mul_le_mul_right _ (by rw [List.length_take]; exact Nat.min_le_left _ _)
theorem abI_none {x : J} {n : Int} {i : Nat} (h : x.ts.getD i none = none) : abI x n (i + 1) = abI x n i := by
 have e : no2 (x.ts.getD i none) = false := by rw [h]; rfl
 unfold abI
 rw [List.range_succ, List.filter_append, List.map_append, List.filter_cons, if_neg (by rw [e]; simp)]
 simp
theorem abI_y {x : J} {n : Int} {i : Nat} {t : T} (h : x.ts.getD i none = some t) (h2 : t.state = 2) : abI x n (i + 1) = abI x n i ++ [x.msg 5 n i []] := by
 have e : no2 (x.ts.getD i none) = true := by rw [h]; exact dA h2
 unfold abI
 rw [List.range_succ, List.filter_append, List.map_append, List.filter_cons, if_pos e]; rfl
theorem abI_x {x : J} {n : Int} {i : Nat} {t : T} (h : x.ts.getD i none = some t) (h2 : ¬ t.state = 2) : abI x n (i + 1) = abI x n i := by
 have e : no2 (x.ts.getD i none) = false := by rw [h]; exact dN h2
 unfold abI
 rw [List.range_succ, List.filter_append, List.map_append, List.filter_cons, if_neg (by rw [e]; simp)]
 simp
theorem lastK_s {x : J} {l : List Int} {k : Nat} (h : k < l.length) : lastK x l (k + 1) = lastK x l k ++ (x.abrt (l.getD k 0) ++ [x.msg 8 (l.getD k 0) 0 []]) := by
 unfold lastK
 rw [List.take_add_one, getD_at 0 h, List.flatMap_append]; simp
theorem last_eq {x : J} {l : List Int} (h : (x.ns.filter fun n => decide (n ∉ x.gn)) = l) : x.lastO = lastK x l l.length := by
 unfold lastK J.lastO
 rw [List.take_of_length_le (Nat.le_refl _), h]
theorem last_c {x : J} {b bC bT m1 m2 : Nat} {A B : Option Addr} {cap cap2 : Nat} {ps : List (Option Nat)} {zc zt : List Value} {fc ft : Nat × Nat} {l1 l2 : List (Int × Value)} {tm : List Res}{W : World} {F0 F : Snap} {csx : List Res} (w : World) (y : Nat) (K : List M → Snap → List Res → Prop) (hKm : ∀ out G G' c, K out G c → Le G G' → K out G' c)
  (hY : ∀ out G csx' front w2 k n (i : Nat) tx, K out G csx' → out.length ≤ 100000 → Le F G → (∃ q : Nat, front[q]? = some (jB x b bC bT m1 m2 A B cap cap2 ps zc zt)) → tx.length ≤ 100000 → St W G (front ++ csx') w2 → YieldAt Fence.wide 1 prog y #[.agg #[Vi k, Vi 0, Vi n, Vi 0, Vi 0, Vi (i : Int), Vi 0, .string (bs tx)]] w2 fun e w' => e = .returned (.bool true) ∧ ∃ G' csx'', Le G G' ∧ K (out ++ [x.msg k n i tx]) G' csx'' ∧ St W G' (front ++ csx'') w') (hF : Le F0 F) (hK0 : K [] F csx) (h : St W F ((jB x b bC bT m1 m2 A B cap cap2 ps zc zt :: cB x.cs bC zc fc :: tB ps bT zt ft :: [(m1, mobj l1)] :: [(m2, mobj l2)] :: tm) ++ csx) w) (hO0 : JobO F0 x A B ps zc zt fc ft l1 l2 tm) (hok : x.ok) : Calls prog 72 #[pz b, .func (.yield y) #[] #[]] w fun e w' => (∃ v, e = .returned v) ∧ ∃ G csx', Le F G ∧ K (x.lastO) G csx' ∧ St W G ((jB x b bC bT m1 m2 A B cap cap2 ps zc zt :: cB x.cs bC zc fc :: tB ps bT zt ft :: [(m1, mobj l1)] :: [(m2, mobj l2)] :: tm) ++ csx') w'  := by
 refine enter (args := [pz b, .func (.yield y) #[] #[]]) func72 rfl rfl rfl ?_
 have hO := hO0.mono hF
 have hns16 := Tal.oks_len hok.ns.2
 have hls := (Dg.chk_ok hok.ss).2.1
 have hlt := hok.lt
 have hxt : x.ts.length ≤ 16 := by omega
 have hlp := hO.ta.lp
 have hlm := hO.ta.lm
 replace h : St W F (jB x b bC bT m1 m2 A B cap cap2 ps zc zt :: cB x.cs bC zc fc :: tB ps bT zt ft :: [(m1, mobj l1)] :: [(m2, mobj l2)] :: (tm ++ csx)) w := h
 refine Wi<|H1 h [0] 5 rfl<|V1 (cn func115) rfl rfl (without_c _ h (j := 0) (i := 4) rfl rfl hO.nd hok) ?_
 rintro _ w1 ⟨G1, A9, c9, hG1, rfl, hc9, hrd9, h1⟩
 refine ⟨_, rfl, ?_⟩
 rw [hO.r2] at hrd9 hc9 ⊢
 obtain ⟨N9, hN9⟩ : ∃ N9, (x.ns.filter fun n => decide (n ∉ x.gn)) = N9 := ⟨_, rfl⟩
 have hfl : N9.length ≤ x.ns.length := hN9 ▸ List.length_filter_le _ _
 rw [hN9] at hrd9 hc9 ⊢
 refine I0 (R0 (n := (N9.length : Int)) (Y0 underlying33 rfl rfl) rfl) rfl<|C0 1 rfl<|Wj<|B3 (σ := Nat × Snap × List Res) (fun q_ => [(0, pz b), (1, .func (.yield y) #[] #[]), (13, .slice A9 N9.length c9), (14, .int .i64 (N9.length : Int)), (15, .int .i64 (q_.1 : Int))]) (fun q_ w => q_.1 ≤ N9.length ∧ Le G1 q_.2.1 ∧ K (lastK x N9 q_.1) q_.2.1 q_.2.2 ∧ St W q_.2.1 (jB x b bC bT m1 m2 A B cap cap2 ps zc zt :: cB x.cs bC zc fc :: tB ps bT zt ft :: [(m1, mobj l1)] :: [(m2, mobj l2)] :: (tm ++ q_.2.2)) w) (fun q_ => N9.length - q_.1) (⟨0, G1, csx⟩) (⟨Nat.zero_le _, Le.refl _, hKm _ _ _ _ hK0 hG1, h1⟩) ?_
 rintro ⟨k, G0, csx0⟩ w2 ⟨hk, hle, hK, hL⟩
 try dsimp only at hk hle hK hL
 refine W2 [(0, pz b), (1, .func (.yield y) #[] #[]), (13, .slice A9 N9.length c9), (14, .int .i64 (N9.length : Int)), (15, .int .i64 (k : Int))]<|Wi<|C0 1 rfl<|Wb<|Z0 rfl (fun c3 => ?_) (fun c3 => ?_)
 ·try simp only [DD] at c3
  refine U0 (H0 (N0 (M1 (N0 ?_))))
  have hk2 : k < N9.length := by omega
  obtain ⟨ad9, hA9, hrdk⟩ := rd1 (hrd9.mono hle) (by omega)
  rw [hA9]
  refine L0<|I0 (W0 underlying33 inf3 rfl rfl (n := k) rfl (by omega)) rfl<|I0 (I1 (f := Vi) (0 : Int) hL hrdk (n := k) (by omega) underlying3 rfl rfl) rfl<|C0 1 rfl<|Wh<|H1 hL [0] 4 rfl<|I0 (R0 (n := (ps.length : Int)) (Y0 underlying80 rfl rfl) rfl) rfl<|C0 1 rfl<|Wj<|B3 (σ := Nat × Snap × List Res) (fun q_ => [(0, pz b), (1, .func (.yield y) #[] #[]), (5, Vi (N9.getD k 0)), (13, .slice (some ad9) N9.length c9), (14, .int .i64 (N9.length : Int)), (15, .int .i64 (k : Int)), (22, vT ps bT zt), (23, .int .i64 (ps.length : Int)), (24, .int .i64 (q_.1 : Int))]) (fun q_ w => q_.1 ≤ ps.length ∧ Le G0 q_.2.1 ∧ K (lastK x N9 k ++ abI x (N9.getD k 0) q_.1) q_.2.1 q_.2.2 ∧ St W q_.2.1 (jB x b bC bT m1 m2 A B cap cap2 ps zc zt :: cB x.cs bC zc fc :: tB ps bT zt ft :: [(m1, mobj l1)] :: [(m2, mobj l2)] :: (tm ++ q_.2.2)) w) (fun q_ => ps.length - q_.1) (⟨0, G0, csx0⟩) (⟨Nat.zero_le _, Le.refl _, (by rw [show abI x (N9.getD k 0) 0 = [] from rfl, List.append_nil]; exact hK), hL⟩) ?_
  rintro ⟨i, G, csx2⟩ w4 ⟨hi, hle2, hK, hL⟩
  try dsimp only at hi hle2 hK hL
  refine W2 [(0, pz b), (1, .func (.yield y) #[] #[]), (5, Vi (N9.getD k 0)), (13, .slice (some ad9) N9.length c9), (14, .int .i64 (N9.length : Int)), (15, .int .i64 (k : Int)), (22, vT ps bT zt), (23, .int .i64 (ps.length : Int)), (24, .int .i64 (i : Int))]<|Wi<|C0 1 rfl<|Wb<|Z0 rfl (fun c5 => ?_) (fun c5 => ?_)
  ·try simp only [DD] at c5
   refine U0 (H0 (N0 (M1 (N0 ?_))))
   have hi3 : i < x.ts.length := by omega
   rcases hts : x.ts.getD i none with _ | t
   ·obtain ⟨hp, hm1, hm2⟩ := hO.ta.no i hi3 hts
    refine L0<|C0 1 rfl<|I0 (W0 underlying80 inf97 rfl rfl (n := i) rfl (by omega)) rfl<|I0 (X1 (u := .pointer none) (I2 (none : Option Nat) hL 2 rfl (T3 (E := 97) (f := pv) (b := bT) (fz := ft) (xs := ps) (zs := zt) rfl hO.ft) (n := i) (by omega) underlying97 rfl rfl) (by rw [hp]; rfl)) rfl<|C0 2 rfl<|Wb<|B7<|L5 (C3 rfl) rfl<|WI.call (cn func45) rfl rfl (Tal.state_nil _ hL) ?_
    rintro _ w6 ⟨rfl, h6⟩
    refine ⟨_, rfl,L5 (Bf (L1 rfl rfl) rfl) rfl<|L5 (C3 rfl) rfl<|N5 rfl rfl rfl rfl<|N5 rfl rfl rfl rfl<|N5 rfl rfl rfl rfl<|N5 rfl rfl rfl rfl<|N5 rfl rfl rfl rfl<|N5 rfl rfl rfl rfl<|L5 (X6 rfl rfl rfl) rfl<|WI.nil<|H0<|E1 rfl (rfl)<|U0<|N1<|H0<|L0<|I0 (V0 rfl rfl (by omega)) rfl<|C0 1 rfl<|J0 ?_⟩
    rw [← abI_none hts] at hK
    exact F1 (⟨i + 1, G, csx2⟩ : Nat × Snap × List Res) (by show ps.length - (i + 1) < ps.length - i; omega) ⟨rfl, rfl, rfl, rfl, rfl, rfl, rfl, rfl, rfl, trivial⟩ ⟨by show i + 1 ≤ _; omega, hle2, hK, h6⟩
   obtain ⟨bt, q1, q2, hp, hm1, hm2, mv, mc, lv, lc, hTR⟩ := (hO.mono (Le.trans hG1 (Le.trans hle hle2))).ta.ye i t hts
   refine L0<|C0 1 rfl<|I0 (W0 underlying80 inf97 rfl rfl (n := i) rfl (by omega)) rfl<|I0 (X1 (u := pz bt) (I2 (none : Option Nat) hL 2 rfl (T3 (E := 97) (f := pv) (b := bT) (fz := ft) (xs := ps) (zs := zt) rfl hO.ft) (n := i) (by omega) underlying97 rfl rfl) (by rw [hp]; rfl)) rfl<|C0 2 rfl<|J0 (H0 (N0 ?_))
   by_cases h2 : t.state = 2
   ·refine B7<|L5 (C3 rfl) rfl<|WI.call (cn func45) rfl rfl (Tal.state_c _ hL (TR.at2 hTR (at5 hm1) (at5 hm2) (by omega))) ?_
    rintro _ w7 ⟨rfl, h7⟩
    refine ⟨_, rfl,L5 (Bt (L1 rfl rfl) (dA h2)) rfl<|L5 (C3 rfl) rfl<|WI.gon rfl rfl rfl<|L5 (C3 rfl) rfl<|WI.gon rfl rfl rfl<|L5 (C3 rfl) rfl<|WI.gon rfl rfl rfl<|L5 (C3 rfl) rfl<|WI.gon rfl rfl rfl<|L5 (R2 (vs := [(0, Vi 5), (2, Vi (N9.getD k 0)), (5, Vi (i : Nat))]) (cells := #[Vi 5, Vi 0, Vi (N9.getD k 0), Vi 0, Vi 0, Vi ((i : Nat)), Vi 0, .string (bs ([]))]) rfl (by kernel_rfl)) rfl<|WI.gon rfl rfl rfl<|C7 rfl rfl (hY ((lastK x N9 k ++ abI x (N9.getD k 0) i)) G csx2 (jB x b bC bT m1 m2 A B cap cap2 ps zc zt :: cB x.cs bC zc fc :: tB ps bT zt ft :: [(m1, mobj l1)] :: [(m2, mobj l2)] :: tm) _ (5) (N9.getD k 0) (i) ([]) hK (by have h1 := lastK_len hxt N9 k; have h2 := abI_len x (N9.getD k 0) i; rw [lA]; omega) (Le.trans hG1 (Le.trans hle hle2)) ⟨0, rfl⟩ (by first | exact Nat.zero_le _ | assumption) h7) rfl ?_⟩
    rintro _ wy ⟨rfl, G2, csx3, hG2, hK2, hS2⟩
    refine ⟨_, rfl,WI.gon rfl rfl rfl<|L5 (R1 rfl) rfl<|L5 (X6 rfl rfl rfl) rfl<|WI.nil<|H0<|E1 rfl (rfl)<|U0<|N1<|H0<|L0<|I0 (V0 rfl rfl (by omega)) rfl<|C0 1 rfl<|J0 ?_⟩
    rw [List.append_assoc, ← abI_y hts h2] at hK2
    exact F1 (⟨i + 1, G2, csx3⟩ : Nat × Snap × List Res) (by show ps.length - (i + 1) < ps.length - i; omega) ⟨rfl, rfl, rfl, rfl, rfl, rfl, rfl, rfl, rfl, trivial⟩ ⟨by show i + 1 ≤ _; omega, Le.trans hle2 hG2, hK2, hS2⟩
   refine B7<|L5 (C3 rfl) rfl<|WI.call (cn func45) rfl rfl (Tal.state_c _ hL (TR.at2 hTR (at5 hm1) (at5 hm2) (by omega))) ?_
   rintro _ w8 ⟨rfl, h8⟩
   refine ⟨_, rfl,L5 (Bf (L1 rfl rfl) (dN h2)) rfl<|L5 (C3 rfl) rfl<|N5 rfl rfl rfl rfl<|N5 rfl rfl rfl rfl<|N5 rfl rfl rfl rfl<|N5 rfl rfl rfl rfl<|N5 rfl rfl rfl rfl<|N5 rfl rfl rfl rfl<|L5 (X6 rfl rfl rfl) rfl<|WI.nil<|H0<|E1 rfl (rfl)<|U0<|N1<|H0<|L0<|I0 (V0 rfl rfl (by omega)) rfl<|C0 1 rfl<|J0 ?_⟩
   rw [← abI_x hts h2] at hK
   exact F1 (⟨i + 1, G, csx2⟩ : Nat × Snap × List Res) (by show ps.length - (i + 1) < ps.length - i; omega) ⟨rfl, rfl, rfl, rfl, rfl, rfl, rfl, rfl, rfl, trivial⟩ ⟨by show i + 1 ≤ _; omega, hle2, hK, h8⟩
  try simp only [DD] at c5
  refine U1 (B2 (WX.cut (E2 (H0 (N0 ?_)))))
  obtain rfl : i = ps.length := by omega
  rw [show abI x (N9.getD k 0) ps.length = x.abrt (N9.getD k 0) from by rw [hlp]; rfl] at hK
  refine B7<|L5 (C3 rfl) rfl<|L5 (C3 rfl) rfl<|L5 (R2 (vs := [(0, Vi 8), (2, Vi (N9.getD k 0))]) (cells := #[Vi 8, Vi 0, Vi (N9.getD k 0), Vi 0, Vi 0, Vi (0), Vi 0, .string (bs ([]))]) rfl (by kernel_rfl)) rfl<|C7 rfl rfl (hY (lastK x N9 k ++ x.abrt (N9.getD k 0)) G csx2 (jB x b bC bT m1 m2 A B cap cap2 ps zc zt :: cB x.cs bC zc fc :: tB ps bT zt ft :: [(m1, mobj l1)] :: [(m2, mobj l2)] :: tm) _ (8) (N9.getD k 0) (0) ([]) hK (by have h1 := lastK_len hxt N9 k; have h2 := abI_len x (N9.getD k 0) x.ts.length; rw [lA]; show _ + (abI x (N9.getD k 0) x.ts.length).length ≤ _; omega) (Le.trans hG1 (Le.trans hle hle2)) ⟨0, rfl⟩ (by first | exact Nat.zero_le _ | assumption) hL) rfl ?_
  rintro _ wy ⟨rfl, G2, csx3, hG2, hK2, hS2⟩
  refine ⟨_, rfl,L5 (R1 rfl) rfl<|WI.nil<|H0<|E1 rfl (rfl)<|U0<|N1<|H0<|L0<|I0 (V0 rfl rfl (by omega)) rfl<|C0 1 rfl<|J0 ?_⟩
  rw [List.append_assoc, ← lastK_s hk2] at hK2
  exact F1 (⟨k + 1, G2, csx3⟩ : Nat × Snap × List Res) (by show N9.length - (k + 1) < N9.length - k; omega) ⟨rfl, rfl, (by rw [← hA9]; rfl), rfl, rfl, trivial⟩ ⟨by show k + 1 ≤ _; omega, Le.trans hle (Le.trans hle2 hG2), hK2, hS2⟩
 try simp only [DD] at c3
 refine U1 (B2 (WX.cut (E2 ?_)))
 obtain rfl : k = N9.length := by omega
 exact end0 rfl ⟨⟨_, rfl⟩, G0, csx0, Le.trans hG1 hle, (by rw [last_eq hN9]; exact hK), hL⟩
theorem Z3 {P : Program} {sl : Sl} {w : World} {t T E : TypeId} {x y : Operand} {zv : Value} {bytes : Nat} {k : IntKind} {A : Option Addr} {a : Addr} {len cap n : Nat} {j : Int} (hA : A = some a) (hu : P.underlying T = some (.slice E)) (hi : Inf P E zv 1 bytes) (hx : evs sl x = some (.slice A len cap)) (hy : evs sl y = some (.int k j)) (hj : j = (n : Int)) (hn : n < len) :
  Runs P sl (.indexAddr T x y) t w (.pointer (some (a.add n))) := by
 subst hA
 exact W0 hu hi hx hy hj hn
theorem range_fs {x : J} {key : List UInt8} {now : Int} {i : Nat} {l : List M} (h : x.stepO key now i = l) : (List.range i).flatMap (x.stepO key now) ++ l = (List.range (i + 1)).flatMap (x.stepO key now) := by
 rw [List.range_succ, List.flatMap_append]
 simp [h]
theorem range_fm {x : J} {key : List UInt8} {now : Int} {i : Nat} (h : x.stepO key now i = []) : (List.range (i + 1)).flatMap (x.stepO key now) = (List.range i).flatMap (x.stepO key now) := by
 rw [← range_fs h, List.append_nil]
theorem stepO_n {x : J} {key : List UInt8} {now : Int} {i : Nat} (h : x.ts.getD i none = none) : x.stepO key now i = [] := by
 unfold J.stepO
 rw [h]
theorem stepO_0 {x : J} {key : List UInt8} {now : Int} {i : Nat} {t : T} (h : x.ts.getD i none = some t) (h0 : t.state = 0) : x.stepO key now i = t.missing.flatMap fun n => ([2] : List Int).map fun k => x.msg k n i (x.order key i now) := by
 unfold J.stepO
 rw [h]
 simp only [h0, if_true]
 rw [List.map_eq_flatMap]; rfl
theorem stepO_1 {x : J} {key : List UInt8} {now : Int} {i : Nat} {t : T} (h : x.ts.getD i none = some t) (h0 : ¬ t.state = 0) (h1 : t.state = 1) (ha : x.ak = false) : x.stepO key now i = t.missing.flatMap fun n => ([4] : List Int).map fun k => x.msg k n i [] := by
 unfold J.stepO
 rw [h]
 simp only [if_neg h0, if_pos h1, ha]
 rfl
theorem stepO_1a {x : J} {key : List UInt8} {now : Int} {i : Nat} {t : T} (h : x.ts.getD i none = some t) (h0 : ¬ t.state = 0) (h1 : t.state = 1) (ha : x.ak = true) : x.stepO key now i = t.missing.flatMap fun n => ([4, 7] : List Int).map fun k => x.msg k n i [] := by
 unfold J.stepO
 rw [h]
 simp only [if_neg h0, if_pos h1, ha]
 rfl
theorem st4 (t : T) : t.state = 0 ∨ t.state = 1 ∨ t.state = 2 ∨ t.state = 3 := by
 unfold T.state
 split
 ·exact .inr (.inr (.inl rfl))
 split
 ·exact .inl rfl
 split
 ·exact .inr (.inl rfl)
 exact .inr (.inr (.inr rfl))
theorem stepO_2 {x : J} {key : List UInt8} {now : Int} {i : Nat} {t : T} (h : x.ts.getD i none = some t) (h0 : ¬ t.state = 0) (h1 : ¬ t.state = 1) (h3 : ¬ t.state = 3) : x.stepO key now i = x.ns.flatMap fun n => ([5] : List Int).map fun k => x.msg k n i [] := by
 have h2 : t.state = 2 := by have := st4 t; omega
 unfold J.stepO
 rw [h]
 simp only [if_neg h0, if_neg h1, if_pos h2]
 rw [List.map_eq_flatMap]; rfl
theorem stepO_3 {x : J} {key : List UInt8} {now : Int} {i : Nat} {t : T} (h : x.ts.getD i none = some t) (h0 : ¬ t.state = 0) (h1 : ¬ t.state = 1) (h3 : t.state = 3) : x.stepO key now i = [] := by
 have h2 : ¬ t.state = 2 := by omega
 unfold J.stepO
 rw [h]
 simp only [if_neg h0, if_neg h1, if_neg h2]
theorem fm_s {α : Type} {f : Int → List α} {l : List Int} {j : Nat} (h : j < l.length) : (l.take (j + 1)).flatMap f = (l.take j).flatMap f ++ f (l.getD j 0) := by
 rw [List.take_add_one, getD_at 0 h, List.flatMap_append]; simp
theorem map_s {α : Type} {f : Int → α} {l : List Int} {j : Nat} (h : j < l.length) : (l.take (j + 1)).map f = (l.take j).map f ++ [f (l.getD j 0)] := by
 rw [List.take_add_one, getD_at 0 h, List.map_append]; simp
theorem stepO_len {x : J} (hok : x.ok) (key : List UInt8) (now : Int) (i : Nat) : (x.stepO key now i).length ≤ 32 := by
 have hns := Tal.oks_len hok.ns.2
 unfold J.stepO
 split
 ·exact Nat.zero_le _
 rename_i t ht
 have h1 := Tal.missing_len t
 have h2 := (hok.tk (ht ▸ getD_mem (getD_lt ht))).ns
 rw [h2] at h1
 split
 ·rw [List.length_map]; omega
 split
 ·refine Nat.le_trans (fm_len (c := 2) _ fun n _ => ?_) (by omega)
  rw [List.length_cons]
  split
  ·exact Nat.le_refl _
  decide
 split
 ·rw [List.length_map]; omega
 exact Nat.zero_le _
theorem k2_len {x : J} (hok : x.ok) {key : List UInt8} {now : Int} (i : Nat) {ks l : List Int} {tx : List UInt8} (hks : ks.length ≤ 2) (hl : l.length ≤ 16) (j q : Nat) (hi : i ≤ 16 := by omega) : ((List.range i).flatMap (x.stepO key now) ++ ((l.take j).flatMap fun n => ks.map fun k => x.msg k n i tx) ++ (ks.take q).map fun k => x.msg k (l.getD j 0) i tx).length ≤ 100000 := by
 have h1 := fm_len (f := x.stepO key now) (c := 32) (List.range i) (fun a _ => stepO_len hok key now a)
 have h2 := fm_len (f := fun n => ks.map fun k => x.msg k n i tx) (c := 2) (l.take j) (fun a _ => by rw [List.length_map]; exact hks)
 rw [List.length_range] at h1
 rw [List.length_take] at h2
 rw [lA, lA, List.length_map, List.length_take]
 have h3 : min j l.length ≤ 16 := by omega
 have h4 : min j l.length * 2 ≤ 16 * 2 := Nat.mul_le_mul_right _ h3
 have h5 : i * 32 ≤ 16 * 32 := Nat.mul_le_mul_right _ hi
 omega
theorem order_len (x : J) (key : List UInt8) (i : Nat) (now : Int) : (x.order key i now).length ≤ 100000 := by
 unfold J.order packM
 have h1 := sign_len key (x.cred i now)
 have h2 := Wir.numB_len (x.ss.getD i S0).rk
 have h3 := Wir.numB_len (x.ss.getD i S0).per
 have h4 := Wir.numB_len (x.ss.getD i S0).ds
 have h5 := Wir.numB_len (x.ss.getD i S0).lim
 have h6 := Wir.numB_len ((signM key (x.cred i now)).length : Int)
 simp only [lA]
 unfold Wir.textB
 split
 ·simp only [List.length_nil]; omega
 rw [lA]; omega
theorem at7 {z1 z2 a b c d e : Res} {tm cs : List Res} {k : Nat} {r : Res} (h : tm[k]? = some r) : (z1 :: z2 :: a :: b :: c :: d :: e :: (tm ++ cs))[k + 7]? = some r := at5 (a := a) (b := b) (c := c) (d := d) (e := e) h
theorem steps1_c {q3 q4 q5 : Nat} {key : List UInt8} {now : Int} {x : J} {b bC bT m1 m2 : Nat} {A B : Option Addr} {cap cap2 : Nat} {ps : List (Option Nat)} {zc zt : List Value} {fc ft : Nat × Nat} {l1 l2 : List (Int × Value)} {tm : List Res}{W : World} {F0 F : Snap} {csx : List Res} (w : World) (y : Nat) (K : List M → Snap → List Res → Prop) (hKm : ∀ out G G' c, K out G c → Le G G' → K out G' c)
  (hY : ∀ out G csx' front w2 k n (i : Nat) tx, K out G csx' → out.length ≤ 100000 → Le F G → (∃ q : Nat, front[q]? = some (jB x b bC bT m1 m2 A B cap cap2 ps zc zt)) → tx.length ≤ 100000 → St W G (front ++ csx') w2 → YieldAt Fence.wide 1 prog y #[.agg #[Vi k, Vi 0, Vi n, Vi 0, Vi 0, Vi (i : Int), Vi 0, .string (bs tx)]] w2 fun e w' => e = .returned (.bool true) ∧ ∃ G' csx'', Le G G' ∧ K (out ++ [x.msg k n i tx]) G' csx'' ∧ St W G' (front ++ csx'') w') (hF : Le F0 F) (hK0 : K [] F csx) (h : St W F ((jB x b bC bT m1 m2 A B cap cap2 ps zc zt :: cB x.cs bC zc fc :: tB ps bT zt ft :: [(m1, mobj l1)] :: [(m2, mobj l2)] :: tm) ++ csx) w) (hO0 : JobO F0 x A B ps zc zt fc ft l1 l2 tm) (hok : x.ok) (hq3 : F0 q3 = some (.cells #[pz b] 76 (0, 0))) (hq4 : F0 q4 = some (.cells #[.string (bs key)] 9 (0, 0))) (hq5 : F0 q5 = some (.cells #[Vi now] 3 (0, 0))) (hkl : key.length ≤ 900000) : Calls prog 116 #[.func (.yield y) #[] #[], pz q3, pz q4, pz q5] w fun e w' => (∃ v, e = .returned v) ∧ ∃ G csx', Le F G ∧ K (x.stepsO key now) G csx' ∧ St W G ((jB x b bC bT m1 m2 A B cap cap2 ps zc zt :: cB x.cs bC zc fc :: tB ps bT zt ft :: [(m1, mobj l1)] :: [(m2, mobj l2)] :: tm) ++ csx') w'  := by
 refine enter (args := [.func (.yield y) #[] #[], pz q3, pz q4, pz q5]) func116 rfl rfl rfl ?_
 have hO := hO0.mono hF
 have hns16 := Tal.oks_len hok.ns.2
 have hls := (Dg.chk_ok hok.ss).2.1
 have hlt := hok.lt
 have hxt : x.ts.length ≤ 16 := by omega
 have hlp := hO.ta.lp
 have hlm := hO.ta.lm
 replace h : St W F (jB x b bC bT m1 m2 A B cap cap2 ps zc zt :: cB x.cs bC zc fc :: tB ps bT zt ft :: [(m1, mobj l1)] :: [(m2, mobj l2)] :: (tm ++ csx)) w := h
 have hq3 := hF _ _ hq3
 have hq4 := hF _ _ hq4
 have hq5 := hF _ _ hq5
 refine Wi<|I0 (K0 underlying76 rfl rfl (h.cell (cellB hq3 rfl))) rfl<|H1 h [0] 3 rfl<|I0 (R0 (n := (ps.length : Int)) (Y0 underlying80 rfl rfl) rfl) rfl<|C0 1 rfl<|Wj<|B3 (σ := Nat × Snap × List Res) (fun q_ => [(0, .func (.yield y) #[] #[]), (1, pz q3), (2, pz q4), (3, pz q5), (17, vT ps bT zt), (18, .int .i64 (ps.length : Int)), (19, .int .i64 (q_.1 : Int))]) (fun q_ w => q_.1 ≤ ps.length ∧ Le F q_.2.1 ∧ K ((List.range q_.1).flatMap (x.stepO key now)) q_.2.1 q_.2.2 ∧ St W q_.2.1 (jB x b bC bT m1 m2 A B cap cap2 ps zc zt :: cB x.cs bC zc fc :: tB ps bT zt ft :: [(m1, mobj l1)] :: [(m2, mobj l2)] :: (tm ++ q_.2.2)) w) (fun q_ => ps.length - q_.1) (⟨0, F, csx⟩) (⟨Nat.zero_le _, Le.refl _, hK0, h⟩) ?_
 rintro ⟨i, G, csx2⟩ w1 ⟨hi, hle, hK, hL⟩
 try dsimp only at hi hle hK hL
 refine W2 [(0, .func (.yield y) #[] #[]), (1, pz q3), (2, pz q4), (3, pz q5), (17, vT ps bT zt), (18, .int .i64 (ps.length : Int)), (19, .int .i64 (i : Int))] ?_
 have hq3 := hle _ _ hq3
 have hq4 := hle _ _ hq4
 have hq5 := hle _ _ hq5
 refine Wi<|C0 1 rfl<|Wb<|Z0 rfl (fun c2 => ?_) (fun c2 => ?_)
 ·try simp only [DD] at c2
  refine U0 (H0 (N0 (M1 (N0 ?_))))
  have hi3 : i < x.ts.length := by omega
  rcases hts : x.ts.getD i none with _ | t
  ·obtain ⟨hp, hm1, hm2⟩ := hO.ta.no i hi3 hts
   refine L0<|C0 1 rfl<|I0 (W0 underlying80 inf97 rfl rfl (n := i) rfl (by omega)) rfl<|I0 (X1 (u := .pointer none) (I2 (none : Option Nat) hL 2 rfl (T3 (E := 97) (f := pv) (b := bT) (fz := ft) (xs := ps) (zs := zt) rfl hO.ft) (n := i) (by omega) underlying97 rfl rfl) (by rw [hp]; rfl)) rfl<|C0 2 rfl<|Wh<|C0 1 rfl<|I0 (L2 underlying97 rfl rfl) rfl<|Wa<|J1 rfl (rfl)<|U1<|B2<|E2<|H0<|L0<|I0 (V0 rfl rfl (by omega)) rfl<|C0 1 rfl<|J0 ?_
   have e9 := stepO_n (key := key) (now := now) hts
   rw [← range_fm e9] at hK
   exact F1 (⟨i + 1, G, csx2⟩ : Nat × Snap × List Res) (by show ps.length - (i + 1) < ps.length - i; omega) ⟨rfl, rfl, rfl, rfl, rfl, rfl, rfl, trivial⟩ ⟨by show i + 1 ≤ _; omega, hle, hK, hL⟩
  obtain ⟨bt, q1, q2, hp, hm1, hm2, mv, mc, lv, lc, hTR⟩ := (hO.mono hle).ta.ye i t hts
  refine L0<|C0 1 rfl<|I0 (W0 underlying80 inf97 rfl rfl (n := i) rfl (by omega)) rfl<|I0 (X1 (u := pz bt) (I2 (none : Option Nat) hL 2 rfl (T3 (E := 97) (f := pv) (b := bT) (fz := ft) (xs := ps) (zs := zt) rfl hO.ft) (n := i) (by omega) underlying97 rfl rfl) (by rw [hp]; rfl)) rfl<|C0 2 rfl<|Wh<|C0 1 rfl<|I0 (L2 underlying97 rfl rfl) rfl<|Wa<|E1 rfl (rfl)<|U0<|H0<|N0<|V2 hL hL (fun s_ => ([] : List Nat).any (Nat.beq s_)) mixed (by kernel_rfl)<|fun hx =>fun w3 h3=>V3 12 hx 1 (by rfl) (fun w_ hE_ => K0 underlying76 rfl rfl (hE_.cell (cellB hq3 rfl))) rfl<|J4 hx 12 [5] [2, 3, 4, 5] [0] rfl<|F3 0 h3 (by rfl)<|X2 (vs := (([5] : List Int)).map Vi) h3 rfl underlying33 inf3 rfl rfl rfl rfl rfl fun lit26 w4 h4=>J0<|H2<|L3 hx [6, 7, 8] rfl<|H3 (.inr (h4.drop 0)) (by kernel_rfl)<|H0<|N0<|Wi<|C0 1 rfl<|C1 (cn func45) rfl rfl (Tal.state_c _ h4 (TR.at2 hTR (at6 hm1) (at6 hm2) (by omega))) fun w5 h5 =>Wa<|WC.cutT (σ := List Int × List Int × List UInt8 × Option Addr × Nat × Option Addr × Nat × Snap) (fun q_ => [(0, .func (.yield y) #[] #[]), (1, pz q3), (2, pz q4), (3, pz q5), (17, vT ps bT zt), (18, .int .i64 (ps.length : Int)), (19, .int .i64 (i : Int)), (5, Vi (i : Nat)), (7, .slice q_.2.2.2.1 q_.1.length q_.2.2.2.2.1), (8, .slice q_.2.2.2.2.2.1 q_.2.1.length q_.2.2.2.2.2.2.1), (9, .string (bs q_.2.2.1))]) (fun q_ w => Le G q_.2.2.2.2.2.2.2 ∧ RdS (Kd.one Vi) q_.2.2.2.2.2.2.2 q_.2.2.2.1 q_.1 ∧ RdS (Kd.one Vi) q_.2.2.2.2.2.2.2 q_.2.2.2.2.2.1 q_.2.1 ∧ K ((List.range i).flatMap (x.stepO key now)) q_.2.2.2.2.2.2.2 csx2 ∧ q_.2.1.length ≤ 16 ∧ q_.1.length ≤ 2 ∧ q_.2.2.1.length ≤ 100000 ∧ x.stepO key now i = (q_.2.1.flatMap fun n => q_.1.map fun k => x.msg k n i q_.2.2.1) ∧ St W q_.2.2.2.2.2.2.2 (jB x b bC bT m1 m2 A B cap cap2 ps zc zt :: cB x.cs bC zc fc :: tB ps bT zt ft :: [(m1, mobj l1)] :: [(m2, mobj l2)] :: (tm ++ csx2)) w) ?_ ?_
  ·refine M1<|Wi<|C0 2 rfl<|Wa<|Z0 rfl (fun c6 => ?_) (fun c6 => ?_)
   ·try simp only [DD] at c6
    refine V2 h5 h5 (fun s_ => ([] : List Nat).any (Nat.beq s_)) mixed (by kernel_rfl)<|fun hx =>fun w7 h7=>L3 hx [1, 5] rfl<|V3 12 hx 3 (by rfl) (fun w_ hE_ => K0 underlying76 rfl rfl (hE_.cell (cellB hq3 rfl))) rfl<|V3 12 hx 4 (by rfl) (fun w_ hE_ => K0 underlying9 rfl rfl (hE_.cell (cellB hq4 rfl))) rfl<|V3 12 hx 6 (by rfl) (fun w_ hE_ => K0 underlying3 rfl rfl (hE_.cell (cellB hq5 rfl))) rfl<|WE.op2 (.inr h7) (i := 0) (j := 2) (by rfl) (by rfl) (by kernel_rfl) ?_ ?_
    ·refine X2 (vs := (([2] : List Int)).map Vi) h7 rfl underlying33 inf3 rfl rfl rfl rfl rfl fun lit36 w8 h8=>J0<|H2<|F3 2 (h8.drop 0) (by rfl)<|V1 (cn func117) rfl rfl (Tal.missing_c _ h8 (TR.at2 hTR (at7 hm1) (at7 hm2) (by omega))) ?_
     rintro _ w9 ⟨GM, AM, cM, hGM, rfl, hcM, hrM, h9⟩
     refine ⟨_, rfl, ?_⟩
     have hq3 := hGM _ _ hq3
     have hq4 := hGM _ _ hq4
     have hq5 := hGM _ _ hq5
     refine J0<|H2<|F3 7 ((h9.weak hGM).drop 0) (by rfl)<|C1 (cn func118) rfl rfl (order_c _ (j := 2) (i := i) h9 rfl (hO.nd.mono (Le.trans hle hGM)) (hO.st.mono (Le.trans hle hGM)) hok (by omega) hkl) fun w10 h10 =>J0<|H2<|L3 hx [8, 9, 10] rfl<|H3 (.inr ((h10.weak hGM).drop 0)) (by kernel_rfl)<|N1 ?_
     replace h10 : St W GM ([(lit36, .cells (([2] : List Int).map Vi).toArray 3 (0, 0))] :: [(lit26, .cells (([5] : List Int).map Vi).toArray 3 (0, 0))] :: jB x b bC bT m1 m2 A B cap cap2 ps zc zt :: cB x.cs bC zc fc :: tB ps bT zt ft :: [(m1, mobj l1)] :: [(m2, mobj l2)] :: (tm ++ csx2)) w10 := h10
     obtain ⟨G5, hG5, hrK, h10⟩ := St.litRd (f := Vi) (xs := ([2] : List Int)) h10
     replace h10 := h10.drop 0
     have hleA := Le.trans hle (Le.trans hGM hG5)
     have hTO := hrM.mono hG5
     have hKb := hKm _ _ _ _ hK (Le.trans hGM hG5)
     have htl : (t.missing).length ≤ 16 := by have h1 := Tal.missing_len t; have h2 := (hok.tk (hts ▸ getD_mem hi3)).ns; rw [h2] at h1; omega
     have hks2 : ([2] : List Int).length ≤ 2 := by decide
     have htx : (x.order key i now : List UInt8).length ≤ 100000 := order_len x key i now
     exact Q6 (⟨[2], t.missing, x.order key i now, (some ⟨lit36, 0, none⟩), 1, AM, cM, G5⟩ : List Int × List Int × List UInt8 × Option Addr × Nat × Option Addr × Nat × Snap) (by repeat (first | exact trivial | refine ⟨rfl, ?_⟩)) ⟨(Le.trans hGM hG5), hrK, hTO, hKb, htl, hks2, htx, (stepO_0 hts c6), h10⟩
    refine V1 (cn func117) rfl rfl (Tal.missing_c _ h7 (TR.at2 hTR (at6 hm1) (at6 hm2) (by omega))) ?_
    rintro _ w11 ⟨GM, AM, cM, hGM, rfl, hcM, hrM, h11⟩
    refine ⟨_, rfl, ?_⟩
    have hq3 := hGM _ _ hq3
    have hq4 := hGM _ _ hq4
    have hq5 := hGM _ _ hq5
    refine J0<|H2<|WE.op2 (.inr (h11.weak hGM)) (i := 0) (j := 7) (by rfl) (by rfl) (by kernel_rfl) ?_ ?_
    ·refine X2 (vs := (([2] : List Int)).map Vi) h11 rfl underlying33 inf3 rfl rfl rfl rfl rfl fun lit36 w12 h12=>J0<|H2<|F3 7 ((h12.weak hGM).drop 0) (by rfl)<|C1 (cn func118) rfl rfl (order_c _ (j := 2) (i := i) h12 rfl (hO.nd.mono (Le.trans hle hGM)) (hO.st.mono (Le.trans hle hGM)) hok (by omega) hkl) fun w13 h13 =>J0<|H2<|L3 hx [8, 9, 10] rfl<|H3 (.inr ((h13.weak hGM).drop 0)) (by kernel_rfl)<|N1 ?_
     replace h13 : St W GM ([(lit36, .cells (([2] : List Int).map Vi).toArray 3 (0, 0))] :: [(lit26, .cells (([5] : List Int).map Vi).toArray 3 (0, 0))] :: jB x b bC bT m1 m2 A B cap cap2 ps zc zt :: cB x.cs bC zc fc :: tB ps bT zt ft :: [(m1, mobj l1)] :: [(m2, mobj l2)] :: (tm ++ csx2)) w13 := h13
     obtain ⟨G5, hG5, hrK, h13⟩ := St.litRd (f := Vi) (xs := ([2] : List Int)) h13
     replace h13 := h13.drop 0
     have hleA := Le.trans hle (Le.trans hGM hG5)
     have hTO := hrM.mono hG5
     have hKb := hKm _ _ _ _ hK (Le.trans hGM hG5)
     have htl : (t.missing).length ≤ 16 := by have h1 := Tal.missing_len t; have h2 := (hok.tk (hts ▸ getD_mem hi3)).ns; rw [h2] at h1; omega
     have hks2 : ([2] : List Int).length ≤ 2 := by decide
     have htx : (x.order key i now : List UInt8).length ≤ 100000 := order_len x key i now
     exact Q6 (⟨[2], t.missing, x.order key i now, (some ⟨lit36, 0, none⟩), 1, AM, cM, G5⟩ : List Int × List Int × List UInt8 × Option Addr × Nat × Option Addr × Nat × Snap) (by repeat (first | exact trivial | refine ⟨rfl, ?_⟩)) ⟨(Le.trans hGM hG5), hrK, hTO, hKb, htl, hks2, htx, (stepO_0 hts c6), h13⟩
    refine C1 (cn func118) rfl rfl (order_c _ (j := 1) (i := i) h11 rfl (hO.nd.mono (Le.trans hle hGM)) (hO.st.mono (Le.trans hle hGM)) hok (by omega) hkl) fun w14 h14 =>J0<|H2<|F3 0 (h14.weak hGM) (by rfl)<|X2 (vs := (([2] : List Int)).map Vi) h14 rfl underlying33 inf3 rfl rfl rfl rfl rfl fun lit36 w15 h15=>J0<|H2<|L3 hx [8, 9, 10] rfl<|H3 (.inr ((h15.weak hGM).drop 0)) (by kernel_rfl)<|N1 ?_
    replace h15 : St W GM ([(lit36, .cells (([2] : List Int).map Vi).toArray 3 (0, 0))] :: [(lit26, .cells (([5] : List Int).map Vi).toArray 3 (0, 0))] :: jB x b bC bT m1 m2 A B cap cap2 ps zc zt :: cB x.cs bC zc fc :: tB ps bT zt ft :: [(m1, mobj l1)] :: [(m2, mobj l2)] :: (tm ++ csx2)) w15 := h15
    obtain ⟨G5, hG5, hrK, h15⟩ := St.litRd (f := Vi) (xs := ([2] : List Int)) h15
    replace h15 := h15.drop 0
    have hleA := Le.trans hle (Le.trans hGM hG5)
    have hTO := hrM.mono hG5
    have hKb := hKm _ _ _ _ hK (Le.trans hGM hG5)
    have htl : (t.missing).length ≤ 16 := by have h1 := Tal.missing_len t; have h2 := (hok.tk (hts ▸ getD_mem hi3)).ns; rw [h2] at h1; omega
    have hks2 : ([2] : List Int).length ≤ 2 := by decide
    have htx : (x.order key i now : List UInt8).length ≤ 100000 := order_len x key i now
    exact Q6 (⟨[2], t.missing, x.order key i now, (some ⟨lit36, 0, none⟩), 1, AM, cM, G5⟩ : List Int × List Int × List UInt8 × Option Addr × Nat × Option Addr × Nat × Snap) (by repeat (first | exact trivial | refine ⟨rfl, ?_⟩)) ⟨(Le.trans hGM hG5), hrK, hTO, hKb, htl, hks2, htx, (stepO_0 hts c6), h15⟩
   try simp only [DD] at c6
   refine Wi<|C0 2 rfl<|Wa<|Z0 rfl (fun c16 => ?_) (fun c16 => ?_)
   ·try simp only [DD] at c16
    refine Wi<|X2 (vs := (([4] : List Int)).map Vi) h5 rfl underlying33 inf3 rfl rfl rfl rfl rfl fun lit46 w17 h17=>C0 1 rfl<|V1 (cn func117) rfl rfl (Tal.missing_c _ h17 (TR.at2 hTR (at7 hm1) (at7 hm2) (by omega))) ?_
    rintro _ w18 ⟨GM, AM, cM, hGM, rfl, hcM, hrM, h18⟩
    refine ⟨_, rfl, ?_⟩
    have hq3 := hGM _ _ hq3
    have hq4 := hGM _ _ hq4
    have hq5 := hGM _ _ hq5
    refine C0 2 rfl<|We<|I0 (K0 underlying76 rfl rfl (h18.cell (cellB hq3 rfl))) rfl<|H1 h18 [2] 3 rfl<|Wa<|Z0 rfl (fun c19 => ?_) (fun c19 => ?_)
    ·try simp only [DD] at c19
     have hro : Row 3 Vi [(lit46, .cells (([4] : List Int).map Vi).toArray 3 (0, 0))] (.slice (some ⟨lit46, 0, none⟩) 1 1) [4] := Row.lit rfl
     replace h18 : St W GM ([(lit46, .cells (([4] : List Int).map Vi).toArray 3 (0, 0))] :: [(lit26, .cells (([5] : List Int).map Vi).toArray 3 (0, 0))] :: jB x b bC bT m1 m2 A B cap cap2 ps zc zt :: cB x.cs bC zc fc :: tB ps bT zt ft :: [(m1, mobj l1)] :: [(m2, mobj l2)] :: (tm ++ csx2)) w18 := h18
     refine L0<|C0 1 rfl<|X2 (vs := (([7] : List Int)).map Vi) h18 rfl underlying33 inf3 rfl rfl rfl rfl rfl fun lit54 w20 h20=>I3 (ys := ([7] : List Int)) 1 h20 rfl rfl rfl rfl underlying33 underlying33 (.inr ⟨_, rfl⟩) inf3 rfl hro (Src.lit h20 0 rfl rfl rfl) rfl rfl (by first | omega | (simp []; done) | (simp []; omega)) (by first | omega | (simp []; done) | (simp []; omega)) ?_
     intro r21 v21 w22 hr21 h22
     simp only [lz, ls] at h22
     replace h22 := h22.drop 0
     simp only [ez, es'] at h22
     refine C0 1 rfl<|J0 (N1 ?_)
     obtain ⟨Aq, cq, rfl, hcq⟩ := hr21.val
     obtain ⟨G5, hG5, hf5, h22⟩ := h22.freeze (i := 0) rfl
     have hrK := Row.read hr21 rfl hf5
     replace h22 := h22.drop 0
     have hleA := Le.trans hle (Le.trans hGM hG5)
     have hTO := hrM.mono hG5
     have hKb := hKm _ _ _ _ hK (Le.trans hGM hG5)
     have htl : (t.missing).length ≤ 16 := by have h1 := Tal.missing_len t; have h2 := (hok.tk (hts ▸ getD_mem hi3)).ns; rw [h2] at h1; omega
     have hks2 : ([4, 7] : List Int).length ≤ 2 := by decide
     have htx : ([] : List UInt8).length ≤ 100000 := Nat.zero_le _
     exact Q6 (⟨[4, 7], t.missing, [], Aq, cq, AM, cM, G5⟩ : List Int × List Int × List UInt8 × Option Addr × Nat × Option Addr × Nat × Snap) (by repeat (first | exact trivial | refine ⟨rfl, ?_⟩)) ⟨(Le.trans hGM hG5), hrK, hTO, hKb, htl, hks2, htx, (stepO_1a hts c6 c16 c19), h22⟩
    try simp only [DD] at c19
    refine U0 (N1 ?_)
    replace h18 : St W GM ([(lit46, .cells (([4] : List Int).map Vi).toArray 3 (0, 0))] :: [(lit26, .cells (([5] : List Int).map Vi).toArray 3 (0, 0))] :: jB x b bC bT m1 m2 A B cap cap2 ps zc zt :: cB x.cs bC zc fc :: tB ps bT zt ft :: [(m1, mobj l1)] :: [(m2, mobj l2)] :: (tm ++ csx2)) w18 := h18
    obtain ⟨G5, hG5, hrK, h18⟩ := St.litRd (f := Vi) (xs := ([4] : List Int)) h18
    replace h18 := h18.drop 0
    have hleA := Le.trans hle (Le.trans hGM hG5)
    have hTO := hrM.mono hG5
    have hKb := hKm _ _ _ _ hK (Le.trans hGM hG5)
    have htl : (t.missing).length ≤ 16 := by have h1 := Tal.missing_len t; have h2 := (hok.tk (hts ▸ getD_mem hi3)).ns; rw [h2] at h1; omega
    have hks2 : ([4] : List Int).length ≤ 2 := by decide
    have htx : ([] : List UInt8).length ≤ 100000 := Nat.zero_le _
    exact Q6 (⟨[4], t.missing, [], (some ⟨lit46, 0, none⟩), 1, AM, cM, G5⟩ : List Int × List Int × List UInt8 × Option Addr × Nat × Option Addr × Nat × Snap) (by repeat (first | exact trivial | refine ⟨rfl, ?_⟩)) ⟨(Le.trans hGM hG5), hrK, hTO, hKb, htl, hks2, htx, (stepO_1 hts c6 c16 c19), h18⟩
   try simp only [DD] at c16
   refine Wi<|C0 2 rfl<|Wa<|Z0 rfl (fun c23 => ?_) (fun c23 => ?_)
   ·try simp only [DD] at c23
    refine U1<|C6 rfl<|WX.cut<|E2<|H0<|L0<|I0 (V0 rfl rfl (by omega)) rfl<|C0 1 rfl<|J0 ?_
    have e9 := stepO_3 (key := key) (now := now) hts c6 c16 c23
    rw [← range_fm e9] at hK
    replace h5 := h5.drop 0
    exact F1 (⟨i + 1, G, csx2⟩ : Nat × Snap × List Res) (by show ps.length - (i + 1) < ps.length - i; omega) ⟨rfl, rfl, rfl, rfl, rfl, rfl, rfl, trivial⟩ ⟨by show i + 1 ≤ _; omega, hle, hK, h5⟩
   try simp only [DD] at c23
   refine U0 (N1 ?_)
   replace h5 : St W G ([(lit26, .cells (([5] : List Int).map Vi).toArray 3 (0, 0))] :: jB x b bC bT m1 m2 A B cap cap2 ps zc zt :: cB x.cs bC zc fc :: tB ps bT zt ft :: [(m1, mobj l1)] :: [(m2, mobj l2)] :: (tm ++ csx2)) w5 := h5
   obtain ⟨G5, hG5, hrK, h5⟩ := St.litRd (f := Vi) (xs := ([5] : List Int)) h5
   have hleA := Le.trans hle hG5
   have hTO := hO.nd.mono hleA
   have hKb := hKm _ _ _ _ hK hG5
   have htl : (x.ns).length ≤ 16 := hns16
   have hks2 : ([5] : List Int).length ≤ 2 := by decide
   have htx : ([] : List UInt8).length ≤ 100000 := Nat.zero_le _
   exact Q6 (⟨[5], x.ns, [], (some ⟨lit26, 0, none⟩), 1, A, cap, G5⟩ : List Int × List Int × List UInt8 × Option Addr × Nat × Option Addr × Nat × Snap) (by repeat (first | exact trivial | refine ⟨rfl, ?_⟩)) ⟨hG5, hrK, hTO, hKb, htl, hks2, htx, (stepO_2 hts c6 c16 c23), h5⟩
  rintro ⟨kz, to_, tx_, kA, kC, tA, tC, G5⟩ w24 ⟨hGG, hrK, hTO, hKb, htl, hks2, htx, hSH, hL5⟩
  dsimp only at hGG hrK hTO hKb htl hks2 htx hSH hL5
  refine N0 ?_
  have hleA := Le.trans hle hGG
  refine L0<|C0 1 rfl<|I0 (R0 (n := ((to_).length : Int)) (Y0 underlying33 rfl rfl) rfl) rfl<|C0 1 rfl<|Wj<|B3 (σ := Nat × Snap × List Res) (fun q_ => [(0, .func (.yield y) #[] #[]), (1, pz q3), (2, pz q4), (3, pz q5), (17, vT ps bT zt), (18, .int .i64 (ps.length : Int)), (19, .int .i64 (i : Int)), (5, Vi (i : Nat)), (7, .slice kA (kz : List Int).length kC), (9, .string (bs ((tx_ : List UInt8)))), (58, .slice tA (to_).length tC), (59, .int .i64 ((to_).length : Int)), (60, .int .i64 (q_.1 : Int))]) (fun q_ w => q_.1 ≤ (to_).length ∧ Le G5 q_.2.1 ∧ K (((List.range i).flatMap (x.stepO key now)) ++ ((to_).take q_.1).flatMap fun n => (kz : List Int).map fun k => x.msg k n i ((tx_ : List UInt8))) q_.2.1 q_.2.2 ∧ St W q_.2.1 (jB x b bC bT m1 m2 A B cap cap2 ps zc zt :: cB x.cs bC zc fc :: tB ps bT zt ft :: [(m1, mobj l1)] :: [(m2, mobj l2)] :: (tm ++ q_.2.2)) w) (fun q_ => (to_).length - q_.1) (⟨0, G5, csx2⟩) (⟨Nat.zero_le _, Le.refl _, (by simpa using hKb), hL5⟩) ?_
  rintro ⟨j, G6, csx4⟩ w25 ⟨hj, hle6, hK4, hL⟩
  try dsimp only at hj hle6 hK4 hL
  refine W2 [(0, .func (.yield y) #[] #[]), (1, pz q3), (2, pz q4), (3, pz q5), (17, vT ps bT zt), (18, .int .i64 (ps.length : Int)), (19, .int .i64 (i : Int)), (5, Vi (i : Nat)), (7, .slice kA (kz : List Int).length kC), (9, .string (bs ((tx_ : List UInt8)))), (58, .slice tA (to_).length tC), (59, .int .i64 ((to_).length : Int)), (60, .int .i64 (j : Int))]<|Wi<|C0 1 rfl<|Wb<|Z0 rfl (fun c26 => ?_) (fun c26 => ?_)
  ·try simp only [DD] at c26
   refine U0 (H0 (N0 (M1 (N0 ?_))))
   have hj2 : j < (to_).length := by omega
   obtain ⟨adT, hadT, hrdj⟩ := rd1 (hTO.mono hle6) (by omega)
   refine L0<|I0 (Z3 hadT underlying33 inf3 rfl rfl (n := j) rfl (by omega)) rfl<|I0 (I1 (f := Vi) (0 : Int) hL hrdj (n := j) (by omega) underlying3 rfl rfl) rfl<|C0 1 rfl<|We<|C0 1 rfl<|I0 (R0 (n := ((kz : List Int).length : Int)) (Y0 underlying33 rfl rfl) rfl) rfl<|C0 1 rfl<|Wj<|B3 (σ := Nat × Snap × List Res) (fun q_ => [(0, .func (.yield y) #[] #[]), (1, pz q3), (2, pz q4), (3, pz q5), (17, vT ps bT zt), (18, .int .i64 (ps.length : Int)), (19, .int .i64 (i : Int)), (5, Vi (i : Nat)), (7, .slice kA (kz : List Int).length kC), (9, .string (bs ((tx_ : List UInt8)))), (58, .slice tA (to_).length tC), (59, .int .i64 ((to_).length : Int)), (60, .int .i64 (j : Int)), (11, Vi ((to_).getD j 0)), (64, .slice kA (kz : List Int).length kC), (65, .int .i64 ((kz : List Int).length : Int)), (66, .int .i64 (q_.1 : Int))]) (fun q_ w => q_.1 ≤ (kz : List Int).length ∧ Le G6 q_.2.1 ∧ K ((((List.range i).flatMap (x.stepO key now)) ++ ((to_).take j).flatMap fun n => (kz : List Int).map fun k => x.msg k n i ((tx_ : List UInt8))) ++ ((kz : List Int).take q_.1).map fun k => x.msg k ((to_).getD j 0) i ((tx_ : List UInt8))) q_.2.1 q_.2.2 ∧ St W q_.2.1 (jB x b bC bT m1 m2 A B cap cap2 ps zc zt :: cB x.cs bC zc fc :: tB ps bT zt ft :: [(m1, mobj l1)] :: [(m2, mobj l2)] :: (tm ++ q_.2.2)) w) (fun q_ => (kz : List Int).length - q_.1) (⟨0, G6, csx4⟩) (⟨Nat.zero_le _, Le.refl _, (by simpa using hK4), hL⟩) ?_
   rintro ⟨q, G7, csx5⟩ w27 ⟨hq9, hle7, hK5, hL⟩
   try dsimp only at hq9 hle7 hK5 hL
   refine W2 [(0, .func (.yield y) #[] #[]), (1, pz q3), (2, pz q4), (3, pz q5), (17, vT ps bT zt), (18, .int .i64 (ps.length : Int)), (19, .int .i64 (i : Int)), (5, Vi (i : Nat)), (7, .slice kA (kz : List Int).length kC), (9, .string (bs ((tx_ : List UInt8)))), (58, .slice tA (to_).length tC), (59, .int .i64 ((to_).length : Int)), (60, .int .i64 (j : Int)), (11, Vi ((to_).getD j 0)), (64, .slice kA (kz : List Int).length kC), (65, .int .i64 ((kz : List Int).length : Int)), (66, .int .i64 (q : Int))]<|Wi<|C0 1 rfl<|Wb<|Z0 rfl (fun c28 => ?_) (fun c28 => ?_)
   ·try simp only [DD] at c28
    refine U0 (H0 (N0 (M1 (N0 ?_))))
    have hq10 : q < (kz : List Int).length := by show q < (kz : List Int).length; omega
    obtain ⟨adK, hadK, hrdq⟩ := rd1 (hrK.mono (Le.trans hle6 hle7)) (by omega)
    refine L0<|I0 (Z3 hadK underlying33 inf3 rfl rfl (n := q) rfl (by show q < (kz : List Int).length; omega)) rfl<|I0 (I1 (f := Vi) (0 : Int) hL hrdq (n := q) (by show q < (kz : List Int).length; omega) underlying3 rfl rfl) rfl<|C0 1 rfl<|Wb<|B7<|L5 (C3 rfl) rfl<|L5 (C3 rfl) rfl<|L5 (C3 rfl) rfl<|L5 (C3 rfl) rfl<|L5 (C3 rfl) rfl<|L5 (R2 (vs := [(0, Vi ((kz : List Int).getD q 0)), (2, Vi ((to_).getD j 0)), (5, Vi (i : Nat)), (7, .string (bs ((tx_ : List UInt8))))]) (cells := #[Vi ((kz : List Int).getD q 0), Vi 0, Vi ((to_).getD j 0), Vi 0, Vi 0, Vi (i : Nat), Vi 0, .string (bs ((tx_ : List UInt8)))]) rfl (by kernel_rfl)) rfl<|C7 rfl rfl (hY ((((List.range i).flatMap (x.stepO key now)) ++ ((to_).take j).flatMap fun n => (kz : List Int).map fun k => x.msg k n i ((tx_ : List UInt8))) ++ ((kz : List Int).take q).map fun k => x.msg k ((to_).getD j 0) i ((tx_ : List UInt8))) G7 csx5 (jB x b bC bT m1 m2 A B cap cap2 ps zc zt :: cB x.cs bC zc fc :: tB ps bT zt ft :: [(m1, mobj l1)] :: [(m2, mobj l2)] :: tm) _ ((kz : List Int).getD q 0) ((to_).getD j 0) i ((tx_ : List UInt8)) hK5 (k2_len hok i hks2 htl j q) (Le.trans hleA (Le.trans hle6 hle7)) ⟨0, rfl⟩ htx hL) rfl ?_
    rintro _ wy ⟨rfl, G2, csx3, hG2, hK2, hS2⟩
    refine ⟨_, rfl,L5 (R1 rfl) rfl<|WI.nil<|H0<|E1 rfl (rfl)<|U0<|N1<|H0<|L0<|I0 (V0 rfl rfl (by omega)) rfl<|C0 1 rfl<|J0 ?_⟩
    rw [List.append_assoc, ← map_s (f := fun k => x.msg k ((to_).getD j 0) i ((tx_ : List UInt8))) hq10] at hK2
    exact F1 (⟨q + 1, G2, csx3⟩ : Nat × Snap × List Res) (by show (kz : List Int).length - (q + 1) < (kz : List Int).length - q; omega) ⟨rfl, rfl, rfl, rfl, rfl, rfl, rfl, rfl, rfl, rfl, rfl, rfl, rfl, rfl, rfl, rfl, rfl, trivial⟩ ⟨by show q + 1 ≤ _; omega, Le.trans hle7 hG2, hK2, hS2⟩
   try simp only [DD] at c28
   refine U1<|B2<|WX.cut<|E2<|N1<|H0<|L0<|I0 (V0 rfl rfl (by omega)) rfl<|C0 1 rfl<|J0 ?_
   have e9 := fm_s (f := fun n => (kz : List Int).map fun k => x.msg k n i ((tx_ : List UInt8))) hj2
   obtain rfl : q = (kz : List Int).length := by have := hq9; show q = (kz : List Int).length; omega
   rw [List.take_of_length_le (Nat.le_refl _), List.append_assoc, ← e9] at hK5
   exact F1 (⟨j + 1, G7, csx5⟩ : Nat × Snap × List Res) (by show (to_).length - (j + 1) < (to_).length - j; omega) ⟨rfl, rfl, rfl, rfl, rfl, rfl, rfl, rfl, rfl, rfl, rfl, rfl, rfl, trivial⟩ ⟨by show j + 1 ≤ _; omega, Le.trans hle6 hle7, hK5, hL⟩
  try simp only [DD] at c26
  refine U1<|B2<|WX.cut<|E2<|N1<|H0<|L0<|I0 (V0 rfl rfl (by omega)) rfl<|C0 1 rfl<|J0 ?_
  obtain rfl : j = (to_).length := by omega
  rw [List.take_of_length_le (Nat.le_refl _), range_fs hSH] at hK4
  exact F1 (⟨i + 1, G6, csx4⟩ : Nat × Snap × List Res) (by show ps.length - (i + 1) < ps.length - i; omega) ⟨rfl, rfl, rfl, rfl, rfl, rfl, rfl, trivial⟩ ⟨by show i + 1 ≤ _; omega, Le.trans hleA hle6, hK4, hL⟩
 try simp only [DD] at c2
 refine U1 (B2 (WX.cut (E2 ?_)))
 obtain rfl : i = ps.length := by omega
 exact end0 rfl ⟨⟨_, rfl⟩, G, csx2, hle, (by rw [hlp] at hK; exact hK), hL⟩
abbrev CanF (gf : FuncId) : Prop := B.Can prog gf
theorem out_1 {x : J} {key : List UInt8} {now : Int} (h : ¬ x.ph = 0) (h1 : x.ph = 1) : x.out key now = x.stepsO key now := (if_neg h).trans (if_pos h1)
theorem out_2 {x : J} {key : List UInt8} {now : Int} (h : ¬ x.ph = 0) (h1 : ¬ x.ph = 1) (h2 : x.ph = 2) : x.out key now = x.lastO := (if_neg h).trans ((if_neg h1).trans (if_pos h2))
theorem out_3 {x : J} {key : List UInt8} {now : Int} (h : ¬ x.ph = 0) (h1 : ¬ x.ph = 1) (h2 : ¬ x.ph = 2) : x.out key now = [] := (if_neg h).trans ((if_neg h1).trans (if_neg h2))
theorem steps_c (w : World) {b : Nat} {key : List UInt8} {now : Int} (h : St W F cs w) : Calls prog 71 #[pz b, .string (bs key), Vi now] w fun e w' => ∃ G q3 q4 q5, Le F G ∧ e = .returned (.func (.func 116) #[] #[pz q3, pz q4, pz q5]) ∧ G q3 = some (.cells #[pz b] 76 (0, 0)) ∧ G q4 = some (.cells #[.string (bs key)] 9 (0, 0)) ∧ G q5 = some (.cells #[Vi now] 3 (0, 0)) ∧ St W G cs w'  := by
 refine enter (args := [pz b, .string (bs key), Vi now]) func71 rfl rfl rfl<|Wi<|J3 rfl h rfl fun b3 w1 h1=>J3 rfl h1 rfl fun b4 w2 h2=>J3 rfl h2 rfl fun b5 w3 h3=>C0 1 rfl<|We<|I0 (Runs.makeFunc (us := []) (vs := [pz b3, pz b4, pz b5]) rfl rfl) rfl<|C0 1 rfl<|J0 (H0 (O1 ?_))
 obtain ⟨G1, hG1, hf1, h91⟩ := h3.freeze (i := 0) rfl
 obtain ⟨G2, hG2, hf2, h92⟩ := h91.freeze (i := 0) rfl
 obtain ⟨G3, hG3, hf3, h93⟩ := h92.freeze (i := 0) rfl
 exact ret1 rfl rfl ⟨G3, b3, b4, b5, Le.trans hG1 (Le.trans hG2 hG3), rfl, hf3 _ List.mem_cons_self, hG3 _ _ (hf2 _ List.mem_cons_self), hG3 _ _ (hG2 _ _ (hf1 _ List.mem_cons_self)), h93⟩
theorem messages_c (w : World) {x : J} {b bC bT m1 m2 : Nat} {A B : Option Addr} {cap cap2 : Nat} {ps : List (Option Nat)} {zc zt : List Value} {fc ft : Nat × Nat} {l1 l2 : List (Int × Value)} {tm : List Res}{key : List UInt8} {now : Int} (h : St W F ((jB x b bC bT m1 m2 A B cap cap2 ps zc zt :: cB x.cs bC zc fc :: tB ps bT zt ft :: [(m1, mobj l1)] :: [(m2, mobj l2)] :: tm) ++ cs) w) (hO : JobO F x A B ps zc zt fc ft l1 l2 tm) (hok : x.ok) (hkl : key.length ≤ 900000) : Calls prog 32 #[pz b, .string (bs key), Vi now] w fun e w' => ∃ G gf fa lb, Le F G ∧ e = .returned (.func (.func gf) fa lb) ∧ CanF gf ∧ Seq gf fa lb x (jB x b bC bT m1 m2 A B cap cap2 ps zc zt) (jB x b bC bT m1 m2 A B cap cap2 ps zc zt :: cB x.cs bC zc fc :: tB ps bT zt ft :: [(m1, mobj l1)] :: [(m2, mobj l2)] :: tm) G (x.out key now) ∧ St W G ((jB x b bC bT m1 m2 A B cap cap2 ps zc zt :: cB x.cs bC zc fc :: tB ps bT zt ft :: [(m1, mobj l1)] :: [(m2, mobj l2)] :: tm) ++ cs) w'  := by
 refine enter (args := [pz b, .string (bs key), Vi now]) func32 rfl rfl rfl ?_
 replace h : St W F (jB x b bC bT m1 m2 A B cap cap2 ps zc zt :: cB x.cs bC zc fc :: tB ps bT zt ft :: [(m1, mobj l1)] :: [(m2, mobj l2)] :: (tm ++ cs)) w := h
 refine Wi<|C0 1 rfl<|Wh<|H1 h [0] 4 rfl<|Wj<|Wi<|C0 2 rfl<|Wa<|Z0 rfl (fun c1 => ?_) (fun c1 => ?_)
 ·try simp only [DD] at c1
  refine Wi<|C0 1 rfl<|I0 (Runs.makeFunc (us := [pz b]) (vs := []) rfl rfl) rfl<|C0 1 rfl<|Wg<|ret1 rfl rfl ⟨F, 70, _, _, Le.refl F, rfl, (cn func70), ?_, h⟩
  rw [show x.out key now = x.firstO from if_pos c1]
  exact fun W F csx w y K hKm hY hF hK h => first_c w y K hKm hY hF hK h hO hok
 try simp only [DD] at c1
 refine Wi<|C0 2 rfl<|Wa<|Z0 rfl (fun c2 => ?_) (fun c2 => ?_)
 ·try simp only [DD] at c2
  refine Wi<|C0 3 rfl<|V1 (cn func71) rfl rfl (steps_c _ h) ?_
  rintro _ w3 ⟨G9, q3, q4, q5, hG9, rfl, hq3, hq4, hq5, h3⟩
  refine ⟨_, rfl,C0 1 rfl<|Wg<|ret1 rfl rfl ⟨G9, 116, _, _, hG9, rfl, (cn func116), ?_, h3⟩⟩
  rw [out_1 c1 c2]
  exact fun W F csx w y K hKm hY hF hK h => steps1_c w y K hKm hY hF hK h (hO.mono hG9) hok hq3 hq4 hq5 hkl
 try simp only [DD] at c2
 refine Wi<|C0 2 rfl<|Wa<|Z0 rfl (fun c4 => ?_) (fun c4 => ?_)
 ·try simp only [DD] at c4
  refine Wi<|C0 1 rfl<|I0 (Runs.makeFunc (us := [pz b]) (vs := []) rfl rfl) rfl<|C0 1 rfl<|Wg<|ret1 rfl rfl ⟨F, 72, _, _, Le.refl F, rfl, (cn func72), ?_, h⟩
  rw [out_2 c1 c2 c4]
  exact fun W F csx w y K hKm hY hF hK h => last_c w y K hKm hY hF hK h hO hok
 try simp only [DD] at c4
 refine U0<|N1<|H0<|Wi<|C0 1 rfl<|Wg<|ret1 rfl rfl ⟨F, 73, _, _, Le.refl F, rfl, (cn func73), ?_, h⟩
 rw [out_3 c1 c2 c4]
 exact msgs0 _ _ _ _
theorem inf9 : Inf prog 9 (.string ⟨#[]⟩) 1 16 := by unfold Inf; kernel_rfl
theorem inf39 : Inf prog 39 (.slice none 0 0) 1 24 := by unfold Inf; kernel_rfl
abbrev sB (l : List UInt8) : Value := .string (bs l)
theorem nth_app {α : Type} {l m : List α} {q : Nat} {a : α} (h : m[q]? = some a) : (l ++ m)[l.length + q]? = some a := by
 rw [List.getElem?_append_right (Nat.le_add_right _ _), Nat.add_sub_cancel_left]
 exact h
theorem JobR.open2 {W w : World} {F : Snap} {cs : List Res} {r : Res} {b : Nat} {x : J} (h : St W F (r :: cs) w) (hJ : JobR F r b x) : ∃ bC bT m1 m2 A B cap cap2 ps zc zt fc ft l1 l2 tm, St W F ((jB x b bC bT m1 m2 A B cap cap2 ps zc zt :: cB x.cs bC zc fc :: tB ps bT zt ft :: [(m1, mobj l1)] :: [(m2, mobj l2)] :: tm) ++ cs) w ∧ JobO F x A B ps zc zt fc ft l1 l2 tm ∧ r = (jB x b bC bT m1 m2 A B cap cap2 ps zc zt :: cB x.cs bC zc fc :: tB ps bT zt ft :: [(m1, mobj l1)] :: [(m2, mobj l2)] :: tm).flatten := by
 obtain ⟨bC, bT, m1, m2, A, B, cap, cap2, ps, zc, zt, fc, ft, l1, l2, tm, rfl, h2⟩ := hJ
 exact ⟨bC, bT, m1, m2, A, B, cap, cap2, ps, zc, zt, fc, ft, l1, l2, tm, St.flat h (by simp), h2, rfl⟩
theorem out_len {x : J} (hok : x.ok) (key : List UInt8) (now : Int) : (x.out key now).length ≤ 1000 := by
 have hns := Tal.oks_len hok.ns.2
 have hls := (Dg.chk_ok hok.ss).2.1
 have hlt := hok.lt
 unfold J.out
 split
 ·unfold J.firstO
  rw [List.length_map]
  have := List.length_filter_le (fun n => decide (n ∉ x.rd)) x.ns
  omega
 split
 ·have h1 := fm_len (f := x.stepO key now) (c := 32) (List.range x.ts.length) (fun a _ => stepO_len hok key now a)
  rw [List.length_range] at h1
  show ((List.range x.ts.length).flatMap (x.stepO key now)).length ≤ 1000
  omega
 split
 ·rw [last_eq rfl]
  have h1 := lastK_len (x := x) (by omega) (x.ns.filter fun n => decide (n ∉ x.gn)) (x.ns.filter fun n => decide (n ∉ x.gn)).length
  have := List.length_filter_le (fun n => decide (n ∉ x.gn)) x.ns
  omega
 exact Nat.zero_le _
theorem outM_len {js : List J} (hok : ∀ x ∈ js, x.ok) (key : List UInt8) (now : Int) (i : Nat) : (outM (js.take i) key now).length ≤ i * 1000 := by
 unfold outM
 rw [List.length_map]
 refine Nat.le_trans (fm_len (c := 1000) _ fun x hx => out_len (hok x (List.mem_of_mem_take hx)) key now) (Nat.mul_le_mul_right _ ?_)
 rw [List.length_take]; exact Nat.min_le_left _ _
theorem outM_s {js : List J} {i : Nat} {x : J} {key : List UInt8} {now : Int} (h : js[i]? = some x) : outM (js.take (i + 1)) key now = outM (js.take i) key now ++ (x.out key now).map encB := by
 unfold outM
 rw [List.take_add_one, h]
 simp
theorem outbox_c (w : World) {r : Res} {b : Nat} {key : List UInt8} {js : List J} (h : St W F (r :: cs) w) (hC : CtlR F r b key js) (hok : ∀ x ∈ js, x.ok) (hjl : js.length ≤ 16) (now : Int) (hkl : key.length ≤ 900000) : Calls prog 14 #[pz b, Vi now] w fun e w' => ∃ G r' A cap, Le F G ∧ e = .returned (.slice A (outM js key now).length cap) ∧ RdS (Kd.one sB) G A (outM js key now) ∧ CtlR G r' b key js ∧ St W G (r' :: cs) w'  := by
 refine enterM (P := prog) (args := [pz b, Vi now]) func14 rfl rfl rfl ?_
 obtain ⟨A0, cap0, rP, qs, rj, h, hr, hK⟩ := CtlR.open_ h hC
 have hlq := hK.lq
 have hlr := hK.lr
 refine Wi<|C0 1 rfl<|Wh<|C0 1 rfl<|I0 (L2 underlying25 rfl rfl) rfl<|Wa<|E1 rfl (rfl)<|Wk<|O2 rfl h inf39 fun b5 w1 h1=>J0 (H0 (N0 (N0 ?_)))
 have hN0 := St.swap2 (h1.nilRes)
 refine L0<|H1 hN0 [2] 4 rfl<|I0 (R0 (n := (qs.length : Int)) (Y0 underlying73 rfl rfl) rfl) rfl<|C0 1 rfl<|Wj<|WC.loopD (σ := Nat × Snap × Res × Value × List Nat) (fun q_ => q_.2.2.2.2.map mk_) (fun q_ => [(0, pz b), (1, Vi now), (5, pz b5), (14, .slice A0 qs.length cap0), (15, .int .i64 (qs.length : Int)), (16, .int .i64 (q_.1 : Int))]) (fun q_ w => q_.1 ≤ qs.length ∧ Le F q_.2.1 ∧ Row 9 sB q_.2.2.1 q_.2.2.2.1 (outM (js.take q_.1) key now) ∧ St W q_.2.1 ([(b5, .cells #[q_.2.2.2.1] 39 (0, 0))] :: q_.2.2.1 :: kB b key A0 qs.length cap0 :: rP :: (rj ++ (ddR q_.2.2.2.2 ++ cs))) w) (fun q_ => qs.length - q_.1) (⟨0, F, [], .slice none 0 0, []⟩) rfl (by repeat (first | exact trivial | refine ⟨rfl, ?_⟩)) (⟨Nat.zero_le _, Le.refl _, Row.nil _ _, hN0⟩) ?_
 rintro ⟨i, G, ro, vo, dds⟩ w2 ⟨hi, hle, hro, hL⟩
 try dsimp only at hi hle hro hL
 refine W2 [(0, pz b), (1, Vi now), (5, pz b5), (14, .slice A0 qs.length cap0), (15, .int .i64 (qs.length : Int)), (16, .int .i64 (i : Int))]<|Wi<|C0 1 rfl<|Wb<|Z0 rfl (fun c3 => ?_) (fun c3 => ?_)
 ·try simp only [DD] at c3
  refine U0 (H0 (N0 (M1 (N0 ?_))))
  obtain ⟨ad0, hA0⟩ := Row.some hr (by omega)
  refine L0<|I0 (Z3 hA0 underlying73 inf76 rfl rfl (n := i) rfl (by omega)) rfl<|I0 (X1 (u := pz (qs.getD i 0)) (I2 (0 : Nat) hL 3 rfl (hA0 ▸ hr) (n := i) (by omega) underlying76 rfl rfl) rfl) rfl<|O2 rfl hL inf76 fun b7 w4 h4=>O3 h4 0 rfl rfl rfl inf76 rfl rfl ?_
  intro  w5 h5
  try simp only [ZZ] at h5
  refine J0 (H0 (N0 ?_))
  replace h5 : St W G ([(b7, .cells #[pz (qs.getD i 0)] 76 (0, 0))] :: [(b5, .cells #[vo] 39 (0, 0))] :: ro :: kB b key A0 qs.length cap0 :: rP :: (rj ++ (ddR dds ++ cs))) w5 := h5
  have hol0 := outM_len hok key now i
  obtain ⟨x, hxk⟩ : ∃ x, js[i]? = some x := ⟨_, gE (by omega)⟩
  obtain ⟨rk, hrk, hJ⟩ := (hK.mono hle).at_ i x hxk
  have hokx := hok x (mG hxk)
  have hS1 := take2 (St.perm h5 (by classical exact List.perm_iff_count.2 (fun a_ => by simp only [List.count_cons, List.count_append]; omega)) : St W G (kB b key A0 qs.length cap0 :: rP :: (rj ++ ([(b7, .cells #[pz (qs.getD i 0)] 76 (0, 0))] :: [(b5, .cells #[vo] 39 (0, 0))] :: ro :: (ddR dds ++ cs)))) w5) hrk
  obtain ⟨bC, bT, m1, m2, A, B, cap, cap2, ps, zc, zt, fc, ft, l1, l2, tm, hS2, hO, hrke⟩ := JobR.open2 hS1 hJ
  replace h5 : St W G ([(b7, .cells #[pz (qs.getD i 0)] 76 (0, 0))] :: kB b key A0 qs.length cap0 :: ((jB x (qs.getD i 0) bC bT m1 m2 A B cap cap2 ps zc zt :: cB x.cs bC zc fc :: tB ps bT zt ft :: [(m1, mobj l1)] :: [(m2, mobj l2)] :: tm) ++ ([(b5, .cells #[vo] 39 (0, 0))] :: ro :: rP :: (rj.set i [] ++ (ddR dds ++ cs))))) w5 := St.perm hS2 (by classical exact List.perm_iff_count.2 (fun a_ => by simp only [List.count_cons, List.count_append]; omega))
  refine V2 h5 h5 (fun s_ => ([] : List Nat).any (Nat.beq s_)) mixed (by kernel_rfl)<|fun hx =>fun w6 h6=>J4 hx 12 [0, 4] [1, 2, 3, 5, 0, 4] [0, 1] rfl<|F3 6 h6 (by rfl)<|V1 (cn func32) rfl rfl (messages_c _ (St.perm h6 (by classical exact List.perm_iff_count.2 (fun a_ => by simp only [List.count_cons, List.count_append]; omega)) : St W G ((jB x (qs.getD i 0) bC bT m1 m2 A B cap cap2 ps zc zt :: cB x.cs bC zc fc :: tB ps bT zt ft :: [(m1, mobj l1)] :: [(m2, mobj l2)] :: tm) ++ ([(b7, .cells #[pz (qs.getD i 0)] 76 (0, 0))] :: kB b key A0 qs.length cap0 :: ([(b5, .cells #[vo] 39 (0, 0))] :: ro :: rP :: (rj.set i [] ++ (ddR dds ++ cs))))) _) hO hokx hkl) ?_
  rintro _ w7 ⟨GM, gf, fa, lb, hGM, rfl, hcan, hseq, h7⟩
  refine ⟨_, rfl, ?_⟩
  replace h7 : St W GM ([(b7, .cells #[pz (qs.getD i 0)] 76 (0, 0))] :: kB b key A0 qs.length cap0 :: ((jB x (qs.getD i 0) bC bT m1 m2 A B cap cap2 ps zc zt :: cB x.cs bC zc fc :: tB ps bT zt ft :: [(m1, mobj l1)] :: [(m2, mobj l2)] :: tm) ++ ([(b5, .cells #[vo] 39 (0, 0))] :: ro :: rP :: (rj.set i [] ++ (ddR dds ++ cs))))) w7 := St.perm h7 (by classical exact List.perm_iff_count.2 (fun a_ => by simp only [List.count_cons, List.count_append]; omega))
  refine J0<|H2<|H3 (.inr (h7.weak hGM)) (by kernel_rfl)<|H0<|M1<|WC.rangeA (gf := gf) (fa := fa) (lb := lb) (σ := Snap × Res × Value) (fun s => Le GM s.1 ∧ Row 9 sB s.2.1 s.2.2 ((outM (js.take i) key now) ++ (x.out key now).map encB)) (fun s => s.1) (fun s => (jB x (qs.getD i 0) bC bT m1 m2 A B cap cap2 ps zc zt :: cB x.cs bC zc fc :: tB ps bT zt ft :: [(m1, mobj l1)] :: [(m2, mobj l2)] :: tm) ++ ([(b7, .cells #[pz (qs.getD i 0)] 76 (0, 0))] :: [(b5, .cells #[s.2.2] 39 (0, 0))] :: s.2.1 :: kB b key A0 qs.length cap0 :: rP :: (rj.set i [] ++ (ddR dds ++ cs)))) h7 rfl (fun args w => run_callFunc hcan args) ?_ ?_
  ·intro fn tm y Dd w1 LR hLR hag hsz hS1
   refine (hseq W GM ([(y, .loop LR)] :: [(Dd, .deferred (some []))] :: ([(b7, .cells #[pz (qs.getD i 0)] 76 (0, 0))] :: [(b5, .cells #[vo] 39 (0, 0))] :: ro :: kB b key A0 qs.length cap0 :: rP :: (rj.set i [] ++ (ddR dds ++ cs)))) w1 y (fun out G csx => Le GM G ∧ ∃ r v, Row 9 sB r v ((outM (js.take i) key now) ++ out.map encB) ∧ csx = ([(y, .loop LR)] :: [(Dd, .deferred (some []))] :: ([(b7, .cells #[pz (qs.getD i 0)] 76 (0, 0))] :: [(b5, .cells #[v] 39 (0, 0))] :: r :: kB b key A0 qs.length cap0 :: rP :: (rj.set i [] ++ (ddR dds ++ cs))))) (fun out G G' c h1 hle2 => ⟨Le.trans h1.1 hle2, h1.2⟩) ?_ (Le.refl _) ⟨Le.refl _, ro, vo, (by simpa using hro), rfl⟩ (St.perm hS1 (by classical exact List.perm_iff_count.2 (fun a_ => by simp only [List.count_cons, List.count_append]; omega)))).mono ?_
   rotate_left
   ·rintro e w2 ⟨hv, G9, csx, hle9, ⟨hle8, r, v, hr9, rfl⟩, hS2⟩
    exact ⟨hv, ⟨G9, r, v⟩, ⟨hle8, hr9⟩, St.perm hS2 (by classical exact List.perm_iff_count.2 (fun a_ => by simp only [List.count_cons, List.count_append]; omega))⟩
   rintro out G8 csx' front w2 kk n ii tx ⟨hle8, r8, v8, hr8, rfl⟩ hol hleF ⟨q, hq⟩ htx hS2
   have hS3 : St W G8 ([(y, .loop LR)] :: [(Dd, .deferred (some []))] :: [(b7, .cells #[pz (qs.getD i 0)] 76 (0, 0))] :: [(b5, .cells #[v8] 39 (0, 0))] :: r8 :: ((kB b key A0 qs.length cap0 :: rP :: (rj.set i [] ++ (ddR dds ++ cs))) ++ front)) w2 := St.perm hS2 (by classical exact List.perm_iff_count.2 (fun a_ => by simp only [List.count_cons, List.count_append]; omega))
   obtain ⟨j9, hj9⟩ : ∃ j9, ((kB b key A0 qs.length cap0 :: rP :: (rj.set i [] ++ (ddR dds ++ cs))) ++ front)[j9]? = some (jB x (qs.getD i 0) bC bT m1 m2 A B cap cap2 ps zc zt) := ⟨_, nth_app hq⟩
   obtain ⟨A8, c8, rfl, hc8⟩ := hr8.val
   subst hLR
   refine yield_c1 hS3 (i := 0) rfl rfl hsz hag rfl<|RC.reg begP_out (by kernel_rfl)<|O2 rfl hS3 inf42 fun b8 w8 h8=>F4 h8 0 rfl rfl rfl inf42 rfl rfl rfl ?_
   intro  w9 h9
   try simp only [ZZ] at h9
   refine J0<|RN.wn<|RN.beg h9 (i := 1) rfl rfl ?_
   intro wb hb_
   simp only [lz, ls] at hb_
   refine RC.block<|RC.seq<|RC.eregK rndP_out (by kernel_rfl) hb_ (hb_.drop 0) (fun s_ => ([13] : List Nat).any (Nat.beq s_)) mixed (by kernel_rfl)<|fun hx =>fun w10 h10=>J4 hx 12 [0] [8, 0, 1, 2] [2] rfl<|V3 12 hx 3 (by rfl) (fun w_ hE_ => K0 underlying3 rfl rfl (hE_.ocell (i := (j9 + 5)) hj9 rfl)) rfl<|J4 hx 12 [4] [4, 5, 6] [2] rfl<|V3 12 hx 7 (by rfl) (fun w_ hE_ => K0 underlying3 rfl rfl (hE_.ocell (i := (j9 + 5)) hj9 rfl)) rfl<|F3 9 (h10.drop 0) (by rfl)<|O3 h10 0 rfl rfl rfl inf3 rfl rfl ?_
   intro  w11 h11
   try simp only [ZZ] at h11
   refine J0<|H2<|L3 hx [10] rfl<|F3 11 (h11.drop 0) (by rfl)<|O3 h11 0 rfl rfl rfl inf3 rfl rfl ?_
   intro  w12 h12
   try simp only [ZZ] at h12
   refine J0<|H2<|L3 hx [12] rfl<|F3 13 (h12.drop 0) (by rfl)<|O3 h12 0 rfl rfl rfl inf3 rfl rfl ?_
   intro  w13 h13
   try simp only [ZZ] at h13
   refine J0<|H2<|H3 (.inl ⟨13, rfl, by kernel_rfl⟩) (by kernel_rfl)<|RN.wn<|RN.thn<|RC.eregK rndP_out (by kernel_rfl) h13 (h13.drop 5) (fun s_ => ([5] : List Nat).any (Nat.beq s_)) mixed (by kernel_rfl)<|fun hx =>fun w14 h14=>J4 hx 12 [0] [0] [4] rfl<|V3 12 hx 1 (by rfl) (fun w_ hE_ => U2 hE_ 0 rfl underlying42 rfl inf42 rfl rfl) rfl<|F3 2 (h14.drop 5) (by rfl)<|C1 (cn func33) rfl rfl (Wir.enc_c _ (x.msg kk n ii tx) h14 htx) fun w15 h15 =>J0<|H2<|F3 3 (h15.drop 5) (by rfl)<|X2 (vs := (([encB (x.msg kk n ii tx)] : List (List UInt8))).map sB) h15 rfl underlying39 inf9 rfl rfl rfl rfl rfl fun lit42 w16 h16=>J0<|H2<|F3 4 ((h16.drop 6).drop 0) (by rfl)<|I3 (ys := ([encB (x.msg kk n ii tx)] : List (List UInt8))) 6 h16 rfl rfl rfl rfl underlying39 underlying39 (.inr ⟨_, rfl⟩) inf9 rfl hr8 (Src.lit h16 0 rfl rfl rfl) rfl rfl (by first | omega | (simp [lA, List.length_map]; done) | (simp [lA, List.length_map]; omega)) (by first | omega | (simp [lA, List.length_map]; done) | (simp [lA, List.length_map]; omega)) ?_
   intro r17 v17 w18 hr17 h18
   simp only [lz, ls] at h18
   replace h18 := h18.drop 0
   simp only [ez, es'] at h18
   obtain ⟨Aq17, cq17, rfl, hcq17⟩ := hr17.val
   refine J0<|H2<|F3 5 (h18.drop 5) (by rfl)<|O3 h18 4 rfl rfl rfl inf39 rfl rfl ?_
   intro  w19 h19
   try simp only [ZZ] at h19
   refine J0<|H2<|H3 (.inl ⟨5, rfl, by kernel_rfl⟩) (by kernel_rfl)<|RN.wn<|RN.blk ?_
   replace h19 := h19.drop 0
   refine RN.fin h19 (i := 0) rfl fun wf hf_=>⟨rfl, G8, _, Le.refl _, ⟨hle8, r17, _, (by rw [List.map_append, ← List.append_assoc]; exact hr17), rfl⟩, St.perm (show St W G8 ([(y, .loop (lrec fn tm _ _ _ Dd .ready))] :: [(Dd, .deferred (some []))] :: [(b7, .cells #[pz (qs.getD i 0)] 76 (0, 0))] :: [(b5, .cells #[_] 39 (0, 0))] :: r17 :: ((kB b key A0 qs.length cap0 :: rP :: (rj.set i [] ++ (ddR dds ++ cs))) ++ front)) wf from hf_) (by classical exact List.perm_iff_count.2 (fun a_ => by simp only [List.count_cons, List.count_append]; omega))⟩
  rintro ⟨G9, r9, v9⟩ Dd w3 ⟨hle9, hr9⟩ hS3
  have hS4 : St W G9 ([(b7, .cells #[pz (qs.getD i 0)] 76 (0, 0))] :: ((jB x (qs.getD i 0) bC bT m1 m2 A B cap cap2 ps zc zt :: cB x.cs bC zc fc :: tB ps bT zt ft :: [(m1, mobj l1)] :: [(m2, mobj l2)] :: tm) ++ (kB b key A0 qs.length cap0 :: rP :: (rj.set i [] ++ ([(b5, .cells #[v9] 39 (0, 0))] :: r9 :: [(Dd, .deferred (some []))] :: (ddR dds ++ cs)))))) w3 := St.perm hS3 (by classical exact List.perm_iff_count.2 (fun a_ => by simp only [List.count_cons, List.count_append]; omega))
  have hS5 : St W G9 (rk :: kB b key A0 qs.length cap0 :: rP :: (rj.set i [] ++ ([(b5, .cells #[v9] 39 (0, 0))] :: r9 :: [(Dd, .deferred (some []))] :: (ddR dds ++ cs)))) w3 := St.flat (hS4.drop 0) (by rw [hrke]; simp)
  have hS6 := give2 hS5 (by omega)
  rw [set_same (d := []) (by omega) (by rw [gD, hrk]; rfl)] at hS6
  have hS7 : St W G9 ([(b5, .cells #[v9] 39 (0, 0))] :: r9 :: kB b key A0 qs.length cap0 :: rP :: (rj ++ ([(Dd, .deferred (some []))] :: (ddR dds ++ cs)))) w3 := St.perm hS6 (by classical exact List.perm_iff_count.2 (fun a_ => by simp only [List.count_cons, List.count_append]; omega))
  refine N1<|N1<|H0<|L0<|I0 (V0 rfl rfl (by omega)) rfl<|C0 1 rfl<|J0<|WN.againD (⟨i + 1, G9, r9, v9, Dd :: dds⟩ : Nat × Snap × Res × Value × List Nat) rfl (by show qs.length - (i + 1) < qs.length - i; omega) ⟨rfl, rfl, rfl, rfl, rfl, rfl, trivial⟩ ⟨by show i + 1 ≤ _; omega, Le.trans hle (Le.trans hGM hle9), (by show Row 9 sB r9 v9 (outM (js.take (i + 1)) key now); rw [outM_s hxk]; exact hr9), hS7⟩
 try simp only [DD] at c3
 refine U1 (B2 (WX.cut (E2 (H0 (N0 ?_)))))
 obtain rfl : i = qs.length := by omega
 obtain ⟨A9, c9, rfl, hc9⟩ := hro.val
 refine L0<|H1 hL [0] 2 rfl<|J0 (H0 (O1 ?_))
 have hjt : js.take qs.length = js := List.take_of_length_le (by omega)
 rw [hjt] at hro hL
 rw [hjt]
 refine retMs1 (ds := dds) (St.perm hL (by classical exact List.perm_iff_count.2 (fun a_ => by simp only [List.count_cons, List.count_append]; omega)) : St W G (ddR dds ++ ([(b5, .cells #[.slice A9 (outM js key now).length c9] 39 (0, 0))] :: ro :: kB b key A0 qs.length cap0 :: rP :: (rj ++ cs))) _) rfl rfl (fun w9 hS9 => ?_)
 obtain ⟨G2, hG2, hf2, hS8⟩ := (hS9.drop 0).freeze (i := 0) rfl
 obtain ⟨r7, hC7, hS7⟩ := CtlR.close hS8 hr (hK.mono (Le.trans hle hG2))
 exact ⟨G2, r7, A9, c9, Le.trans hle hG2, rfl, Row.read hro rfl hf2, hC7, hS7⟩
structure okJ (js : List J) : Prop where
 ok : ∀ x ∈ js, x.ok
 len : js.length ≤ 16
theorem mem_set {js : List J} {k : Nat} {x y : J} (h : ∀ z ∈ js, z.ok) (hy : y.ok) : ∀ z ∈ js.set k y, z.ok := fun z hz => by
 rcases List.mem_or_eq_of_mem_set hz with hz | rfl
 ·exact h z hz
 exact hy
theorem okJ.del {js : List J} (h : okJ js) (l : List UInt8) : okJ (delM js l).2 := by
 unfold delM
 split
 ·exact h
 split
 ·exact h
 rename_i k _
 split
 ·exact h
 rename_i x hx
 split
 ·rename_i hm
  exact ⟨mem_set (x := x) h.ok ((h.ok x (mG hx)).hear hm), by rw [List.length_set]; exact h.len⟩
 exact h
theorem okJ.can {js : List J} (h : okJ js) (id : Int) : okJ (canM js id).2 := by
 unfold canM
 split
 ·exact h
 rename_i k _
 split
 ·exact h
 rename_i x hx
 split
 ·exact h
 exact ⟨mem_set (x := x) h.ok (h.ok x (mG hx)).cancel, by rw [List.length_set]; exact h.len⟩
theorem okJ.sub {js : List J} (h : okJ js) (ns : List Int) (ss : List S) : okJ (subM js ns ss).2 := by
 unfold subM
 split
 ·rename_i he
  have hl : ¬ js.length = 16 := fun hl => by
   unfold subE at he
   split at he
   ·cases he
   split at he
   ·exact absurd he ‹_›
   split at he
   ·cases he
   ·first
   |cases he
   |(rw [if_pos hl] at he; cases he)
  have h2 := h.len
  refine ⟨fun z hz => ?_, by simp; omega⟩
  rcases List.mem_append.1 hz with hz | hz
  ·exact h.ok z hz
  rw [List.mem_singleton.1 hz]
  exact newJ_ok he (by omega)
 exact h
theorem okJ.nil : okJ [] := ⟨fun x hx => (by cases hx), by decide⟩
def sayB (k n a : Int) : List UInt8 := encB ⟨k, n, -1, 1, 0, 0, a, []⟩
def s0 : S := ⟨1, 1, 0, 5, []⟩
def jA (ph ft cd : Int) (cs : List Int) (ts : List (Option T)) (rd gn : List Int) : J := ⟨[0, 3], [s0], 1, 0, ph, ft, cd, cs, ts, rd, gn, false⟩
def tlA : T := ⟨[0, 3], [none, none], [none, none]⟩
def tlB : T := ⟨[0, 3], [some true, none], [none, none]⟩
def tlC : T := ⟨[0, 3], [some true, some true], [none, none]⟩
def tlD : T := ⟨[0, 3], [some true, some true], [none, some 0]⟩
def tlE : T := ⟨[0, 3], [some true, some true], [some 7, some 0]⟩
def jA0 : J := jA 0 0 0 [-1] [none] [] []
def jA1 : J := jA 0 0 0 [-1] [none] [0] []
def jA2 : J := jA 1 0 0 [-1] [some tlA] [0, 3] []
def jA3 : J := jA 1 0 0 [-1] [some tlB] [0, 3] []
def jA4 : J := jA 1 0 0 [-1] [some tlC] [0, 3] []
def jA5 : J := jA 1 0 0 [-1] [some tlD] [0, 3] []
def jA6 : J := jA 2 1 7 [7] [some tlE] [0, 3] []
def jA7 : J := jA 2 1 7 [7] [some tlE] [0, 3] [0]
def jA8 : J := jA 3 1 7 [7] [some tlE] [0, 3] [0, 3]
theorem lv_sub : subM [] [0, 3] [s0] = ((1, 0), [jA0]) := by kernel_rfl
theorem lv_sub2 : subM [jA0] [] [s0] = ((0, 1), [jA0]) := by kernel_rfl
theorem lv_0 : delM [jA0] (sayB 1 0 0) = (true, [jA1]) := by
 unfold sayB
 rw [del_y (k := 0) (x := jA0) (Wir.decB_enc (by decide)) rfl rfl rfl (by decide)]
 kernel_rfl
theorem lv_1 : delM [jA1] (sayB 1 3 0) = (true, [jA2]) := by
 unfold sayB
 rw [del_y (k := 0) (x := jA1) (Wir.decB_enc (by decide)) rfl rfl rfl (by decide)]
 kernel_rfl
theorem lv_2 : delM [jA2] (sayB 3 0 1) = (true, [jA3]) := by
 unfold sayB
 rw [del_y (k := 0) (x := jA2) (Wir.decB_enc (by decide)) rfl rfl rfl (by decide)]
 kernel_rfl
theorem lv_3 : delM [jA3] (sayB 3 3 1) = (true, [jA4]) := by
 unfold sayB
 rw [del_y (k := 0) (x := jA3) (Wir.decB_enc (by decide)) rfl rfl rfl (by decide)]
 kernel_rfl
theorem lv_4 : delM [jA4] (sayB 6 3 0) = (true, [jA5]) := by
 unfold sayB
 rw [del_y (k := 0) (x := jA4) (Wir.decB_enc (by decide)) rfl rfl rfl (by decide)]
 kernel_rfl
theorem lv_5 : delM [jA5] (sayB 6 0 7) = (true, [jA6]) := by
 unfold sayB
 rw [del_y (k := 0) (x := jA5) (Wir.decB_enc (by decide)) rfl rfl rfl (by decide)]
 kernel_rfl
theorem lv_6 : delM [jA6] (sayB 9 0 0) = (true, [jA7]) := by
 unfold sayB
 rw [del_y (k := 0) (x := jA6) (Wir.decB_enc (by decide)) rfl rfl rfl (by decide)]
 kernel_rfl
theorem lv_7 : delM [jA7] (sayB 9 3 0) = (true, [jA8]) := by
 unfold sayB
 rw [del_y (k := 0) (x := jA7) (Wir.decB_enc (by decide)) rfl rfl rfl (by decide)]
 kernel_rfl
theorem lv_8 : delM [jA8] (sayB 9 0 0) = (false, [jA8]) := by
 unfold sayB
 rw [del_y (k := 0) (x := jA8) (Wir.decB_enc (by decide)) rfl rfl rfl (by decide)]
 kernel_rfl
theorem lv_o0 : (outM [jA0] [107] 0).length = 2 := by
 unfold outM
 rw [List.length_map]
 kernel_rfl
theorem lv_o1 : (outM [jA1] [107] 0).length = 1 := by
 unfold outM
 rw [List.length_map]
 kernel_rfl
theorem lv_o2 : (outM [jA2] [107] 4).length = 2 := by
 unfold outM
 rw [List.length_map]
 kernel_rfl
theorem lv_o5 : outM [jA5] [107] 4 = [encB ⟨4, -1, 0, 1, 0, 0, 0, []⟩] := by
 show List.map encB _ = List.map encB [⟨4, -1, 0, 1, 0, 0, 0, []⟩]
 congr 1
theorem lv_o8 : outM [jA8] [107] 9 = [] := by
 show List.map encB _ = List.map encB []
 congr 1
theorem lv_c1 : canM [jA8] 1 = (14, [jA8]) := by kernel_rfl
theorem lv_c2 : canM [jA8] 2 = (1, [jA8]) := by kernel_rfl
theorem lv_d : decB (encB ⟨4, -1, 0, 1, 0, 0, 0, []⟩) = (⟨4, -1, 0, 1, 0, 0, 0, []⟩, 0) := Wir.decB_enc (by decide)
theorem okA0 : okJ [jA0] := by
 have := okJ.nil.sub [0, 3] [s0]
 rw [lv_sub] at this
 exact this
theorem okA1 : okJ [jA1] := by
 have := okA0.del (sayB 1 0 0)
 rw [lv_0] at this
 exact this
theorem okA2 : okJ [jA2] := by
 have := okA1.del (sayB 1 3 0)
 rw [lv_1] at this
 exact this
theorem okA3 : okJ [jA3] := by
 have := okA2.del (sayB 3 0 1)
 rw [lv_2] at this
 exact this
theorem okA4 : okJ [jA4] := by
 have := okA3.del (sayB 3 3 1)
 rw [lv_3] at this
 exact this
theorem okA5 : okJ [jA5] := by
 have := okA4.del (sayB 6 3 0)
 rw [lv_4] at this
 exact this
theorem okA6 : okJ [jA6] := by
 have := okA5.del (sayB 6 0 7)
 rw [lv_5] at this
 exact this
theorem okA7 : okJ [jA7] := by
 have := okA6.del (sayB 9 0 0)
 rw [lv_6] at this
 exact this
theorem okA8 : okJ [jA8] := by
 have := okA7.del (sayB 9 3 0)
 rw [lv_7] at this
 exact this
theorem encB_len (m : M) : (encB m).length ≤ 100000 := by
 unfold Wir.encB
 split
 ·have h1 := Wir.flat_len (Wir.numsM m)
  have h2 : (Wir.numsM m).length = 7 := rfl
  have h3 := Wir.numB_len (m.tx.length : Int)
  rw [lA]
  unfold Wir.textB
  split
  ·simp only [List.length_nil]; omega
  rw [lA]; omega
 exact Nat.zero_le _
theorem submit_e (w : World) {r : Res} {b : Nat} {key : List UInt8} {js js' : List J} {ns : List Int} {ss : List S} {A B : Option Addr} {cap cap2 : Nat} {a er : Int} (heq : subM js ns ss = ((a, er), js')) (h : St W F (r :: cs) w) (hC : CtlR F r b key js) (hok : okJ js) (hA : RdS (Kd.one Vi) F A ns) (hB : RdS KS F B ss) (hnl : ns.length ≤ 100000) (hsl : ss.length ≤ 100000) (hf : Dg.fewE ss) : Calls prog 24 #[pz b, .agg #[.slice A ns.length cap, .slice B ss.length cap2]] w fun e w' => e = .returned (.tuple #[Vi a, Vi er]) ∧ ∃ G r', Le F G ∧ CtlR G r' b key js' ∧ St W G (r' :: cs) w' := by
 have := submit_c w h hC hok.ok hok.len hA hB hnl hsl hf (cap := cap) (cap2 := cap2)
 rw [heq] at this
 exact this
theorem cancel_e (w : World) {r : Res} {b : Nat} {key : List UInt8} {js js' : List J} {id er : Int} (heq : canM js id = (er, js')) (h : St W F (r :: cs) w) (hC : CtlR F r b key js) (hok : okJ js) : Calls prog 27 #[pz b, Vi id] w fun e w' => e = .returned (Vi er) ∧ ∃ G r', Le F G ∧ CtlR G r' b key js' ∧ St W G (r' :: cs) w' := by
 have := cancel_c w h hC hok.ok hok.len id
 rw [heq] at this
 exact this
theorem deliver_e (w : World) {r : Res} {b : Nat} {key : List UInt8} {js js' : List J} {l : List UInt8} {t : Bool} (heq : delM js l = (t, js')) (hl : l.length ≤ 9223372036854775807) (h : St W F (r :: cs) w) (hC : CtlR F r b key js) (hok : okJ js) : Calls prog 18 #[pz b, .string (bs l)] w fun e w' => e = .returned (.bool t) ∧ ∃ G r', Le F G ∧ CtlR G r' b key js' ∧ St W G (r' :: cs) w' := by
 have := deliver_c w h hC hok.ok hok.len l hl
 rw [heq] at this
 exact this
theorem outbox_e (w : World) {r : Res} {b : Nat} {key : List UInt8} {js : List J} {now : Int} {l : List (List UInt8)} (heq : outM js key now = l) (hkl : key.length ≤ 900000) (h : St W F (r :: cs) w) (hC : CtlR F r b key js) (hok : okJ js) : Calls prog 14 #[pz b, Vi now] w fun e w' => ∃ G r' A cap, Le F G ∧ e = .returned (.slice A l.length cap) ∧ RdS (Kd.one sB) G A l ∧ CtlR G r' b key js ∧ St W G (r' :: cs) w' := by
 have := outbox_c w h hC hok.ok hok.len now hkl
 rw [heq] at this
 exact this
theorem at_1 (x : J) : at_ [x] 1 = some 0 := by
 unfold at_
 rw [if_neg (by show ¬ ((1 : Int) < 1 ∨ (1 : Int) < 1); decide)]; rfl
theorem get_1 (x : J) : [x][0]? = some x := rfl
theorem few_s0 : Dg.fewE [s0] := fun i hi => by
 have : i = 0 := by simp at hi; exact hi
 subst this
 decide
theorem say_e (w : World) {r : Res} {b : Nat} {key : List UInt8} {js js' : List J} {k n a : Int} {t : Bool} (heq : delM js (sayB k n a) = (t, js')) (h : St W F (r :: cs) w) (hC : CtlR F r b key js) (hok : okJ js) : Calls prog 28 #[pz b, Vi k, Vi n, Vi a] w fun e w' => e = .returned (.bool t) ∧ ∃ G r', Le F G ∧ CtlR G r' b key js' ∧ St W G (r' :: cs) w'  := by
 refine enter (args := [pz b, Vi k, Vi n, Vi a]) func28 rfl rfl rfl<|Wi<|C0 1 rfl<|We<|C0 4 rfl<|I0 (R2 (vs := [(0, Vi k), (1, Vi n), (2, Vi (-1)), (3, Vi 1), (6, Vi a)]) (cells := #[Vi k, Vi n, Vi (-1), Vi 1, Vi 0, Vi 0, Vi a, .string (bs [])]) rfl (by kernel_rfl)) rfl<|C1 (cn func61) rfl rfl (Wir.renc_c _ (⟨k, n, -1, 1, 0, 0, a, []⟩ : M) h (Nat.zero_le _)) fun w1 h1 =>C1 (cn func18) rfl rfl (deliver_e _ (l := sayB k n a) heq (Nat.le_trans (encB_len _) (by decide)) h1 hC hok) fun w2 ⟨G9, r9, hG9, hC9, h2⟩ =>C0 1 rfl<|Wg<|ret1 rfl rfl ⟨rfl, G9, r9, hG9, hC9, h2⟩
theorem live_c (w : World) (h : St W F cs w) : Calls prog 11 #[] w fun e w' => e = .returned (.bool true) ∧ ∃ G, Le F G ∧ St W G cs w'  := by
 refine enter (args := []) func11 rfl rfl rfl ?_
 have hleF : Le F F := Le.refl F
 refine Wi<|C0 1 rfl<|We<|V1 (cn func12) rfl rfl (new_c _ [107] h) ?_
 rintro _ w1 ⟨bk, rk, rfl, hC0, h1⟩
 refine ⟨_, rfl, ?_⟩
 have hle : Le F F := Le.refl F
 refine C0 1 rfl<|Wh<|C0 1 rfl<|I0 (L2 underlying25 rfl rfl) rfl<|Wa<|E1 rfl (rfl)<|Wk<|C0 1 rfl<|X2 (vs := ([0, 3] : List Int).map Vi) h1 rfl underlying33 inf3 rfl rfl rfl rfl rfl ?_
 intro lit26 w2 h2
 try simp only [ZZ] at h2
 obtain ⟨Gl26, gl26, rd26, h2⟩ := St.litRd (xs := ([0, 3] : List Int)) (f := Vi) h2
 have hCl26 := hC0.mono gl26
 replace hleF := Le.trans hleF gl26
 refine I0 (R2 (vs := [(0, Vi 1), (1, Vi 1), (3, Vi 5)]) (cells := #[Vi 1, Vi 1, Vi 0, Vi 5, .slice none 0 0]) rfl (by kernel_rfl)) rfl<|V4 (vs := [.agg #[Vi 1, Vi 1, Vi 0, Vi 5, .slice none 0 0]]) h2 rfl underlying34 (inf68.elem rfl rfl) rfl rfl rfl (by decide) ?_
 intro lit28 w3 h3
 try simp only [ZZ] at h3
 obtain ⟨Gl28, gl28, gf28, h3⟩ := h3.freeze (i := 0) rfl
 have rd28 : RdS KS Gl28 (some ⟨lit28, 0, none⟩) [s0] := RdS.blks [S.cs s0 none 0] (gf28 _ List.mem_cons_self) rfl ⟨⟨none, 0, rfl, .inl rfl⟩, trivial⟩
 have hCl28 := hCl26.mono gl28
 replace hleF := Le.trans hleF gl28
 replace rd26 := rd26.mono gl28
 refine I0 (R2 (vs := [(0, .slice (some ⟨lit26, 0, none⟩) 2 2), (1, .slice (some ⟨lit28, 0, none⟩) 1 1)]) (cells := #[.slice (some ⟨lit26, 0, none⟩) 2 2, .slice (some ⟨lit28, 0, none⟩) 1 1]) rfl (by kernel_rfl)) rfl<|V1 (cn func24) rfl rfl (submit_e _ (ns := [0, 3]) (ss := [s0]) lv_sub h3 hCl28 okJ.nil rd26 rd28 (by decide) (by decide) few_s0) ?_
 rintro _ w4 ⟨rfl, G4, r4, hG4, hC4, h4⟩
 refine ⟨_, rfl, ?_⟩
 replace hleF := Le.trans hleF hG4
 replace rd26 := rd26.mono hG4
 replace rd28 := rd28.mono hG4
 refine C0 5 rfl<|We<|C0 1 rfl<|I0 (R2 (vs := [(0, Vi 1), (1, Vi 1), (3, Vi 5)]) (cells := #[Vi 1, Vi 1, Vi 0, Vi 5, .slice none 0 0]) rfl (by kernel_rfl)) rfl<|V4 (vs := [.agg #[Vi 1, Vi 1, Vi 0, Vi 5, .slice none 0 0]]) h4 rfl underlying34 (inf68.elem rfl rfl) rfl rfl rfl (by decide) ?_
 intro lit36 w5 h5
 try simp only [ZZ] at h5
 obtain ⟨Gl36, gl36, gf36, h5⟩ := h5.freeze (i := 0) rfl
 have rd36 : RdS KS Gl36 (some ⟨lit36, 0, none⟩) [s0] := RdS.blks [S.cs s0 none 0] (gf36 _ List.mem_cons_self) rfl ⟨⟨none, 0, rfl, .inl rfl⟩, trivial⟩
 have hCl36 := hC4.mono gl36
 replace hleF := Le.trans hleF gl36
 replace rd26 := rd26.mono gl36
 replace rd28 := rd28.mono gl36
 refine I0 (R2 (vs := [(1, .slice (some ⟨lit36, 0, none⟩) 1 1)]) (cells := #[.slice none 0 0, .slice (some ⟨lit36, 0, none⟩) 1 1]) rfl (by kernel_rfl)) rfl<|V1 (cn func24) rfl rfl (submit_e _ (ns := []) (ss := [s0]) lv_sub2 h5 hCl36 okA0 (.inl rfl) rd36 (by decide) (by decide) few_s0) ?_
 rintro _ w6 ⟨rfl, G6, r6, hG6, hC6, h6⟩
 refine ⟨_, rfl, ?_⟩
 replace hleF := Le.trans hleF hG6
 replace rd26 := rd26.mono hG6
 replace rd28 := rd28.mono hG6
 replace rd36 := rd36.mono hG6
 refine C0 5 rfl<|We<|C0 1 rfl<|V1 (cn func14) rfl rfl (outbox_e _ (now := 0) rfl (by decide) h6 hC6 okA0) ?_
 rintro _ w7 ⟨G7, r7, A7, c7, hG7, rfl, hrd7, hC7, h7⟩
 refine ⟨_, rfl, ?_⟩
 replace hleF := Le.trans hleF hG7
 replace rd26 := rd26.mono hG7
 replace rd28 := rd28.mono hG7
 replace rd36 := rd36.mono hG7
 refine I0 (R0 (n := 2) (Y0 underlying39 rfl rfl) (by rw [lv_o0]; rfl)) rfl<|C0 1 rfl<|We<|C0 1 rfl<|V1 (cn func28) rfl rfl (say_e _ (k := 1) (n := 0) (a := 0) lv_0 h7 hC7 okA0) ?_
 rintro _ w8 ⟨rfl, G8, r8, hG8, hC8, h8⟩
 refine ⟨_, rfl, ?_⟩
 replace hleF := Le.trans hleF hG8
 replace rd26 := rd26.mono hG8
 replace rd28 := rd28.mono hG8
 replace rd36 := rd36.mono hG8
 refine C0 1 rfl<|We<|C0 1 rfl<|V1 (cn func14) rfl rfl (outbox_e _ (now := 0) rfl (by decide) h8 hC8 okA1) ?_
 rintro _ w9 ⟨G9, r9, A9, c9, hG9, rfl, hrd9, hC9, h9⟩
 refine ⟨_, rfl, ?_⟩
 replace hleF := Le.trans hleF hG9
 replace rd26 := rd26.mono hG9
 replace rd28 := rd28.mono hG9
 replace rd36 := rd36.mono hG9
 refine I0 (R0 (n := 1) (Y0 underlying39 rfl rfl) (by rw [lv_o1]; rfl)) rfl<|C0 1 rfl<|We<|C0 1 rfl<|V1 (cn func28) rfl rfl (say_e _ (k := 1) (n := 3) (a := 0) lv_1 h9 hC9 okA1) ?_
 rintro _ w10 ⟨rfl, G10, r10, hG10, hC10, h10⟩
 refine ⟨_, rfl, ?_⟩
 replace hleF := Le.trans hleF hG10
 replace rd26 := rd26.mono hG10
 replace rd28 := rd28.mono hG10
 replace rd36 := rd36.mono hG10
 refine C0 1 rfl<|We<|C0 1 rfl<|V1 (cn func14) rfl rfl (outbox_e _ (now := 4) rfl (by decide) h10 hC10 okA2) ?_
 rintro _ w11 ⟨G11, r11, A11, c11, hG11, rfl, hrd11, hC11, h11⟩
 refine ⟨_, rfl, ?_⟩
 replace hleF := Le.trans hleF hG11
 replace rd26 := rd26.mono hG11
 replace rd28 := rd28.mono hG11
 replace rd36 := rd36.mono hG11
 refine C0 1 rfl<|We<|C0 1 rfl<|V1 (cn func28) rfl rfl (say_e _ (k := 3) (n := 0) (a := 1) lv_2 h11 hC11 okA2) ?_
 rintro _ w12 ⟨rfl, G12, r12, hG12, hC12, h12⟩
 refine ⟨_, rfl, ?_⟩
 replace hleF := Le.trans hleF hG12
 replace rd26 := rd26.mono hG12
 replace rd28 := rd28.mono hG12
 replace rd36 := rd36.mono hG12
 refine C0 2 rfl<|Q0 rfl<|V1 (cn func28) rfl rfl (say_e _ (k := 3) (n := 3) (a := 1) lv_3 h12 hC12 okA3) ?_
 rintro _ w13 ⟨rfl, G13, r13, hG13, hC13, h13⟩
 refine ⟨_, rfl, ?_⟩
 replace hleF := Le.trans hleF hG13
 replace rd26 := rd26.mono hG13
 replace rd28 := rd28.mono hG13
 replace rd36 := rd36.mono hG13
 refine C0 3 rfl<|Q0 rfl<|V1 (cn func28) rfl rfl (say_e _ (k := 6) (n := 3) (a := 0) lv_4 h13 hC13 okA4) ?_
 rintro _ w14 ⟨rfl, G14, r14, hG14, hC14, h14⟩
 refine ⟨_, rfl, ?_⟩
 replace hleF := Le.trans hleF hG14
 replace rd26 := rd26.mono hG14
 replace rd28 := rd28.mono hG14
 replace rd36 := rd36.mono hG14
 refine C0 2 rfl<|We<|C0 1 rfl<|V1 (cn func14) rfl rfl (outbox_e _ (now := 4) lv_o5 (by decide) h14 hC14 okA5) ?_
 rintro _ w15 ⟨G15, r15, A15, c15, hG15, rfl, hrd15, hC15, h15⟩
 refine ⟨_, rfl, ?_⟩
 replace hleF := Le.trans hleF hG15
 replace rd26 := rd26.mono hG15
 replace rd28 := rd28.mono hG15
 replace rd36 := rd36.mono hG15
 refine C0 1 rfl<|We<|C0 1 rfl<|V1 (cn func28) rfl rfl (say_e _ (k := 6) (n := 0) (a := 7) lv_5 h15 hC15 okA5) ?_
 rintro _ w16 ⟨rfl, G16, r16, hG16, hC16, h16⟩
 refine ⟨_, rfl, ?_⟩
 replace hleF := Le.trans hleF hG16
 replace rd26 := rd26.mono hG16
 replace rd28 := rd28.mono hG16
 replace rd36 := rd36.mono hG16
 replace hrd15 := hrd15.mono hG16
 refine C0 1 rfl<|We<|C0 1 rfl<|V1 (cn func19) rfl rfl (job_ye _ h16 hC16 1 okA6.ok okA6.len (k := 0) (x := jA6) (at_1 _) (get_1 _)) ?_
 rintro _ w17 ⟨G17, r17, A14, c14, V14, d14, hG17, rfl, hrc_14, hrv_14, hC17, h17⟩
 refine ⟨_, rfl, ?_⟩
 replace hleF := Le.trans hleF hG17
 replace rd26 := rd26.mono hG17
 replace rd28 := rd28.mono hG17
 replace rd36 := rd36.mono hG17
 replace hrd15 := hrd15.mono hG17
 refine C0 3 rfl<|O2 rfl h17 inf54 fun b14 w18 h18=>F4 h18 0 rfl rfl rfl inf54 rfl rfl rfl ?_
 intro  w19 h19
 try simp only [ZZ] at h19
 refine C0 1 rfl<|J0 (H0 (N0 ?_))
 obtain ⟨Gf20, hGf20, hff20, h19⟩ := h19.freeze (i := 0) rfl
 have hfz_b14 : Gf20 b14 = some (.cells #[Vi 1, Vi 0, Vi 2, Vi 1, Vi 7, .slice A14 1 c14, .slice V14 1 d14] 54 (0, 0)) := hff20 _ List.mem_cons_self
 have hCf20 := hC17.mono hGf20
 replace hleF := Le.trans hleF hGf20
 replace rd26 := rd26.mono hGf20
 replace rd28 := rd28.mono hGf20
 replace rd36 := rd36.mono hGf20
 replace hrd15 := hrd15.mono hGf20
 replace hrc_14 := hrc_14.mono hGf20
 replace hrv_14 := hrv_14.mono hGf20
 refine L0<|C0 1 rfl<|V1 (cn func28) rfl rfl (say_e _ (k := 9) (n := 0) (a := 0) lv_6 h19 hCf20 okA6) ?_
 rintro _ w21 ⟨rfl, G21, r21, hG21, hC21, h21⟩
 refine ⟨_, rfl, ?_⟩
 replace hleF := Le.trans hleF hG21
 replace rd26 := rd26.mono hG21
 replace rd28 := rd28.mono hG21
 replace rd36 := rd36.mono hG21
 replace hrd15 := hrd15.mono hG21
 replace hrc_14 := hrc_14.mono hG21
 replace hrv_14 := hrv_14.mono hG21
 replace hfz_b14 := hG21 _ _ hfz_b14
 refine C0 2 rfl<|Q0 rfl<|V1 (cn func28) rfl rfl (say_e _ (k := 9) (n := 3) (a := 0) lv_7 h21 hC21 okA7) ?_
 rintro _ w22 ⟨rfl, G22, r22, hG22, hC22, h22⟩
 refine ⟨_, rfl, ?_⟩
 replace hleF := Le.trans hleF hG22
 replace rd26 := rd26.mono hG22
 replace rd28 := rd28.mono hG22
 replace rd36 := rd36.mono hG22
 replace hrd15 := hrd15.mono hG22
 replace hrc_14 := hrc_14.mono hG22
 replace hrv_14 := hrv_14.mono hG22
 replace hfz_b14 := hG22 _ _ hfz_b14
 refine C0 2 rfl<|We<|C0 1 rfl<|V1 (cn func19) rfl rfl (job_ye _ h22 hC22 1 okA8.ok okA8.len (k := 0) (x := jA8) (at_1 _) (get_1 _)) ?_
 rintro _ w23 ⟨G23, r23, A17, c17, V17, d17, hG23, rfl, hrc_17, hrv_17, hC23, h23⟩
 refine ⟨_, rfl, ?_⟩
 replace hleF := Le.trans hleF hG23
 replace rd26 := rd26.mono hG23
 replace rd28 := rd28.mono hG23
 replace rd36 := rd36.mono hG23
 replace hrd15 := hrd15.mono hG23
 replace hrc_14 := hrc_14.mono hG23
 replace hrv_14 := hrv_14.mono hG23
 replace hfz_b14 := hG23 _ _ hfz_b14
 refine C0 3 rfl<|O2 rfl h23 inf54 fun b17 w24 h24=>F4 h24 0 rfl rfl rfl inf54 rfl rfl rfl ?_
 intro  w25 h25
 try simp only [ZZ] at h25
 refine C0 1 rfl<|J0 (H0 (N0 (N0 ?_)))
 obtain ⟨Gf26, hGf26, hff26, h25⟩ := h25.freeze (i := 0) rfl
 have hfz_b17 : Gf26 b17 = some (.cells #[Vi 1, Vi 0, Vi 3, Vi 1, Vi 7, .slice A17 1 c17, .slice V17 1 d17] 54 (0, 0)) := hff26 _ List.mem_cons_self
 have hCf26 := hC23.mono hGf26
 replace hleF := Le.trans hleF hGf26
 replace rd26 := rd26.mono hGf26
 replace rd28 := rd28.mono hGf26
 replace rd36 := rd36.mono hGf26
 replace hrd15 := hrd15.mono hGf26
 replace hrc_14 := hrc_14.mono hGf26
 replace hrv_14 := hrv_14.mono hGf26
 replace hfz_b14 := hGf26 _ _ hfz_b14
 replace hrc_17 := hrc_17.mono hGf26
 replace hrv_17 := hrv_17.mono hGf26
 refine L0<|C0 1 rfl<|I0 (R0 (n := 1) (Y0 underlying39 rfl rfl) rfl) rfl<|I0 (Bf (J2 rfl rfl) rfl) rfl<|C0 2 rfl<|Q0 rfl<|I0 (K0 underlying33 rfl rfl (h25.cell (cellB hfz_b14 rfl))) rfl<|Q0 rfl<|I0 (R0 (n := 1) (Y0 underlying33 rfl rfl) rfl) rfl<|Q0 rfl<|I0 (Bf (J2 rfl rfl) rfl) rfl<|C0 1 rfl<|Wa<|E1 rfl (rfl)<|U0 (H0 (N0 ?_))
 obtain ⟨adK, hadK, hrdK⟩ := rd1 hrd15 (by decide)
 refine L0<|C0 1 rfl<|I0 (Z3 hadK underlying39 inf9 rfl rfl (n := 0) rfl (by decide)) rfl<|I0 (I1 (f := sB) ([] : List UInt8) h25 hrdK (n := 0) (by decide) underlying9 rfl rfl) rfl<|V1 (cn func15) rfl rfl ((show Calls _ _ #[_] _ (fun e w' => e = .returned (.tuple #[.agg #[Vi 4, Vi (-1), Vi 0, Vi 1, Vi 0, Vi 0, Vi 0, .string (bs [])], Vi 0]) ∧ _) from by have := Wir.qdec_c _ (encB ⟨4, -1, 0, 1, 0, 0, 0, []⟩) h25 (Nat.le_trans (encB_len _) (by decide)); rw [lv_d] at this; exact this)) ?_
 rintro _ w27 ⟨rfl, h27⟩
 refine ⟨_, rfl,C0 3 rfl<|O2 rfl h27 inf42 fun b19 w28 h28=>F4 h28 0 rfl rfl rfl inf42 rfl rfl rfl ?_⟩
 intro  w29 h29
 try simp only [ZZ] at h29
 refine C0 1 rfl<|J0 (H0 (N0 ?_))
 obtain ⟨Gf30, hGf30, hff30, h29⟩ := h29.freeze (i := 0) rfl
 have hfz_b19 : Gf30 b19 = some (.cells #[Vi 4, Vi (-1), Vi 0, Vi 1, Vi 0, Vi 0, Vi 0, .string (bs [])] 42 (0, 0)) := hff30 _ List.mem_cons_self
 have hCf30 := hCf26.mono hGf30
 replace hleF := Le.trans hleF hGf30
 replace rd26 := rd26.mono hGf30
 replace rd28 := rd28.mono hGf30
 replace rd36 := rd36.mono hGf30
 replace hrd15 := hrd15.mono hGf30
 replace hrc_14 := hrc_14.mono hGf30
 replace hrv_14 := hrv_14.mono hGf30
 replace hfz_b14 := hGf30 _ _ hfz_b14
 replace hrc_17 := hrc_17.mono hGf30
 replace hrv_17 := hrv_17.mono hGf30
 replace hfz_b17 := hGf30 _ _ hfz_b17
 obtain ⟨adJ, hadJ, hrdJ⟩ := rd1 hrc_14 (by decide)
 refine L0<|C0 1 rfl<|I0 (Bt (L1 rfl rfl) (by decide)) rfl<|C0 2 rfl<|Q0 rfl<|I0 (Bt (L1 rfl rfl) (by decide)) rfl<|C0 3 rfl<|Q0 rfl<|I0 (Bt (L1 rfl rfl) (by decide)) rfl<|C0 3 rfl<|Q0 rfl<|I0 (Bt (L1 rfl rfl) (by decide)) rfl<|C0 6 rfl<|Q0 rfl<|I0 (Bt (L1 rfl rfl) (by decide)) rfl<|C0 6 rfl<|Q0 rfl<|I0 (R0 (n := 2) (Y0 underlying39 rfl rfl) (by rw [lv_o2]; rfl)) rfl<|Q0 rfl<|I0 (Bt (L1 rfl rfl) (by decide)) rfl<|C0 5 rfl<|Q0 rfl<|I0 (R4 h29 hfz_b19 underlying42 rfl inf42 rfl rfl) rfl<|Q0 rfl<|I0 (R2 (vs := [(0, Vi 4), (1, Vi (-1)), (3, Vi 1)]) (cells := #[Vi 4, Vi (-1), Vi 0, Vi 1, Vi 0, Vi 0, Vi 0, .string (bs [])]) rfl (by kernel_rfl)) rfl<|Q0 rfl<|I0 (Bt (Runs.aeql (by kernel_rfl) rfl rfl (Wir.eqM _ (⟨4, -1, 0, 1, 0, 0, 0, []⟩ : M) ⟨4, -1, 0, 1, 0, 0, 0, []⟩)) (by decide)) rfl<|C0 9 rfl<|Q0 rfl<|I0 (K0 underlying3 rfl rfl (h29.cell (cellB hfz_b14 rfl))) rfl<|Q0 rfl<|I0 (Bt (L1 rfl rfl) (by decide)) rfl<|C0 3 rfl<|Q0 rfl<|I0 (K0 underlying3 rfl rfl (h29.cell (cellB hfz_b14 rfl))) rfl<|Q0 rfl<|I0 (Bt (L1 rfl rfl) (by decide)) rfl<|C0 3 rfl<|Q0 rfl<|I0 (K0 underlying3 rfl rfl (h29.cell (cellB hfz_b14 rfl))) rfl<|Q0 rfl<|I0 (Bt (L1 rfl rfl) (by decide)) rfl<|C0 3 rfl<|Q0 rfl<|I0 (K0 underlying33 rfl rfl (h29.cell (cellB hfz_b14 rfl))) rfl<|Q0 rfl<|I0 (Z3 hadJ underlying33 inf3 rfl rfl (n := 0) rfl (by decide)) rfl<|Q0 rfl<|I0 (R0 (n := 7) (I1 (f := Vi) (0 : Int) h29 hrdJ (n := 0) (by decide) underlying3 rfl rfl) rfl) rfl<|Q0 rfl<|I0 (Bt (L1 rfl rfl) (by decide)) rfl<|C0 6 rfl<|Q0 rfl<|I0 (K0 underlying3 rfl rfl (h29.cell (cellB hfz_b17 rfl))) rfl<|Q0 rfl<|I0 (Bt (L1 rfl rfl) (by decide)) rfl<|C0 3 rfl<|Q0 rfl<|V1 (cn func14) rfl rfl (outbox_e _ (now := 9) lv_o8 (by decide) h29 hCf30 okA8) ?_
 rintro _ w31 ⟨G31, r31, A31, c31, hG31, rfl, hrd31, hC31, h31⟩
 refine ⟨_, rfl, ?_⟩
 replace hleF := Le.trans hleF hG31
 replace rd26 := rd26.mono hG31
 replace rd28 := rd28.mono hG31
 replace rd36 := rd36.mono hG31
 replace hrd15 := hrd15.mono hG31
 replace hrc_14 := hrc_14.mono hG31
 replace hrv_14 := hrv_14.mono hG31
 replace hfz_b14 := hG31 _ _ hfz_b14
 replace hrc_17 := hrc_17.mono hG31
 replace hrv_17 := hrv_17.mono hG31
 replace hfz_b17 := hG31 _ _ hfz_b17
 replace hfz_b19 := hG31 _ _ hfz_b19
 refine Q0 rfl<|I0 (R0 (n := 0) (Y0 underlying39 rfl rfl) rfl) rfl<|Q0 rfl<|I0 (Bt (L1 rfl rfl) (by decide)) rfl<|C0 3 rfl<|Q0 rfl<|V1 (cn func27) rfl rfl (cancel_e _ (id := 1) lv_c1 h31 hC31 okA8) ?_
 rintro _ w32 ⟨rfl, G32, r32, hG32, hC32, h32⟩
 refine ⟨_, rfl, ?_⟩
 replace hleF := Le.trans hleF hG32
 replace rd26 := rd26.mono hG32
 replace rd28 := rd28.mono hG32
 replace rd36 := rd36.mono hG32
 replace hrd15 := hrd15.mono hG32
 replace hrc_14 := hrc_14.mono hG32
 replace hrv_14 := hrv_14.mono hG32
 replace hfz_b14 := hG32 _ _ hfz_b14
 replace hrc_17 := hrc_17.mono hG32
 replace hrv_17 := hrv_17.mono hG32
 replace hfz_b17 := hG32 _ _ hfz_b17
 replace hfz_b19 := hG32 _ _ hfz_b19
 refine Q0 rfl<|I0 (Bt (L1 rfl rfl) (by decide)) rfl<|C0 3 rfl<|Q0 rfl<|V1 (cn func27) rfl rfl (cancel_e _ (id := 2) lv_c2 h32 hC32 okA8) ?_
 rintro _ w33 ⟨rfl, G33, r33, hG33, hC33, h33⟩
 refine ⟨_, rfl, ?_⟩
 replace hleF := Le.trans hleF hG33
 replace rd26 := rd26.mono hG33
 replace rd28 := rd28.mono hG33
 replace rd36 := rd36.mono hG33
 replace hrd15 := hrd15.mono hG33
 replace hrc_14 := hrc_14.mono hG33
 replace hrv_14 := hrv_14.mono hG33
 replace hfz_b14 := hG33 _ _ hfz_b14
 replace hrc_17 := hrc_17.mono hG33
 replace hrv_17 := hrv_17.mono hG33
 replace hfz_b17 := hG33 _ _ hfz_b17
 replace hfz_b19 := hG33 _ _ hfz_b19
 refine Q0 rfl<|I0 (Bt (L1 rfl rfl) (by decide)) rfl<|C0 3 rfl<|Q0 rfl<|V1 (cn func28) rfl rfl (say_e _ (k := 9) (n := 0) (a := 0) lv_8 h33 hC33 okA8) ?_
 rintro _ w34 ⟨rfl, G34, r34, hG34, hC34, h34⟩
 refine ⟨_, rfl, ?_⟩
 replace hleF := Le.trans hleF hG34
 replace rd26 := rd26.mono hG34
 replace rd28 := rd28.mono hG34
 replace rd36 := rd36.mono hG34
 replace hrd15 := hrd15.mono hG34
 replace hrc_14 := hrc_14.mono hG34
 replace hrv_14 := hrv_14.mono hG34
 replace hfz_b14 := hG34 _ _ hfz_b14
 replace hrc_17 := hrc_17.mono hG34
 replace hrv_17 := hrv_17.mono hG34
 replace hfz_b17 := hG34 _ _ hfz_b17
 replace hfz_b19 := hG34 _ _ hfz_b19
 refine C0 3 rfl<|Wg<|ret1 rfl rfl ⟨rfl, _, hleF, h34.drop 0⟩
theorem inf116 : Inf prog 116 (.pointer none) 1 8 := by unfold Inf; kernel_rfl
def QQ (F : Snap) (r1 r2 : Res) (b : Nat) (t : T) : Prop := ∃ bv bc zv zc fv fc, RR F [r1, r2] b 0 1 bv bc zv zc fv fc t
theorem QQ.mono {F G : Snap} (hle : Le F G) {r1 r2 : Res} {b : Nat} {t : T} (h : QQ F r1 r2 b t) : QQ G r1 r2 b t := by
 obtain ⟨bv, bc, zv, zc, fv, fc, h⟩ := h
 exact ⟨bv, bc, zv, zc, fv, fc, h.mono hle⟩
theorem RR.at2 {F : Snap} {r1 r2 : Res} {cs : List Res} {b i j bv bc : Nat} {zv zc : List Value} {fv fc : Nat × Nat} {t : T} (h : RR F [r1, r2] b 0 1 bv bc zv zc fv fc t) (h1 : cs[i]? = some r1) (h2 : cs[j]? = some r2) (hne : i ≠ j) : RR F cs b i j bv bc zv zc fv fc t :=
 ⟨h.s0, h.s1, h.s2, h1.trans h.iv, h2.trans h.ic, h.hv, h.hc, h.lv, h.lc, h.pos, h.small, h.nd, h.ok, hne⟩
theorem RR.two {F : Snap} {cs : List Res} {b i j bv bc : Nat} {zv zc : List Value} {fv fc : Nat × Nat} {t : T} (h : RR F cs b i j bv bc zv zc fv fc t) : QQ F [(bv, .cells ((t.vs.map Tal.eV).map Vi ++ zv).toArray 3 fv)] [(bc, .cells ((t.cs.map Tal.eC).map Vi ++ zc).toArray 3 fc)] b t :=
 ⟨bv, bc, zv, zc, fv, fc, h.s0, h.s1, h.s2, rfl, rfl, h.hv, h.hc, h.lv, h.lc, h.pos, h.small, h.nd, h.ok, by decide⟩
structure JobOq (F : Snap) (x : J) (A B C R N : Option Addr) (ps : List (Option Nat)) (zt : List Value) (ft : Nat × Nat) (tm : List Res) : Prop where
 nd : RdS (Kd.one Vi) F A x.ns
 st : RdS KS F B x.ss
 co : RdS (Kd.one Vi) F C x.cs
 rd : RdS (Kd.one Vi) F R x.rd
 gn : RdS (Kd.one Vi) F N x.gn
 ft : Free ft (ps.length + zt.length)
 ta : TalsR QQ F x.ts ps tm
theorem JobOq.mono {F G : Snap} (hle : Le F G) {x : J} {A B C R N : Option Addr} {ps : List (Option Nat)} {zt : List Value} {ft : Nat × Nat} {tm : List Res} (h : JobOq F x A B C R N ps zt ft tm) : JobOq G x A B C R N ps zt ft tm :=
 ⟨h.nd.mono hle, h.st.mono hle, h.co.mono hle, h.rd.mono hle, h.gn.mono hle, h.ft, h.ta.mono (fun _ _ _ _ => QQ.mono hle)⟩
abbrev qB (x : J) (b bT : Nat) (A B C R N : Option Addr) (cap cap2 u3 u4 u5 : Nat) (ps : List (Option Nat)) (zt : List Value) : Res := [(b, .cells #[.slice A x.ns.length cap, .slice B x.ss.length cap2, Vi x.id, Vi x.ep, Vi x.ph, Vi x.ft, Vi x.cd, .slice C x.cs.length u3, vT ps bT zt, .slice R x.rd.length u4, .slice N x.gn.length u5, .bool x.ak] 101 (0, 0))]
abbrev qT (ps : List (Option Nat)) (bT : Nat) (zt : List Value) (ft : Nat × Nat) : Res := [(bT, .cells (ps.map pv ++ zt).toArray 116 ft)]
def JobQ (F : Snap) (r : Res) (b : Nat) (x : J) : Prop := ∃ bT A B C R N cap cap2 u3 u4 u5 ps zt ft tm, r = (qB x b bT A B C R N cap cap2 u3 u4 u5 ps zt :: qT ps bT zt ft :: tm).flatten ∧ JobOq F x A B C R N ps zt ft tm
theorem JobQ.mono {F G : Snap} (hle : Le F G) {r : Res} {b : Nat} {x : J} (h : JobQ F r b x) : JobQ G r b x := by
 obtain ⟨bT, A, B, C, R, N, cap, cap2, u3, u4, u5, ps, zt, ft, tm, h1, h2⟩ := h
 exact ⟨bT, A, B, C, R, N, cap, cap2, u3, u4, u5, ps, zt, ft, tm, h1, h2.mono hle⟩
theorem JobQ.open_ {W w : World} {F : Snap} {cs : List Res} {r : Res} {b : Nat} {x : J} (h : St W F (r :: cs) w) (hJ : JobQ F r b x) : ∃ bT A B C R N cap cap2 u3 u4 u5 ps zt ft tm, St W F (qB x b bT A B C R N cap cap2 u3 u4 u5 ps zt :: qT ps bT zt ft :: (tm ++ cs)) w ∧ JobOq F x A B C R N ps zt ft tm := by
 obtain ⟨bT, A, B, C, R, N, cap, cap2, u3, u4, u5, ps, zt, ft, tm, rfl, h2⟩ := hJ
 exact ⟨bT, A, B, C, R, N, cap, cap2, u3, u4, u5, ps, zt, ft, tm, St.flat h (by simp), h2⟩
theorem JobQ.close {W w : World} {F : Snap} {cs : List Res} {x : J} {b bT : Nat} {A B C R N : Option Addr} {cap cap2 u3 u4 u5 : Nat} {ps : List (Option Nat)} {zt : List Value} {ft : Nat × Nat} {tm : List Res} (h : St W F (qB x b bT A B C R N cap cap2 u3 u4 u5 ps zt :: qT ps bT zt ft :: (tm ++ cs)) w) (hO : JobOq F x A B C R N ps zt ft tm) : ∃ r, JobQ F r b x ∧ St W F (r :: cs) w :=
 ⟨_, ⟨bT, A, B, C, R, N, cap, cap2, u3, u4, u5, ps, zt, ft, tm, rfl, hO⟩, St.flat h (by simp)⟩
theorem at2_ {a b : Res} {tm cs : List Res} {k : Nat} {r : Res} (h : tm[k]? = some r) : (a :: b :: (tm ++ cs))[k + 2]? = some r := by
 have hk : k < tm.length := (List.getElem?_eq_some_iff.1 h).1
 show (tm ++ cs)[k]? = some r
 rw [List.getElem?_append_left hk]
 exact h
theorem mem_D {xs : List Int} {i : Nat} {n : Int} (h : xs.getD i 0 = n) (hi : i < xs.length) : n ∈ xs := h ▸ getD_mem hi
theorem mem_N {xs : List Int} {n : Int} (h : ∀ j, j < xs.length → xs.getD j 0 ≠ n) : n ∉ xs := fun hm => by
 obtain ⟨j, hj, e⟩ := List.getElem_of_mem hm
 refine h j hj ?_
 rw [gD, gE hj]
 exact e
theorem with_y {l : List Int} {n : Int} (h : n ∈ l) : with_ l n = l := if_pos h
theorem with_n {l : List Int} {n : Int} (h : n ∉ l) : with_ l n = l ++ [n] := if_neg h
theorem qin_c (w : World) (n : Int) {A : Option Addr} {cap : Nat} {xs : List Int} (h : St W F cs w) (hR : RdS (Kd.one Vi) F A xs) (hn : xs.length ≤ 100000) : Calls prog 46 #[.slice A xs.length cap, Vi n] w fun e w' => e = .returned (.bool (decide (n ∈ xs))) ∧ St W F cs w'  := by
 refine enter (args := [.slice A xs.length cap, Vi n]) func46 rfl rfl rfl<|Wi<|C0 1 rfl<|Wh<|C0 1 rfl<|Wj<|B3 (σ := Nat) (fun q_ => [(0, .slice A xs.length cap), (1, Vi n), (5, .int .i64 (q_ : Int))]) (fun q_ w => q_ ≤ xs.length ∧ (∀ j, j < q_ → xs.getD j 0 ≠ n) ∧ St W F cs w) (fun q_ => xs.length - q_) (0) (⟨Nat.zero_le _, fun j hj => absurd hj (Nat.not_lt_zero _), h⟩) ?_
 rintro i w1 ⟨hi, hno, hL⟩
 try dsimp only at hi hno hL
 refine W2 [(0, .slice A xs.length cap), (1, Vi n), (5, .int .i64 (i : Int))]<|N0<|Wi<|C0 2 rfl<|I0 (R0 (n := (xs.length : Int)) (Y0 underlying33 rfl rfl) rfl) rfl<|C0 1 rfl<|Wa<|Z0 rfl (fun c2 => ?_) (fun c2 => ?_)
 ·try simp only [DD] at c2
  refine U0 (H0 (N0 (M1 (N0 ?_))))
  obtain ⟨ad, hA1, hrd⟩ := rd1 hR (by omega)
  refine L0<|C0 2 rfl<|I0 (Z3 hA1 underlying33 inf3 rfl rfl (n := i) rfl (by omega)) rfl<|I0 (I1 (f := Vi) (0 : Int) hL hrd (n := i) (by omega) underlying3 rfl rfl) rfl<|C0 2 rfl<|Wa<|Z0 rfl (fun c3 => ?_) (fun c3 => ?_)
  ·try simp only [DD] at c3
   refine Wi<|C0 1 rfl<|Wg<|ret1 rfl rfl ⟨by rw [dA (mem_D c3 (by omega))], hL⟩
  try simp only [DD] at c3
  refine U0<|N1<|H0<|L0<|C0 1 rfl<|I0 (V0 rfl rfl (by omega)) rfl<|C0 1 rfl<|J0<|F1 (i + 1) (by omega) ⟨rfl, rfl, rfl, trivial⟩ ⟨by omega, fun j hj => (by
   by_cases e : j = i
   ·subst e; exact c3
   exact hno j (by omega)), hL⟩
 try simp only [DD] at c2
 refine U1<|B2<|WX.cut<|E2<|H0<|Wi<|C0 1 rfl<|Wg<|ret1 rfl rfl ⟨by rw [dN (mem_N (fun j hj => hno j (by omega)))], hL⟩
theorem qwith_c (w : World) (n : Int) {A : Option Addr} {cap : Nat} {xs : List Int} (h : St W F cs w) (hR : RdS (Kd.one Vi) F A xs) (hn : xs.length ≤ 100000) : Calls prog 112 #[.slice A xs.length cap, Vi n] w fun e w' => ∃ G A' c', Le F G ∧ e = .returned (.slice A' (with_ xs n).length c') ∧ RdS (Kd.one Vi) G A' (with_ xs n) ∧ St W G cs w'  := by
 refine enter (args := [.slice A xs.length cap, Vi n]) func112 rfl rfl rfl<|Wi<|C0 1 rfl<|Wh<|C0 2 rfl<|C1 (cn func46) rfl rfl (qin_c _ n h hR hn) fun w1 h1 =>Wa<|Z0 rfl (fun c2 => ?_) (fun c2 => ?_)
 ·try simp only [DD] at c2
  refine Wi<|C0 2 rfl<|Wg<|ret1 rfl rfl ⟨F, A, cap, Le.refl F, ?_, ?_, h1⟩
  ·rw [with_y c2]
  rw [with_y c2]; exact hR
 try simp only [DD] at c2
 refine Wk<|X2 (vs := (([] : List Int)).map Vi) h1 rfl underlying33 inf3 rfl rfl rfl rfl rfl fun lit9 w3 h3=>C0 1 rfl<|I3 (ys := xs) 0 h3 rfl rfl rfl rfl underlying33 underlying33 (.inr ⟨_, rfl⟩) inf3 rfl (Row.lit rfl) (Src.rd hR h3 rfl (fun _ => rfl)) rfl rfl (by first | omega | (simp [List.length_nil]; done) | (simp [List.length_nil]; omega)) (by first | omega | (simp [List.length_nil]; done) | (simp [List.length_nil]; omega)) ?_
 intro r4 v4 w5 hr4 h5
 simp only [lz, ls] at h5
 refine C0 1 rfl<|X2 (vs := (([n] : List Int)).map Vi) h5 rfl underlying33 inf3 rfl rfl rfl rfl rfl fun lit13 w6 h6=>I3 (ys := ([n] : List Int)) 1 h6 rfl rfl rfl rfl underlying33 underlying33 (.inr ⟨_, rfl⟩) inf3 rfl hr4 (Src.lit h6 0 rfl rfl rfl) rfl rfl (by first | omega | (simp [List.length_nil]; done) | (simp [List.length_nil]; omega)) (by first | omega | (simp [List.length_nil]; done) | (simp [List.length_nil]; omega)) ?_
 intro r7 v7 w8 hr7 h8
 simp only [lz, ls] at h8
 replace h8 := h8.drop 0
 simp only [ez, es'] at h8
 refine C0 1 rfl<|J0 (H0 (O1 ?_))
 have hr9 := hr7
 rw [show ([] : List Int) ++ xs ++ [n] = with_ xs n from by rw [with_n c2]; rfl] at hr9
 obtain ⟨A9, c9, hv9, hc9⟩ := hr9.val
 obtain ⟨G9, hG9, hf9, h9⟩ := h8.freeze (i := 0) rfl
 exact ret1 rfl rfl ⟨G9, A9, c9, hG9, by rw [hv9], Row.read hr9 hv9 hf9, h9⟩
theorem qend_c (w : World) {r : Res} {b : Nat} {x : J} (h : St W F (r :: cs) w) (hJ : JobQ F r b x) (fa co : Int) : Calls prog 111 #[pz b, Vi fa, Vi co] w fun e w' => e = .returned (.tuple #[]) ∧ ∃ r', JobQ F r' b (x.fin fa co) ∧ St W F (r' :: cs) w'  := by
 refine enter (args := [pz b, Vi fa, Vi co]) func111 rfl rfl rfl ?_
 obtain ⟨bT, A, B, C, R, N, cap, cap2, u3, u4, u5, ps, zt, ft, tm, h, hO⟩ := JobQ.open_ h hJ
 refine Wi<|C0 3 rfl<|O3 h 0 rfl rfl rfl inf3 rfl rfl ?_
 intro  w1 h1
 try simp only [ZZ] at h1
 refine We<|C0 4 rfl<|O3 h1 0 rfl rfl rfl inf3 rfl rfl ?_
 intro  w2 h2
 try simp only [ZZ] at h2
 refine Wf<|C0 4 rfl<|O3 h2 0 rfl rfl rfl inf3 rfl rfl ?_
 intro  w3 h3
 try simp only [ZZ] at h3
 refine J0 ?_
 obtain ⟨r9, hJ9, hS9⟩ := JobQ.close (x := x.fin fa co) (show St W F (qB (x.fin fa co) b bT A B C R N cap cap2 u3 u4 u5 ps zt :: qT ps bT zt ft :: (tm ++ _)) _ from h3) ⟨hO.nd, hO.st, hO.co, hO.rd, hO.gn, hO.ft, hO.ta⟩
 exact end0 rfl ⟨rfl, r9, hJ9, hS9⟩
theorem qcode_c (w : World) {x : J} {b bT : Nat} {A B C R N : Option Addr} {cap cap2 u3 u4 u5 : Nat} {ps : List (Option Nat)} {zt : List Value} {ft : Nat × Nat} {tm : List Res}{i : Nat} (h : St W F (qB x b bT A B C R N cap cap2 u3 u4 u5 ps zt :: qT ps bT zt ft :: (tm ++ cs)) w) (hO : JobOq F x A B C R N ps zt ft tm) (hi : i < x.ts.length) (hl : x.ts.length ≤ 16) : Calls prog 107 #[pz b, Vi (i : Nat)] w fun e w' => e = .returned (Vi (cod x.ak (-1) (x.ts.getD i none))) ∧ St W F (qB x b bT A B C R N cap cap2 u3 u4 u5 ps zt :: qT ps bT zt ft :: (tm ++ cs)) w'  := by
 refine enter (args := [pz b, Vi (i : Nat)]) func107 rfl rfl rfl ?_
 have hlp := hO.ta.lp
 have hlm := hO.ta.lm
 refine Wi<|C0 1 rfl<|J0 (H0 (N0 ?_))
 rcases hts : x.ts.getD i none with _ | t
 ·obtain ⟨hp, hm1, hm2⟩ := hO.ta.no i hi hts
  refine L0<|H1 h [0] 5 rfl<|I0 (W0 underlying99 inf116 rfl rfl (n := i) rfl (by omega)) rfl<|I0 (X1 (u := .pointer none) (I2 (none : Option Nat) h 1 rfl (T3 (E := 116) (f := pv) (b := bT) (fz := ft) (xs := ps) (zs := zt) rfl hO.ft) (n := i) (by omega) underlying116 rfl rfl) (by rw [hp]; rfl)) rfl<|C0 1 rfl<|Wh<|C0 1 rfl<|I0 (L2 underlying116 rfl rfl) rfl<|Wa<|J1 rfl (rfl)<|N0<|Wi<|H1 h [0] 4 rfl<|Wa<|Z0 rfl (fun c1 => ?_) (fun c1 => ?_)
  ·try simp only [DD] at c1
   refine Wi<|C0 1 rfl<|Wg<|ret1 rfl rfl ⟨?_, h⟩
   rw [show cod x.ak (-1) none = 256 from by unfold cod; rw [if_neg (by decide), c1]; rfl]
  try simp only [DD] at c1
  refine Wk<|C0 1 rfl<|Wg<|ret1 rfl rfl ⟨?_, h⟩
  rw [show cod x.ak (-1) none = -1 from by unfold cod; rw [if_neg (by decide), c1]; rfl]
 obtain ⟨bt, q1, q2, hp, hm1, hm2, bv, bc, zv, zc, fv, fc, hTR⟩ := hO.ta.ye i t hts
 refine L0<|H1 h [0] 5 rfl<|I0 (W0 underlying99 inf116 rfl rfl (n := i) rfl (by omega)) rfl<|I0 (X1 (u := pz bt) (I2 (none : Option Nat) h 1 rfl (T3 (E := 116) (f := pv) (b := bT) (fz := ft) (xs := ps) (zs := zt) rfl hO.ft) (n := i) (by omega) underlying116 rfl rfl) (by rw [hp]; rfl)) rfl<|C0 1 rfl<|Wh<|C0 1 rfl<|I0 (L2 underlying116 rfl rfl) rfl<|Wa<|E1 rfl (rfl)<|U0<|H0<|N0<|Wi<|C0 1 rfl<|C1 (cn func92) rfl rfl (Tal.rstate_r _ h (RR.at2 hTR (at2_ hm1) (at2_ hm2) (by omega))) fun w2 h2 =>C0 1 rfl<|Wa<|Z0 rfl (fun c3 => ?_) (fun c3 => ?_)
 ·try simp only [DD] at c3
  refine Wi<|C0 1 rfl<|Wg<|ret1 rfl rfl ⟨?_, h2⟩
  rw [show cod x.ak (-1) (some t) = 255 from by unfold cod; rw [if_neg (by decide)]; exact if_pos c3]
 try simp only [DD] at c3
 refine U0<|H0<|N0<|Wi<|C0 1 rfl<|C1 (cn func92) rfl rfl (Tal.rstate_r _ h2 (RR.at2 hTR (at2_ hm1) (at2_ hm2) (by omega))) fun w4 h4 =>C0 1 rfl<|Wa<|Z0 rfl (fun c5 => ?_) (fun c5 => ?_)
 ·try simp only [DD] at c5
  refine Wi<|C0 1 rfl<|C1 (cn func145) rfl rfl (Tal.rcode_r _ h4 (RR.at2 hTR (at2_ hm1) (at2_ hm2) (by omega))) fun w6 h6 =>C0 1 rfl<|Wg<|ret1 rfl rfl ⟨?_, h6⟩
  rw [show cod x.ak (-1) (some t) = t.code from by unfold cod; rw [if_neg (by decide)]; exact (if_neg c3).trans (if_pos c5)]
 try simp only [DD] at c5
 refine Wk<|C0 1 rfl<|Wg<|ret1 rfl rfl ⟨?_, h4⟩
 rw [show cod x.ak (-1) (some t) = -1 from by unfold cod; rw [if_neg (by decide)]; exact (if_neg c3).trans (if_neg c5)]
theorem inf99 : Inf prog 99 (.slice none 0 0) 1 24 := by unfold Inf; kernel_rfl
theorem qB_len {x : J} {b bT : Nat} {A B C R N : Option Addr} {cap cap2 u3 u4 u5 : Nat} {ps ps' : List (Option Nat)} {zt : List Value} (h : ps.length = ps'.length) : qB x b bT A B C R N cap cap2 u3 u4 u5 ps zt = qB x b bT A B C R N cap cap2 u3 u4 u5 ps' zt := by
 unfold qB vT
 rw [h]
theorem set2_ {a b : Res} {tm cs : List Res} {k : Nat} {r : Res} (hk : k < tm.length) : (a :: b :: (tm ++ cs)).set (k + 2) r = a :: b :: (tm.set k r ++ cs) := by
 simp only [List.set_cons_succ]
 rw [List.set_append_left _ _ hk]
theorem St.two2 {W w : World} {F : Snap} {cs tm : List Res} {a b p q : Res} {k : Nat} (h : St W F (p :: q :: a :: b :: (tm ++ cs)) w) (h1 : tm[k]? = some []) (h2 : tm[k + 1]? = some []) : St W F (a :: b :: ((tm.set k p).set (k + 1) q ++ cs)) w := by
 have hk2 : k + 1 < tm.length := (List.getElem?_eq_some_iff.1 h2).1
 have h8 := St.in_ h (i := k + 3) (show (a :: b :: (tm ++ cs))[k + 2]? = some [] from at2_ h1)
 have h9 : St W F (q :: (a :: b :: (tm ++ cs)).set (k + 2) p) w := h8
 rw [set2_ (by omega)] at h9
 have h7 := St.in_ h9 (i := k + 1 + 2) (at2_ (by rw [List.getElem?_set_ne (by omega)]; exact h2))
 rwa [set2_ (by rw [List.length_set]; omega)] at h7
theorem seen_s {x : J} {i : Nat} {v : Int} (h : x.ts.length = x.cs.length) (hi : i < x.cs.length) (hv : cod x.ak (x.cs.getD i 0) (x.ts.getD i none) = v) : (seen x.ak x.cs x.ts).take i ++ [v] = (seen x.ak x.cs x.ts).take (i + 1) := by
 have hs := seen_len (ak := x.ak) h
 have e1 := seen_at (ak := x.ak) h hi
 rw [hv] at e1
 rw [List.take_add_one, gE (by omega)]
 rw [gD, gE (by omega)] at e1
 have e2 : (seen x.ak x.cs x.ts)[i] = v := e1
 rw [e2]; rfl
theorem ov_cases (x : J) : (overM x.ss x.cs').2 = false ∨ ((overM x.ss x.cs').2 = true ∧ x.ak = true) ∨ ((overM x.ss x.cs').2 = true ∧ x.ak = false ∧ ¬ (overM x.ss x.cs').1 = 0) ∨ ((overM x.ss x.cs').2 = true ∧ x.ak = false ∧ (overM x.ss x.cs').1 = 0) := by
 rcases (overM x.ss x.cs').2 with _ | _
 ·exact .inl rfl
 rcases x.ak with _ | _
 ·by_cases h : (overM x.ss x.cs').1 = 0
  ·exact .inr (.inr (.inr ⟨rfl, rfl, h⟩))
  exact .inr (.inr (.inl ⟨rfl, rfl, h⟩))
 exact .inr (.inl ⟨rfl, rfl⟩)
theorem rep_s (n : Nat) : List.replicate n (-1 : Int) ++ [-1] = List.replicate (n + 1) (-1) := (List.replicate_succ').symm
theorem qbegin_c (w : World) {b : Nat} {x : J} {A B : Option Addr} {cap cap2 : Nat} {v4 v5 v6 v7 v8 v9 v10 : Value} (h : St W F ([(b, .cells #[.slice A x.ns.length cap, .slice B x.ss.length cap2, Vi x.id, Vi x.ep, v4, v5, v6, v7, v8, v9, v10, .bool x.ak] 101 (0, 0))] :: cs) w) (hA : RdS (Kd.one Vi) F A x.ns) (hB : RdS KS F B x.ss) (hn : x.ss.length ≤ 16) : Calls prog 65 #[pz b] w fun e w' => e = .returned (.tuple #[]) ∧ ∃ G r', Le F G ∧ JobQ G r' b (x.begin) ∧ St W G (r' :: cs) w'  := by
 refine enter (args := [pz b]) func65 rfl rfl rfl<|Wi<|C0 3 rfl<|O3 h 0 rfl rfl rfl inf3 rfl rfl ?_
 intro  w1 h1
 try simp only [ZZ] at h1
 refine We<|C0 3 rfl<|O3 h1 0 rfl rfl rfl inf3 rfl rfl ?_
 intro  w2 h2
 try simp only [ZZ] at h2
 refine We<|C0 3 rfl<|O3 h2 0 rfl rfl rfl inf3 rfl rfl ?_
 intro  w3 h3
 try simp only [ZZ] at h3
 refine We<|C0 3 rfl<|O3 h3 0 rfl rfl rfl inf33 rfl rfl ?_
 intro  w4 h4
 try simp only [ZZ] at h4
 refine We<|C0 3 rfl<|O3 h4 0 rfl rfl rfl inf33 rfl rfl ?_
 intro  w5 h5
 try simp only [ZZ] at h5
 refine We<|C0 3 rfl<|O3 h5 0 rfl rfl rfl inf33 rfl rfl ?_
 intro  w6 h6
 try simp only [ZZ] at h6
 refine J0 (H0 (N0 (N0 ?_)))
 have hN0 := h6.nilRes
 refine L0<|C0 1 rfl<|Wj<|B3 (σ := Nat × Res × Value) (fun q_ => [(0, pz b), (2, .int .i64 (q_.1 : Int))]) (fun q_ w => q_.1 ≤ x.ss.length ∧ Row 3 Vi q_.2.1 q_.2.2 (List.replicate q_.1 (-1)) ∧ St W F (q_.2.1 :: [(b, .cells #[.slice A x.ns.length cap, .slice B x.ss.length cap2, Vi x.id, Vi x.ep, Vi 0, Vi 0, Vi 0, q_.2.2, v8, .slice none 0 0, .slice none 0 0, .bool x.ak] 101 (0, 0))] :: cs) w) (fun q_ => x.ss.length - q_.1) (⟨0, [], .slice none 0 0⟩) (⟨Nat.zero_le _, Row.nil _ _, hN0⟩) ?_
 rintro ⟨i, ro, vo⟩ w7 ⟨hi, hro, hL⟩
 try dsimp only at hi hro hL
 refine W2 [(0, pz b), (2, .int .i64 (i : Int))]<|N0<|Wi<|H1 hL [1] 6 rfl<|I0 (R0 (n := (x.ss.length : Int)) (Y0 underlying34 rfl rfl) rfl) rfl<|C0 1 rfl<|Wa<|Z0 rfl (fun c8 => ?_) (fun c8 => ?_)
 ·try simp only [DD] at c8
  refine U0 (H0 (N0 (M1 ?_)))
  obtain ⟨Ao, co, rfl, hco⟩ := hro.val
  refine L0<|H1 hL [1] 5 rfl<|X2 (vs := (([-1] : List Int)).map Vi) hL rfl underlying33 inf3 rfl rfl rfl rfl rfl fun lit36 w9 h9=>I3 (ys := ([-1] : List Int)) 1 h9 rfl rfl rfl rfl underlying33 underlying33 (.inr ⟨_, rfl⟩) inf3 rfl hro (Src.lit h9 0 rfl rfl rfl) rfl rfl (by first | omega | (simp [List.length_replicate]; done) | (simp [List.length_replicate]; omega)) (by first | omega | (simp [List.length_replicate]; done) | (simp [List.length_replicate]; omega)) ?_
  intro r10 v10 w11 hr10 h11
  simp only [lz, ls] at h11
  replace h11 := h11.drop 0
  simp only [ez, es'] at h11
  obtain ⟨Aq10, cq10, rfl, hcq10⟩ := hr10.val
  refine C0 2 rfl<|O3 h11 1 rfl rfl rfl inf33 rfl rfl ?_
  intro  w12 h12
  try simp only [ZZ] at h12
  refine J0<|N1<|H0<|L0<|C0 1 rfl<|I0 (V0 rfl rfl (by omega)) rfl<|C0 1 rfl<|J0 ?_
  have hr9 := hr10
  rw [rep_s] at hr9 h12
  exact F1 (⟨i + 1, r10, (.slice Aq10 _ cq10)⟩ : Nat × Res × Value) (by show x.ss.length - (i + 1) < x.ss.length - i; omega) ⟨rfl, rfl, trivial⟩ ⟨by show i + 1 ≤ _; omega, hr9, h12⟩
 try simp only [DD] at c8
 refine U1<|B2<|WX.cut<|E2<|H0<|L0<|H1 hL [1] 6 rfl<|I0 (R0 (n := (x.ss.length : Int)) (Y0 underlying34 rfl rfl) rfl) rfl<|WL.make1 (l := x.ss.length) (c := x.ss.length) rfl hL underlying99 inf116 rfl rfl rfl (Nat.le_refl _) (by omega) (by omega) ?_
 intro bT w13 h13
 try simp only [ZZ] at h13
 refine C0 2 rfl<|O3 h13 2 rfl rfl rfl inf99 rfl rfl ?_
 intro  w14 h14
 try simp only [ZZ] at h14
 refine J0 ?_
 obtain rfl : i = x.ss.length := by omega
 obtain ⟨Ao, co, rfl, hco⟩ := hro.val
 replace h14 : St W F ([(bT, .cells (List.replicate x.ss.length (.pointer none)).toArray 116 (0, 0))] :: ro :: [(b, .cells #[.slice A x.ns.length cap, .slice B x.ss.length cap2, Vi x.id, Vi x.ep, Vi 0, Vi 0, Vi 0, .slice Ao (List.replicate x.ss.length (-1 : Int)).length co, .slice (some ⟨bT, 0, none⟩) x.ss.length x.ss.length, .slice none 0 0, .slice none 0 0, .bool x.ak] 101 (0, 0))] :: cs) _ := h14
 obtain ⟨G9, hG9, hf9, h9⟩ := h14.freeze (i := 1) rfl
 have hrd := Row.read hro rfl hf9
 obtain ⟨r9, hJ9, hS9⟩ := JobQ.close (W := W) (F := G9) (cs := cs) (x := x.begin) (b := b) (bT := bT) (A := A) (B := B) (C := Ao) (R := none) (N := none) (cap := cap) (cap2 := cap2) (u3 := co) (u4 := 0) (u5 := 0) (ps := List.replicate x.ss.length none) (zt := []) (ft := (0, 0)) (tm := List.replicate (2 * x.ss.length) []) (St.flat (St.swap2 h9) (by
  have e1 : (List.replicate (2 * x.ss.length) ([] : Res)).flatten = [] := by simp
  have e2 : (List.replicate x.ss.length (Value.pointer none)).toArray = ((List.replicate x.ss.length (none : Option Nat)).map pv ++ []).toArray := by simp [pv]
  rw [e2]
  simp only [List.flatten_cons, List.flatten_append, e1, List.nil_append, J.begin, qB, vT, List.length_replicate, List.length_nil, Nat.add_zero]
  exact List.Perm.refl _)) ⟨hA.mono hG9, hB.mono hG9, hrd, .inl rfl, .inl rfl, Free.zero _, TalsR.new _⟩
 exact end0 rfl ⟨rfl, G9, r9, hG9, hJ9, hS9⟩
theorem qlook_c (w : World) {r : Res} {b : Nat} {x : J} (h : St W F (r :: cs) w) (hJ : JobQ F r b x) (hok : x.ok) : Calls prog 66 #[pz b] w fun e w' => e = .returned (.tuple #[]) ∧ ∃ G r', Le F G ∧ JobQ G r' b (x.look) ∧ St W G (r' :: cs) w'  := by
 refine enter (args := [pz b]) func66 rfl rfl rfl ?_
 obtain ⟨bT, A, B, C, R, N, cap, cap2, u3, u4, u5, ps, zt, ft, tm, h, hO⟩ := JobQ.open_ h hJ
 have hlen : x.ts.length = x.cs.length := hok.lt.trans hok.lc.symm
 have hlp := hO.ta.lp
 have hlm := hO.ta.lm
 have hls := (Dg.chk_ok hok.ss).2.1
 have hlc := hok.lc
 have hlt := hok.lt
 have hrl : (readyM x.ss x.cs').length ≤ x.ss.length := ready_len x
 have hse := seen_len (ak := x.ak) hlen
 have hf := few_ok hok.ss
 have hcl := hok.len' 
 refine Wi<|C0 1 rfl<|J0 (H0 (N0 (N0 ?_)))
 have hN0 := h.nilRes
 refine L0<|C0 1 rfl<|Wj<|B3 (σ := Nat × Res × Value) (fun q_ => [(0, pz b), (2, q_.2.2), (3, .int .i64 (q_.1 : Int))]) (fun q_ w => q_.1 ≤ x.cs.length ∧ Row 3 Vi q_.2.1 q_.2.2 ((seen x.ak x.cs x.ts).take q_.1) ∧ St W F (q_.2.1 :: qB x b bT A B C R N cap cap2 u3 u4 u5 ps zt :: qT ps bT zt ft :: (tm ++ cs)) w) (fun q_ => x.cs.length - q_.1) (⟨0, [], .slice none 0 0⟩) (⟨Nat.zero_le _, Row.nil _ _, hN0⟩) ?_
 rintro ⟨i, ro, vo⟩ w1 ⟨hi, hro, hL⟩
 try dsimp only at hi hro hL
 refine W2 [(0, pz b), (2, vo), (3, .int .i64 (i : Int))] ?_
 have htl : ((seen x.ak x.cs x.ts).take i).length = i := by rw [List.length_take]; omega
 obtain ⟨Ao, co, rfl, hco⟩ := hro.val
 refine N0<|Wi<|H1 hL [1] 5 rfl<|I0 (R0 (n := (x.cs.length : Int)) (Y0 underlying33 rfl rfl) rfl) rfl<|C0 1 rfl<|Wa<|Z0 rfl (fun c2 => ?_) (fun c2 => ?_)
 ·try simp only [DD] at c2
  refine U0 (H0 (N0 (M1 (N0 ?_))))
  have hi2 : i < x.cs.length := by omega
  obtain ⟨adC, hC1, hrdC⟩ := rd1 hO.co (by omega)
  refine L0<|H1 hL [1] 5 rfl<|I0 (Z3 hC1 underlying33 inf3 rfl rfl (n := i) rfl (by omega)) rfl<|I0 (I1 (f := Vi) (0 : Int) hL hrdC (n := i) (by omega) underlying3 rfl rfl) rfl<|C0 1 rfl<|Wa<|Z0 rfl (fun c3 => ?_) (fun c3 => ?_)
  ·try simp only [DD] at c3
   refine L0<|C0 3 rfl<|C1 (cn func107) rfl rfl (qcode_c _ (St.perm hL (by classical exact List.perm_iff_count.2 (fun a_ => by simp only [List.count_cons, List.count_append]; omega)) : St W F (qB x b bT A B C R N cap cap2 u3 u4 u5 ps zt :: qT ps bT zt ft :: (tm ++ (ro :: cs))) _) hO (i := i) (by omega) (by omega)) fun w4 h4 => ?_
   replace h4 : St W F (ro :: qB x b bT A B C R N cap cap2 u3 u4 u5 ps zt :: qT ps bT zt ft :: (tm ++ cs)) w4 := St.perm h4 (by classical exact List.perm_iff_count.2 (fun a_ => by simp only [List.count_cons, List.count_append]; omega))
   refine X2 (vs := (([cod x.ak (-1) (x.ts.getD i none)] : List Int)).map Vi) h4 rfl underlying33 inf3 rfl rfl rfl rfl rfl fun lit32 w5 h5=>I3 (ys := ([cod x.ak (-1) (x.ts.getD i none)] : List Int)) 1 h5 rfl rfl rfl rfl underlying33 underlying33 (.inr ⟨_, rfl⟩) inf3 rfl hro (Src.lit h5 0 rfl rfl rfl) rfl rfl (by first | omega | (simp [lA, htl]; done) | (simp [lA, htl]; omega)) (by first | omega | (simp [lA, htl]; done) | (simp [lA, htl]; omega)) ?_
   intro r6 v6 w7 hr6 h7
   simp only [lz, ls] at h7
   replace h7 := h7.drop 0
   simp only [ez, es'] at h7
   obtain ⟨Aq6, cq6, rfl, hcq6⟩ := hr6.val
   refine C0 1 rfl<|J0<|N1<|H0<|L0<|C0 1 rfl<|I0 (V0 rfl rfl (by omega)) rfl<|C0 1 rfl<|J0 ?_
   have e9 := seen_s hlen hi2 (v := cod x.ak (-1) (x.ts.getD i none)) (by rw [c3])
   have hr9 := hr6
   rw [e9] at hr9
   exact F1 (⟨i + 1, r6, (.slice Aq6 _ cq6)⟩ : Nat × Res × Value) (by show x.cs.length - (i + 1) < x.cs.length - i; omega) ⟨rfl, by rw [← e9]; rfl, rfl, trivial⟩ ⟨by show i + 1 ≤ _; omega, hr9, h7⟩
  try simp only [DD] at c3
  refine L0<|H1 hL [1] 6 rfl<|I0 (Z3 hC1 underlying33 inf3 rfl rfl (n := i) rfl (by omega)) rfl<|I0 (I1 (f := Vi) (0 : Int) hL hrdC (n := i) (by omega) underlying3 rfl rfl) rfl<|X2 (vs := (([x.cs.getD i 0] : List Int)).map Vi) hL rfl underlying33 inf3 rfl rfl rfl rfl rfl fun lit42 w8 h8=>I3 (ys := ([x.cs.getD i 0] : List Int)) 1 h8 rfl rfl rfl rfl underlying33 underlying33 (.inr ⟨_, rfl⟩) inf3 rfl hro (Src.lit h8 0 rfl rfl rfl) rfl rfl (by first | omega | (simp [lA, htl]; done) | (simp [lA, htl]; omega)) (by first | omega | (simp [lA, htl]; done) | (simp [lA, htl]; omega)) ?_
  intro r9 v9 w10 hr9 h10
  simp only [lz, ls] at h10
  replace h10 := h10.drop 0
  simp only [ez, es'] at h10
  obtain ⟨Aq9, cq9, rfl, hcq9⟩ := hr9.val
  refine C0 1 rfl<|J0<|N1<|H0<|L0<|C0 1 rfl<|I0 (V0 rfl rfl (by omega)) rfl<|C0 1 rfl<|J0 ?_
  have e9 := seen_s hlen hi2 (v := x.cs.getD i 0) (cod_open c3)
  have hr9 := hr9
  rw [e9] at hr9
  exact F1 (⟨i + 1, r9, (.slice Aq9 _ cq9)⟩ : Nat × Res × Value) (by show x.cs.length - (i + 1) < x.cs.length - i; omega) ⟨rfl, by rw [← e9]; rfl, rfl, trivial⟩ ⟨by show i + 1 ≤ _; omega, hr9, h10⟩
 try simp only [DD] at c2
 refine U1 (B2 (WX.cut (E2 (H0 (N0 ?_)))))
 obtain rfl : i = x.cs.length := by omega
 rw [List.take_of_length_le (by rw [hse]; exact Nat.le_refl _)] at hro ⊢
 obtain ⟨G1, hG1, hf1, hL⟩ := hL.freeze (i := 0) rfl
 have hrdS := Row.read hro rfl hf1
 refine L0<|H1 hL [0] 6 rfl<|V1 (cn func108) rfl rfl (Dg.qsettle_c _ hL (hO.st.mono hG1) hf.1 hf.2 hrdS (by rw [hse]; omega)) ?_
 rintro _ w11 ⟨G2, C2, cc2, hG2, rfl, hcc2, hrd2, h11⟩
 refine ⟨_, rfl, ?_⟩
 rw [Dg.qsettle_eq] at hrd2 hcc2 ⊢
 have hO2 := hO.mono (Le.trans hG1 hG2)
 refine C0 5 rfl<|We<|C0 4 rfl<|O3 h11 0 rfl rfl rfl inf33 rfl rfl ?_
 intro  w12 h12
 try simp only [ZZ] at h12
 refine We<|H1 h12 [0] 6 rfl<|V1 (cn func109) rfl rfl (Dg.qready_c _ (l := x.ss) (codes := x.cs') h12 hO2.st hf.1 hf.2 hrd2 (by rw [hcl]; omega)) ?_
 rintro _ w13 ⟨G3_, A9, cap9, hle2, rfl, hcap9, hrd9, h13⟩
 refine ⟨_, rfl, ?_⟩
 replace hO2 := hO2.mono hle2
 replace hrd2 := hrd2.mono hle2
 refine C0 5 rfl<|Wh<|C0 1 rfl<|Wj<|B3 (σ := Nat × Snap × List (Option Nat) × List Res) (fun q_ => [(0, pz b), (4, .slice C2 x.cs'.length cc2), (6, .slice A9 (readyM x.ss x.cs').length cap9), (8, .int .i64 (q_.1 : Int))]) (fun q_ w => q_.1 ≤ (readyM x.ss x.cs').length ∧ Le G3_ q_.2.1 ∧ TalsR QQ q_.2.1 (opnN x q_.1) q_.2.2.1 q_.2.2.2 ∧ Free ft (q_.2.2.1.length + zt.length) ∧ q_.2.2.1.length = ps.length ∧ St W q_.2.1 (qB x.mid b bT A B C2 R N cap cap2 cc2 u4 u5 ps zt :: qT q_.2.2.1 bT zt ft :: (q_.2.2.2 ++ cs)) w) (fun q_ => (readyM x.ss x.cs').length - q_.1) (⟨0, G3_, ps, tm⟩) (⟨Nat.zero_le _, Le.refl _, hO2.ta, hO.ft, rfl, h13⟩) ?_
 rintro ⟨j, G3, ps3, tm3⟩ w14 ⟨hj, hle3, hta, hft3, hlp3, hL⟩
 try dsimp only at hj hle3 hta hft3 hlp3 hL
 refine W2 [(0, pz b), (4, .slice C2 x.cs'.length cc2), (6, .slice A9 (readyM x.ss x.cs').length cap9), (8, .int .i64 (j : Int))] ?_
 have hO3 : JobOq G3 _ _ _ _ _ _ _ _ _ _ := hO2.mono hle3
 have hco3 := hrd2.mono hle3
 refine N0<|Wi<|C0 2 rfl<|I0 (R0 (n := ((readyM x.ss x.cs').length : Int)) (Y0 underlying33 rfl rfl) rfl) rfl<|C0 1 rfl<|Wa<|Z0 rfl (fun c15 => ?_) (fun c15 => ?_)
 ·try simp only [DD] at c15
  refine U0 (H0 (N0 (M1 (N0 ?_))))
  have hj2 : j < (readyM x.ss x.cs').length := by omega
  have hyr := ready_lt hok hj2
  obtain ⟨ad9, hA9, hrdj⟩ := rd1 (hrd9.mono hle3) (by omega)
  obtain ⟨y, hy⟩ : ∃ y, (readyM x.ss x.cs').getD j 0 = y := ⟨_, rfl⟩
  rw [hy] at hyr
  have hy0 : y = (y.toNat : Int) := by omega
  have hyl : y.toNat < x.ts.length := by omega
  rcases hty : (opnN x j).getD y.toNat none with _ | t
  ·obtain ⟨hp, hm1, hm2⟩ := hta.no y.toNat (by rw [opnN_len]; exact hyl) hty
   refine T2 (C := fun w_ => St W _ _ w_) mixed (by kernel_rfl) (hL.drew)<|K5 [0] 6 rfl<|X0 (fun w_ hC_ => Z3 hA9 underlying33 inf3 rfl rfl (n := j) rfl (by omega)) rfl<|X0 (fun w_ hC_ => R0 (n := y) (I1 (f := Vi) (0 : Int) hC_ hrdj (n := j) (by omega) underlying3 rfl rfl) hy) rfl<|X0 (fun w_ hC_ => W0 underlying99 inf116 rfl rfl (n := y.toNat) hy0 (by omega)) rfl<|X0 (fun w_ hC_ => X1 (u := .pointer none) (I2 (none : Option Nat) hC_ 1 rfl (T3 (E := 116) (f := pv) (b := bT) (fz := ft) (xs := ps3) (zs := zt) rfl hft3) (n := y.toNat) (by omega) underlying116 rfl rfl) (by rw [hp]; rfl)) rfl<|X0 (fun w_ hC_ => Bt (L2 underlying116 rfl rfl) rfl) rfl<|K3 fun w16 h16=>H0<|J1 rfl (rfl)<|V2 h16 h16 (fun s_ => ([15] : List Nat).any (Nat.beq s_)) mixed (by kernel_rfl)<|fun hx =>fun w17 h17=>L3 hx [0, 1, 2, 4, 5] rfl<|Z2 hx 6 (by rfl) (fun w_ => Z3 hA9 underlying33 inf3 rfl rfl (n := j) rfl (by omega)) rfl<|J4 hx 12 [3] [8, 9, 10, 11, 3] [0] rfl<|V3 12 hx 7 (by rfl) (fun w_ hE_ => R0 (n := y) (I1 (f := Vi) (0 : Int) hE_ hrdj (n := j) (by omega) underlying3 rfl rfl) hy) rfl<|J4 hx 12 [12] [12] [0] rfl<|F3 13 h17 (by rfl)<|V1 (cn func63) rfl rfl (Tal.rnew_y _ h17 hO3.nd hok.ns) ?_
   rintro _ w18 ⟨G4, bt, bv, bc, zv, zc, fv, fc, hle4, rfl, h18, hTR4⟩
   refine ⟨_, rfl,J0<|H2<|Z2 hx 14 (by rfl) (fun w_ => X1 (u := .pointer (some ⟨bT, y.toNat, none⟩)) (W0 underlying99 inf116 rfl rfl (n := y.toNat) hy0 (by omega)) (by rw [add_mk, Nat.zero_add])) rfl<|F3 15 (((h18.weak hle4).drop 1).drop 0) (by rfl)<|E4 (n := y.toNat) (u := (some bt : Option Nat)) h18 3 rfl rfl rfl inf116 rfl hft3 (by omega) ?_⟩
   intro  w19 h19
   try simp only [ZZ] at h19
   refine J0<|H2<|H3 (.inl ⟨15, rfl, by kernel_rfl⟩) (by kernel_rfl)<|N1<|H0<|L0<|C0 1 rfl<|I0 (V0 rfl rfl (by omega)) rfl<|C0 1 rfl<|J0 ?_
   have hta4 := hta.mono (fun _ _ _ _ => QQ.mono hle4)
   have hta5 := hta4.put (i := y.toNat) (by rw [opnN_len]; exact hyl) (RR.two hTR4)
   have e9 : opnN x (j + 1) = (opnN x j).set y.toNat (some (T.new x.ns)) := by
    rw [opnN_s hj2, hy]
    unfold opn1
    rw [hty]; rfl
   have hlm3 := hta.lm
   rw [opnN_len] at hlm3
   have hS7 := St.two2 h19 hm1 hm2
   exact F1 (⟨j + 1, G4, _, _⟩ : Nat × Snap × List (Option Nat) × List Res) (by show _ - (j + 1) < _ - j; omega) ⟨rfl, rfl, rfl, rfl, trivial⟩ ⟨by show j + 1 ≤ _; omega, Le.trans hle3 hle4, (by show TalsR QQ G4 (opnN x (j + 1)) _ _; rw [e9]; exact hta5), (by show Free ft _; rw [List.length_set]; exact hft3), (by show (List.set _ _ _).length = _; rw [List.length_set]; exact hlp3), hS7⟩
  obtain ⟨bt, q1, q2, hp, hm1, hm2, bv, bc, zv, zc, fv, fc, hTR⟩ := hta.ye y.toNat t hty
  refine T2 (C := fun w_ => St W _ _ w_) mixed (by kernel_rfl) (hL.drew)<|K5 [0] 6 rfl<|X0 (fun w_ hC_ => Z3 hA9 underlying33 inf3 rfl rfl (n := j) rfl (by omega)) rfl<|X0 (fun w_ hC_ => R0 (n := y) (I1 (f := Vi) (0 : Int) hC_ hrdj (n := j) (by omega) underlying3 rfl rfl) hy) rfl<|X0 (fun w_ hC_ => W0 underlying99 inf116 rfl rfl (n := y.toNat) hy0 (by omega)) rfl<|X0 (fun w_ hC_ => X1 (u := pz bt) (I2 (none : Option Nat) hC_ 1 rfl (T3 (E := 116) (f := pv) (b := bT) (fz := ft) (xs := ps3) (zs := zt) rfl hft3) (n := y.toNat) (by omega) underlying116 rfl rfl) (by rw [hp]; rfl)) rfl<|X0 (fun w_ hC_ => Bf (L2 underlying116 rfl rfl) rfl) rfl<|K3 fun w20 h20=>H0<|E1 rfl (rfl)<|U0<|N1<|H0<|L0<|C0 1 rfl<|I0 (V0 rfl rfl (by omega)) rfl<|C0 1 rfl<|J0 ?_
  have e9 : opnN x (j + 1) = opnN x j := by
   rw [opnN_s hj2, hy]
   unfold opn1
   rw [hty]; rfl
  exact F1 (⟨j + 1, G3, ps3, tm3⟩ : Nat × Snap × List (Option Nat) × List Res) (by show _ - (j + 1) < _ - j; omega) ⟨rfl, rfl, rfl, rfl, trivial⟩ ⟨by show j + 1 ≤ _; omega, hle3, (by show TalsR QQ G3 (opnN x (j + 1)) _ _; rw [e9]; exact hta), hft3, hlp3, h20⟩
 try simp only [DD] at c15
 refine U1 (B2 (WX.cut (E2 (H0 (N0 ?_)))))
 obtain rfl : j = (readyM x.ss x.cs').length := by omega
 have hleF := Le.trans hG1 (Le.trans hG2 (Le.trans hle2 hle3))
 have hta : TalsR QQ G3 x.mid.ts ps3 tm3 := by
  have e9 : opnN x (readyM x.ss x.cs').length = x.mid.ts := by unfold opnN; rw [List.take_of_length_le (Nat.le_refl _)]; rfl
  rwa [e9] at hta
 refine L0<|H1 hL [0] 6 rfl<|C1 (cn func110) rfl rfl (Dg.qover_c _ (l := x.ss) (codes := x.cs') hL hO3.st hf.1 hf.2 (hrd2.mono hle3) (by rw [hcl]; omega)) fun w21 h21 =>C0 5 rfl<|J0 (H0 (N0 ?_))
 rcases ov_cases x with hov | ⟨hov, hak⟩ | ⟨hov, hak, hcd⟩ | ⟨hov, hak, hcd⟩
 ·refine L0<|I0 (Bf (C3 rfl) hov) rfl<|C0 6 rfl<|E5 rfl rfl rfl<|E5 rfl rfl rfl<|C0 2 rfl<|Wa<|E1 rfl (rfl)<|Wi<|I0 (Bf (C3 rfl) hov) rfl<|Wa<|E1 rfl (rfl)<|U0 ?_
  obtain ⟨r9, hJ9, hS9⟩ := JobQ.close (x := x.mid) (ps := ps3) (tm := tm3) (C := C2) (u3 := cc2) (show St W _ (qB x.mid b bT A B C2 R N cap cap2 cc2 u4 u5 ps3 zt :: qT ps3 bT zt ft :: (tm3 ++ _)) _ from by rw [qB_len (show ps3.length = ps.length by omega)]; exact h21) ⟨hO3.nd, hO3.st, hco3, hO3.rd, hO3.gn, hft3, hta⟩
  exact end0 rfl ⟨rfl, G3, r9, hleF, (look_a hov) ▸ hJ9, hS9⟩
 ·refine L0<|I0 (Bt (C3 rfl) hov) rfl<|C0 4 rfl<|Q0 rfl<|I0 (Bt (K0 underlying4 rfl rfl (h21.ocell (i := 0) rfl rfl)) hak) rfl<|C0 5 rfl<|Wa<|J1 rfl (rfl) ?_
  obtain ⟨r9, hJ9, hS9⟩ := JobQ.close (x := x.mid) (ps := ps3) (tm := tm3) (C := C2) (u3 := cc2) (show St W _ (qB x.mid b bT A B C2 R N cap cap2 cc2 u4 u5 ps3 zt :: qT ps3 bT zt ft :: (tm3 ++ _)) _ from by rw [qB_len (show ps3.length = ps.length by omega)]; exact h21) ⟨hO3.nd, hO3.st, hco3, hO3.rd, hO3.gn, hft3, hta⟩
  refine L0<|C0 2 rfl<|C1 (cn func111) rfl rfl (qend_c _ hS9 hJ9 1 (overM x.ss x.cs').1) fun w22 ⟨r8, hJ8, h22⟩ =>J0<|end0 rfl ⟨rfl, G3, r8, hleF, (look_b hov (.inl hak)) ▸ hJ8, h22⟩
 ·refine L0<|I0 (Bt (C3 rfl) hov) rfl<|C0 4 rfl<|Q0 rfl<|I0 (Bf (K0 underlying4 rfl rfl (h21.ocell (i := 0) rfl rfl)) hak) rfl<|C0 2 rfl<|Q0 rfl<|I0 (Bt (J2 rfl rfl) (by rw [dN hcd]; rfl)) rfl<|C0 2 rfl<|Wa<|J1 rfl (rfl) ?_
  obtain ⟨r9, hJ9, hS9⟩ := JobQ.close (x := x.mid) (ps := ps3) (tm := tm3) (C := C2) (u3 := cc2) (show St W _ (qB x.mid b bT A B C2 R N cap cap2 cc2 u4 u5 ps3 zt :: qT ps3 bT zt ft :: (tm3 ++ _)) _ from by rw [qB_len (show ps3.length = ps.length by omega)]; exact h21) ⟨hO3.nd, hO3.st, hco3, hO3.rd, hO3.gn, hft3, hta⟩
  refine L0<|C0 2 rfl<|C1 (cn func111) rfl rfl (qend_c _ hS9 hJ9 1 (overM x.ss x.cs').1) fun w23 ⟨r8, hJ8, h23⟩ =>J0<|end0 rfl ⟨rfl, G3, r8, hleF, (look_b hov (.inr hcd)) ▸ hJ8, h23⟩
 refine L0<|I0 (Bt (C3 rfl) hov) rfl<|C0 4 rfl<|Q0 rfl<|I0 (Bf (K0 underlying4 rfl rfl (h21.ocell (i := 0) rfl rfl)) hak) rfl<|C0 2 rfl<|Q0 rfl<|I0 (Bf (J2 rfl rfl) (by rw [dA hcd]; rfl)) rfl<|C0 2 rfl<|Wa<|E1 rfl (rfl)<|Wi<|I0 (Bt (C3 rfl) hov) rfl<|Wa<|J1 rfl (rfl) ?_
 obtain ⟨r9, hJ9, hS9⟩ := JobQ.close (x := x.mid) (ps := ps3) (tm := tm3) (C := C2) (u3 := cc2) (show St W _ (qB x.mid b bT A B C2 R N cap cap2 cc2 u4 u5 ps3 zt :: qT ps3 bT zt ft :: (tm3 ++ _)) _ from by rw [qB_len (show ps3.length = ps.length by omega)]; exact h21) ⟨hO3.nd, hO3.st, hco3, hO3.rd, hO3.gn, hft3, hta⟩
 refine L0<|C0 1 rfl<|C1 (cn func111) rfl rfl (qend_c _ hS9 hJ9 0 0) fun w24 ⟨r8, hJ8, h24⟩ =>J0<|end0 rfl ⟨rfl, G3, r8, hleF, (look_d hov (by rintro (h0 | h0); rw [hak] at h0; cases h0; exact h0 hcd)) ▸ hJ8, h24⟩
theorem rd_cases (x : J) (a : Int) : (¬ a = 0 ∧ x.ep < 3) ∨ (¬ a = 0 ∧ ¬ x.ep < 3) ∨ a = 0 := by omega
theorem St.keep2 {W w : World} {F : Snap} {cs tm : List Res} {a b : Res} (h : St W F (a :: b :: (tm ++ cs)) w) : St W F (a :: cs) w := h.subl (by
 simp only [List.flatten_cons, List.flatten_append]
 refine (List.Sublist.refl _).append ?_
 iterate 2 refine List.sublist_append_of_sublist_right ?_
 exact List.Sublist.refl _)
theorem at3_ {z a b : Res} {tm cs : List Res} {k : Nat} {r : Res} (h : tm[k]? = some r) : (z :: a :: b :: (tm ++ cs))[k + 3]? = some r := at2_ (a := a) (b := b) h
theorem set3_ {z a b : Res} {tm cs : List Res} {k : Nat} {r : Res} (hk : k < tm.length) : (z :: a :: b :: (tm ++ cs)).set (k + 3) r = z :: a :: b :: (tm.set k r ++ cs) := by
 simp only [List.set_cons_succ]
 rw [List.set_append_left _ _ hk]
theorem qput_vote {W w : World} {F : Snap} {z a b q r : Res} {tm cs : List Res} {i : Nat} (h : St W F ((z :: a :: b :: (tm ++ cs)).set (2 * i + 3) r) w) (hm : tm[2 * i + 1]? = some q) (hk : 2 * i + 1 < tm.length) : St W F (z :: a :: b :: ((tm.set (2 * i) r).set (2 * i + 1) q ++ cs)) w := by
 rw [set3_ (by omega)] at h
 have e1 : (tm.set (2 * i) r).set (2 * i + 1) q = tm.set (2 * i) r := set_same (d := []) (by rw [List.length_set]; exact hk) (by rw [gD, List.getElem?_set_ne (by omega), hm]; rfl)
 rw [e1]
 exact h
theorem qput_exit {W w : World} {F : Snap} {z a b q r : Res} {tm cs : List Res} {i : Nat} (h : St W F ((z :: a :: b :: (tm ++ cs)).set (2 * i + 1 + 3) r) w) (hm : tm[2 * i]? = some q) (hk : 2 * i + 1 < tm.length) : St W F (z :: a :: b :: ((tm.set (2 * i) q).set (2 * i + 1) r ++ cs)) w := by
 rw [set3_ (by omega)] at h
 have e1 : tm.set (2 * i) q = tm := set_same (d := []) (by omega) (by rw [gD, hm]; rfl)
 rw [e1]
 exact h
theorem qready_c (w : World) {r : Res} {b : Nat} {x : J} (h : St W F (r :: cs) w) (hJ : JobQ F r b x) (node arg : Int) (hok : x.ok) (hn : node ∈ x.ns) (hrl : x.rd.length ≤ 16) : Calls prog 67 #[pz b, Vi node, Vi arg] w fun e w' => e = .returned (.tuple #[]) ∧ ∃ G r', Le F G ∧ JobQ G r' b (x.started node arg) ∧ St W G (r' :: cs) w'  := by
 refine enter (args := [pz b, Vi node, Vi arg]) func67 rfl rfl rfl ?_
 obtain ⟨bT, A, B, C, R, N, cap, cap2, u3, u4, u5, ps, zt, ft, tm, h, hO⟩ := JobQ.open_ h hJ
 have hls := (Dg.chk_ok hok.ss).2.1
 have hns := Tal.oks_len hok.ns.2
 have hep := hok.ep
 refine N0 (N0 ?_)
 rcases rd_cases x arg with ⟨hb0, hb1⟩ | ⟨hb0, hb1⟩ | hb0
 ·refine L0<|C0 1 rfl<|I0 (Bt (J2 rfl rfl) (by rw [dN hb0]; rfl)) rfl<|H1 h [0] 5 rfl<|Q0 rfl<|I0 (Bt (Q1 rfl rfl) (dA hb1)) rfl<|C0 1 rfl<|Wa<|J1 rfl (rfl)<|N0 ?_
  obtain ⟨r9, hJ9, hS9⟩ := JobQ.close (x := x) (show St W F (qB (x) b bT A B C R N cap cap2 u3 u4 u5 ps zt :: qT ps bT zt ft :: (tm ++ _)) _ from h) hO
  refine L0<|C0 1 rfl<|C1 (cn func111) rfl rfl (qend_c _ hS9 hJ9 2 0) fun w1 ⟨r8, hJ8, h1⟩ =>Wg<|ret0 rfl ⟨rfl, F, r8, Le.refl F, (started_c1 hb0 hb1) ▸ hJ8, h1⟩
 ·refine L0<|C0 1 rfl<|I0 (Bt (J2 rfl rfl) (by rw [dN hb0]; rfl)) rfl<|H1 h [0] 5 rfl<|Q0 rfl<|I0 (Bf (Q1 rfl rfl) (dN hb1)) rfl<|C0 1 rfl<|Wa<|E1 rfl (rfl)<|U0<|H0<|N0<|Wi<|C0 1 rfl<|I0 (Bt (J2 rfl rfl) (by rw [dN hb0]; rfl)) rfl<|Wa<|J1 rfl (rfl)<|N0 ?_
  obtain ⟨r9, hJ9, hS9⟩ := JobQ.close (x := x) (show St W F (qB (x) b bT A B C R N cap cap2 u3 u4 u5 ps zt :: qT ps bT zt ft :: (tm ++ _)) _ from h) hO
  refine L0<|C0 1 rfl<|C1 (cn func111) rfl rfl (qend_c _ hS9 hJ9 1 0) fun w2 ⟨r8, hJ8, h2⟩ =>Wg<|ret0 rfl ⟨rfl, F, r8, Le.refl F, (started_d (x := x) (n := node) hb0 hb1) ▸ hJ8, h2⟩
 refine L0<|C0 1 rfl<|I0 (Bf (J2 rfl rfl) (by rw [dA hb0]; rfl)) rfl<|C0 7 rfl<|Wa<|E1 rfl (rfl)<|U0<|H0<|N0<|Wi<|C0 1 rfl<|I0 (Bf (J2 rfl rfl) (by rw [dA hb0]; rfl)) rfl<|Wa<|E1 rfl (rfl)<|Wk<|H1 h [0] 6 rfl<|V1 (cn func112) rfl rfl (qwith_c _ node h hO.rd (by omega)) ?_
 rintro _ w3 ⟨G9, A9, c9, hG9, rfl, hrd9, h3⟩
 refine ⟨_, rfl,C0 2 rfl<|O3 h3 0 rfl rfl rfl inf33 rfl rfl ?_⟩
 intro  w4 h4
 try simp only [ZZ] at h4
 refine Wb<|V2 h4 h4 (fun s_ => ([] : List Nat).any (Nat.beq s_)) mixed (by kernel_rfl)<|fun hx =>fun w5 h5=>J4 hx 12 [3] [0, 1, 2, 5, 6, 7, 8, 3] [0] rfl<|Z2 hx 4 (by rfl) (fun w_ => R0 (n := ((with_ x.rd node).length : Int)) (Y0 underlying33 rfl rfl) rfl) rfl<|J4 hx 12 [9] [9] [0] rfl<|Z2 hx 10 (by rfl) (fun w_ => R0 (n := (x.ns.length : Int)) (Y0 underlying33 rfl rfl) rfl) rfl<|L3 hx [11] rfl<|H3 (.inr h5) (by kernel_rfl)<|H0<|Z0 rfl (fun c6 => ?_) (fun c6 => ?_)
 ·try simp only [DD] at c6
  refine Wi<|C0 3 rfl<|O3 h5 0 rfl rfl rfl inf3 rfl rfl ?_
  intro  w7 h7
  try simp only [ZZ] at h7
  refine J0 (H0 ?_)
  have heq : (x.hasR node).rd.length = x.ns.length := by show (with_ x.rd node).length = _; omega
  obtain ⟨r9, hJ9, hS9⟩ := JobQ.close (x := (x.hasR node).run) (show St W G9 (qB ((x.hasR node).run) b bT A B C A9 N cap cap2 u3 c9 u5 ps zt :: qT ps bT zt ft :: (tm ++ _)) _ from h7) ⟨(hO.mono hG9).nd, (hO.mono hG9).st, (hO.mono hG9).co, hrd9, (hO.mono hG9).gn, (hO.mono hG9).ft, (hO.mono hG9).ta⟩
  refine L0<|C0 1 rfl<|C1 (cn func66) rfl rfl (qlook_c _ hS9 hJ9 (hok.hasR hn).run) fun w8 ⟨G8, r8, hle8, hJ8, h8⟩ =>J0<|end0 rfl ⟨rfl, G8, r8, Le.trans hG9 hle8, (started_a hb0 heq) ▸ hJ8, h8⟩
 try simp only [DD] at c6
 refine U0 ?_
 obtain ⟨r9, hJ9, hS9⟩ := JobQ.close (x := x.hasR node) (show St W G9 (qB (x.hasR node) b bT A B C A9 N cap cap2 u3 c9 u5 ps zt :: qT ps bT zt ft :: (tm ++ _)) _ from h5) ⟨(hO.mono hG9).nd, (hO.mono hG9).st, (hO.mono hG9).co, hrd9, (hO.mono hG9).gn, (hO.mono hG9).ft, (hO.mono hG9).ta⟩
 exact end0 rfl ⟨rfl, G9, r9, hG9, (started_b hb0 (fun hh => c6 (congrArg (fun n : Nat => (n : Int)) hh))) ▸ hJ9, hS9⟩
theorem qgone_c (w : World) {r : Res} {b : Nat} {x : J} (h : St W F (r :: cs) w) (hJ : JobQ F r b x) (node : Int) (hok : x.ok) (hgl : x.gn.length ≤ 16) : Calls prog 69 #[pz b, Vi node] w fun e w' => e = .returned (.tuple #[]) ∧ ∃ G r', Le F G ∧ JobQ G r' b (x.left node) ∧ St W G (r' :: cs) w'  := by
 refine enter (args := [pz b, Vi node]) func69 rfl rfl rfl ?_
 obtain ⟨bT, A, B, C, R, N, cap, cap2, u3, u4, u5, ps, zt, ft, tm, h, hO⟩ := JobQ.open_ h hJ
 have hls := (Dg.chk_ok hok.ss).2.1
 have hns := Tal.oks_len hok.ns.2
 have hep := hok.ep
 refine Wi<|H1 h [0] 6 rfl<|V1 (cn func112) rfl rfl (qwith_c _ node h hO.gn (by omega)) ?_
 rintro _ w1 ⟨G9, A9, c9, hG9, rfl, hrd9, h1⟩
 refine ⟨_, rfl,C0 2 rfl<|O3 h1 0 rfl rfl rfl inf33 rfl rfl ?_⟩
 intro  w2 h2
 try simp only [ZZ] at h2
 refine Wb<|N0<|V2 h2 h2 (fun s_ => ([] : List Nat).any (Nat.beq s_)) mixed (by kernel_rfl)<|fun hx =>fun w3 h3=>J4 hx 12 [3] [0, 1, 2, 5, 6, 7, 8, 3] [0] rfl<|Z2 hx 4 (by rfl) (fun w_ => R0 (n := ((with_ x.gn node).length : Int)) (Y0 underlying33 rfl rfl) rfl) rfl<|J4 hx 12 [9] [9] [0] rfl<|Z2 hx 10 (by rfl) (fun w_ => R0 (n := (x.ns.length : Int)) (Y0 underlying33 rfl rfl) rfl) rfl<|L3 hx [11] rfl<|H3 (.inr h3) (by kernel_rfl)<|H0<|Z0 rfl (fun c4 => ?_) (fun c4 => ?_)
 ·try simp only [DD] at c4
  refine O1 ?_
  obtain ⟨r9, hJ9, hS9⟩ := JobQ.close (x := x.hasG node) (show St W G9 (qB (x.hasG node) b bT A B C R A9 cap cap2 u3 u4 c9 ps zt :: qT ps bT zt ft :: (tm ++ _)) _ from h3) ⟨(hO.mono hG9).nd, (hO.mono hG9).st, (hO.mono hG9).co, (hO.mono hG9).rd, hrd9, (hO.mono hG9).ft, (hO.mono hG9).ta⟩
  exact ret0 rfl ⟨rfl, G9, r9, hG9, (left_a (x := x) (n := node) (by omega)) ▸ hJ9, hS9⟩
 try simp only [DD] at c4
 refine U0<|H0<|N0<|Wi<|H1 h3 [0] 5 rfl<|Wa<|Z0 rfl (fun c5 => ?_) (fun c5 => ?_)
 ·try simp only [DD] at c5
  refine Wi<|H1 h3 [0] 4 rfl<|I0 (V0 rfl rfl (by omega)) rfl<|C0 2 rfl<|O3 h3 0 rfl rfl rfl inf3 rfl rfl ?_
  intro  w6 h6
  try simp only [ZZ] at h6
  refine J0 (H0 (N0 ?_))
  replace h6 : St W G9 ([(b, .cells #[.slice A x.ns.length cap, .slice B x.ss.length cap2, Vi x.id, Vi (x.ep + 1), Vi x.ph, Vi x.ft, Vi x.cd, .slice C x.cs.length u3, vT ps bT zt, .slice R x.rd.length u4, .slice A9 (with_ x.gn node).length c9, .bool x.ak] 101 (0, 0))] :: qT ps bT zt ft :: (tm ++ cs)) w6 := h6
  replace h6 := St.keep2 h6
  refine L0<|C0 1 rfl<|C1 (cn func65) rfl rfl (qbegin_c (x := { x.hasG node with ep := x.ep + 1 }) _ h6 (hO.nd.mono hG9) (hO.st.mono hG9) hls.2) fun w7 ⟨G8, r8, hle8, hJ8, h7⟩ =>Wg<|ret0 rfl ⟨rfl, G8, r8, Le.trans hG9 hle8, (left_b (x := x) (n := node) (by omega) c5) ▸ hJ8, h7⟩
 try simp only [DD] at c5
 refine U0<|H0<|L0<|C0 3 rfl<|O3 h3 0 rfl rfl rfl inf3 rfl rfl ?_
 intro  w8 h8
 try simp only [ZZ] at h8
 refine J0 ?_
 obtain ⟨r9, hJ9, hS9⟩ := JobQ.close (x := { x.hasG node with ph := 3 }) (show St W G9 (qB ({ x.hasG node with ph := 3 }) b bT A B C R A9 cap cap2 u3 u4 c9 ps zt :: qT ps bT zt ft :: (tm ++ _)) _ from h8) ⟨(hO.mono hG9).nd, (hO.mono hG9).st, (hO.mono hG9).co, (hO.mono hG9).rd, hrd9, (hO.mono hG9).ft, (hO.mono hG9).ta⟩
 exact end0 rfl ⟨rfl, G9, r9, hG9, (left_d (x := x) (n := node) (by omega) c5) ▸ hJ9, hS9⟩
theorem qsaid_c (w : World) {r : Res} {b : Nat} {x : J} (h : St W F (r :: cs) w) (hJ : JobQ F r b x) (m : M) (hok : x.ok) (hst : 0 ≤ m.st) (hkd : m.k = 3 ∨ m.k = 6) : Calls prog 68 #[pz b, m.val] w fun e w' => e = .returned (.bool (x.said m).1) ∧ ∃ G r', Le F G ∧ JobQ G r' b (x.said m).2 ∧ St W G (r' :: cs) w'  := by
 refine enter (args := [pz b, .agg #[Vi m.k, Vi m.f, Vi m.t, Vi m.j, Vi m.ep, Vi m.st, Vi m.ar, .string (bs m.tx)]]) func68 rfl rfl rfl ?_
 obtain ⟨bT, A, B, C, R, N, cap, cap2, u3, u4, u5, ps, zt, ft, tm, h, hO⟩ := JobQ.open_ h hJ
 have hls := (Dg.chk_ok hok.ss).2.1
 have hns := Tal.oks_len hok.ns.2
 have hep := hok.ep
 have hlp := hO.ta.lp
 have hlm := hO.ta.lm
 have hm0 : m.st = (m.st.toNat : Int) := by omega
 refine Wi<|J3 rfl h rfl fun b3 w1 h1=>C0 1 rfl<|J0 (H0 (N0 (N0 ?_)))
 rcases said_cases x m with hA | ⟨hA, hts⟩ | ⟨t, hA, hts⟩
 ·refine V2 h1 h1 (fun s_ => ([] : List Nat).any (Nat.beq s_)) mixed (by kernel_rfl)<|fun hx =>fun w2 h2=>J4 hx 12 [1, 5] [0, 2, 3, 4, 1, 5] [0, 1] rfl<|Z2 hx 6 (by rfl) (fun w_ => R0 (n := (x.ts.length : Int)) (Y0 underlying99 rfl rfl) (congrArg (fun n : Nat => (n : Int)) hlp)) rfl<|Z2 hx 7 (by rfl) (fun w_ => Bt (T1 rfl rfl) (dA hA)) rfl<|H3 (.inr h2) (by kernel_rfl)<|H0<|J1 rfl (rfl)<|Wi<|C0 1 rfl<|J0 (H0 (O1 ?_))
  replace h2 := h2.drop 0
  obtain ⟨r9, hJ9, hS9⟩ := JobQ.close (x := x) h2 hO
  refine ret1 rfl rfl ?_
  rw [said_a hA]
  exact ⟨rfl, F, r9, Le.refl F, hJ9, hS9⟩
 ·have hi3 : m.st.toNat < x.ts.length := by omega
  obtain ⟨hp, hm1, hm2⟩ := hO.ta.no _ hi3 hts
  refine V2 h1 h1 (fun s_ => ([] : List Nat).any (Nat.beq s_)) mixed (by kernel_rfl)<|fun hx =>fun w3 h3=>J4 hx 12 [1, 5] [0, 2, 3, 4, 1, 5] [0, 1] rfl<|Z2 hx 6 (by rfl) (fun w_ => R0 (n := (x.ts.length : Int)) (Y0 underlying99 rfl rfl) (congrArg (fun n : Nat => (n : Int)) hlp)) rfl<|Z2 hx 7 (by rfl) (fun w_ => Bf (T1 rfl rfl) (dN hA)) rfl<|H3 (.inr h3) (by kernel_rfl)<|H0<|E1 rfl (rfl)<|U0<|H0<|N0<|V2 h3 h3 (fun s_ => ([] : List Nat).any (Nat.beq s_)) mixed (by kernel_rfl)<|fun hx =>fun w4 h4=>J4 hx 12 [3, 5] [0, 1, 2, 4, 3, 5] [1, 0] rfl<|Z2 hx 6 (by rfl) (fun w_ => W0 underlying99 inf116 rfl rfl (n := m.st.toNat) hm0 (by omega)) rfl<|V3 12 hx 7 (by rfl) (fun w_ hE_ => X1 (u := .pointer none) (I2 (none : Option Nat) hE_ 2 rfl (T3 (E := 116) (f := pv) (b := bT) (fz := ft) (xs := ps) (zs := zt) rfl hO.ft) (n := m.st.toNat) (by omega) underlying116 rfl rfl) (by rw [hp]; rfl)) rfl<|L3 hx [8] rfl<|H3 (.inr h4) (by kernel_rfl)<|H0<|N0<|Wi<|C0 1 rfl<|I0 (L2 underlying116 rfl rfl) rfl<|Wa<|J1 rfl (rfl)<|Wi<|C0 1 rfl<|J0 (H0 (O1 ?_))
  replace h4 := h4.drop 0
  obtain ⟨r9, hJ9, hS9⟩ := JobQ.close (x := x) h4 hO
  refine ret1 rfl rfl ?_
  rw [said_b hA hts]
  exact ⟨rfl, F, r9, Le.refl F, hJ9, hS9⟩
 have hi3 : m.st.toNat < x.ts.length := by omega
 obtain ⟨bt, q1, q2, hp, hm1, hm2, bv, bc, zv, zc, fv, fc, hTR⟩ := hO.ta.ye _ t hts
 have hmq1 := hm1.trans hTR.iv
 have hmq2 := hm2.trans hTR.ic
 refine V2 h1 h1 (fun s_ => ([] : List Nat).any (Nat.beq s_)) mixed (by kernel_rfl)<|fun hx =>fun w5 h5=>J4 hx 12 [1, 5] [0, 2, 3, 4, 1, 5] [0, 1] rfl<|Z2 hx 6 (by rfl) (fun w_ => R0 (n := (x.ts.length : Int)) (Y0 underlying99 rfl rfl) (congrArg (fun n : Nat => (n : Int)) hlp)) rfl<|Z2 hx 7 (by rfl) (fun w_ => Bf (T1 rfl rfl) (dN hA)) rfl<|H3 (.inr h5) (by kernel_rfl)<|H0<|E1 rfl (rfl)<|U0<|H0<|N0<|V2 h5 h5 (fun s_ => ([] : List Nat).any (Nat.beq s_)) mixed (by kernel_rfl)<|fun hx =>fun w6 h6=>J4 hx 12 [3, 5] [0, 1, 2, 4, 3, 5] [1, 0] rfl<|Z2 hx 6 (by rfl) (fun w_ => W0 underlying99 inf116 rfl rfl (n := m.st.toNat) hm0 (by omega)) rfl<|V3 12 hx 7 (by rfl) (fun w_ hE_ => X1 (u := pz bt) (I2 (none : Option Nat) hE_ 2 rfl (T3 (E := 116) (f := pv) (b := bT) (fz := ft) (xs := ps) (zs := zt) rfl hO.ft) (n := m.st.toNat) (by omega) underlying116 rfl rfl) (by rw [hp]; rfl)) rfl<|L3 hx [8] rfl<|H3 (.inr h6) (by kernel_rfl)<|H0<|N0<|Wi<|C0 1 rfl<|I0 (L2 underlying116 rfl rfl) rfl<|Wa<|E1 rfl (rfl)<|U0 (H0 (N0 (N0 ?_)))
 rcases hkd with hk3 | hk6
 ·refine L0<|H1 h6 [0] 2 rfl<|I0 (Bt (L1 rfl rfl) (dA hk3)) rfl<|H1 h6 [0, 0] 7 rfl<|Q0 rfl<|C1 (cn func113) rfl rfl (Tal.rvote_r _ _ _ h6 (RR.at2 hTR (at3_ hm1) (at3_ hm2) (by omega))) fun w7 ⟨hTR9, h7⟩ => ?_
  have hta9 := hO.ta.put (i := m.st.toNat) hi3 (RR.two hTR9)
  rw [set_same (d := none) (by omega) hp] at hta9
  replace h7 := qput_vote h7 hmq2 (by omega)
  refine C0 2 rfl<|Wa<|Z0 rfl (fun c8 => ?_) (fun c8 => ?_)
  ·try simp only [DD] at c8
   refine N0 ?_
   have hbad := c8
   refine L0<|C0 1 rfl<|J0 (H0 (O1 ?_))
   replace h7 := h7.drop 0
   obtain ⟨r9, hJ9, hS9⟩ := JobQ.close (x := x) (show St W F (qB (x) b bT A B C R N cap cap2 u3 u4 u5 ps zt :: qT ps bT zt ft :: (((tm.set (2 * m.st.toNat) [(bv, .cells ((((t.vote m.f (decide (m.ar = 1))).2.vs.map Tal.eV).map Vi ++ zv)).toArray 3 fv)]).set (2 * m.st.toNat + 1) [(bc, .cells ((((t.vote m.f (decide (m.ar = 1))).2.cs.map Tal.eC).map Vi ++ zc)).toArray 3 fc)]) ++ _)) _ from h7) ⟨hO.nd, hO.st, hO.co, hO.rd, hO.gn, hO.ft, (by rwa [show x.ts.set m.st.toNat (some (t.vote m.f (decide (m.ar = 1))).2) = x.ts from by rw [show (t.vote m.f (decide (m.ar = 1))).2 = t from (says_v hk3) ▸ says_no ((says_v hk3) ▸ hbad), set_same (d := none) hi3 hts]] at hta9)⟩
   refine ret1 rfl rfl ?_
   rw [said_c1 hA hts ((says_v hk3) ▸ hbad)]
   exact ⟨rfl, F, r9, Le.refl F, hJ9, hS9⟩
  try simp only [DD] at c8
  refine U0 (H0 (N0 (N0 ?_)))
  have hk6 : ¬ m.k = 6 := by omega
  have hgood := c8
  refine L0<|H1 h7 [0] 2 rfl<|I0 (Bf (L1 rfl rfl) (dN hk6)) rfl<|C0 9 rfl<|Wa<|E1 rfl (rfl)<|U0 (H0 (N0 ?_))
  have HEQ9 := says_v hk3 (t := t)
  replace h7 := h7.drop 0
  obtain ⟨r9, hJ9, hS9⟩ := JobQ.close (x := x.put m.st.toNat (t.vote m.f (decide (m.ar = 1))).2) (show St W F (qB (x.put m.st.toNat (t.vote m.f (decide (m.ar = 1))).2) b bT A B C R N cap cap2 u3 u4 u5 ps zt :: qT ps bT zt ft :: (((tm.set (2 * m.st.toNat) [(bv, .cells ((((t.vote m.f (decide (m.ar = 1))).2.vs.map Tal.eV).map Vi ++ zv)).toArray 3 fv)]).set (2 * m.st.toNat + 1) [(bc, .cells ((((t.vote m.f (decide (m.ar = 1))).2.cs.map Tal.eC).map Vi ++ zc)).toArray 3 fc)]) ++ _)) _ from h7) ⟨hO.nd, hO.st, hO.co, hO.rd, hO.gn, hO.ft, hta9⟩
  refine L0<|C0 1 rfl<|C1 (cn func66) rfl rfl (qlook_c _ hS9 hJ9 (hok.put (i := m.st.toNat) (by rw [← HEQ9]; exact (hok.tk (hts ▸ getD_mem hi3)).says m))) fun w9 ⟨G8, r8, hle8, hJ8, h9⟩ =>We<|C0 1 rfl<|Wg<|ret1 rfl rfl ?_
  rw [said_d hA hts (by rw [says_v hk3]; exact hgood)]
  exact ⟨rfl, G8, r8, hle8, (says_v hk3) ▸ hJ8, h9⟩
 have hk3 : ¬ m.k = 3 := by omega
 refine L0<|H1 h6 [0] 2 rfl<|I0 (Bf (L1 rfl rfl) (dN hk3)) rfl<|C0 10 rfl<|Wa<|E1 rfl (rfl)<|U0 (H0 (N0 (N0 ?_)))
 skip
 refine L0<|H1 h6 [0] 2 rfl<|I0 (Bt (L1 rfl rfl) (dA hk6)) rfl<|H1 h6 [0, 0] 6 rfl<|Q0 rfl<|C1 (cn func114) rfl rfl (Tal.rexit_r _ _ _ h6 (RR.at2 hTR (at3_ hm1) (at3_ hm2) (by omega))) fun w10 ⟨hTR9, h10⟩ => ?_
 have hta9 := hO.ta.put (i := m.st.toNat) hi3 (RR.two hTR9)
 rw [set_same (d := none) (by omega) hp] at hta9
 replace h10 := qput_exit h10 hmq1 (by omega)
 rw [show (t.exit m.f m.ar).2.vs = t.vs from by unfold Tal.T.exit; split <;> rfl] at hta9
 refine C0 2 rfl<|Wa<|Z0 rfl (fun c11 => ?_) (fun c11 => ?_)
 ·try simp only [DD] at c11
  refine N0 ?_
  have hbad := c11
  refine L0<|C0 1 rfl<|J0 (H0 (O1 ?_))
  replace h10 := h10.drop 0
  obtain ⟨r9, hJ9, hS9⟩ := JobQ.close (x := x) (show St W F (qB (x) b bT A B C R N cap cap2 u3 u4 u5 ps zt :: qT ps bT zt ft :: (((tm.set (2 * m.st.toNat) [(bv, .cells (((t.vs.map Tal.eV).map Vi ++ zv)).toArray 3 fv)]).set (2 * m.st.toNat + 1) [(bc, .cells ((((t.exit m.f m.ar).2.cs.map Tal.eC).map Vi ++ zc)).toArray 3 fc)]) ++ _)) _ from h10) ⟨hO.nd, hO.st, hO.co, hO.rd, hO.gn, hO.ft, (by rwa [show x.ts.set m.st.toNat (some (t.exit m.f m.ar).2) = x.ts from by rw [show (t.exit m.f m.ar).2 = t from (says_e hk3) ▸ says_no ((says_e hk3) ▸ hbad), set_same (d := none) hi3 hts]] at hta9)⟩
  refine ret1 rfl rfl ?_
  rw [said_c1 hA hts ((says_e hk3) ▸ hbad)]
  exact ⟨rfl, F, r9, Le.refl F, hJ9, hS9⟩
 try simp only [DD] at c11
 refine U0 (H0 (N0 ?_))
 have hgood := c11
 have HEQ9 := says_e hk3 (t := t)
 replace h10 := h10.drop 0
 obtain ⟨r9, hJ9, hS9⟩ := JobQ.close (x := x.put m.st.toNat (t.exit m.f m.ar).2) (show St W F (qB (x.put m.st.toNat (t.exit m.f m.ar).2) b bT A B C R N cap cap2 u3 u4 u5 ps zt :: qT ps bT zt ft :: (((tm.set (2 * m.st.toNat) [(bv, .cells (((t.vs.map Tal.eV).map Vi ++ zv)).toArray 3 fv)]).set (2 * m.st.toNat + 1) [(bc, .cells ((((t.exit m.f m.ar).2.cs.map Tal.eC).map Vi ++ zc)).toArray 3 fc)]) ++ _)) _ from h10) ⟨hO.nd, hO.st, hO.co, hO.rd, hO.gn, hO.ft, hta9⟩
 refine L0<|C0 1 rfl<|C1 (cn func66) rfl rfl (qlook_c _ hS9 hJ9 (hok.put (i := m.st.toNat) (by rw [← HEQ9]; exact (hok.tk (hts ▸ getD_mem hi3)).says m))) fun w12 ⟨G8, r8, hle8, hJ8, h12⟩ =>We<|C0 1 rfl<|Wg<|ret1 rfl rfl ?_
 rw [said_d hA hts (by rw [says_e hk3]; exact hgood)]
 exact ⟨rfl, G8, r8, hle8, (says_e hk3) ▸ hJ8, h12⟩
theorem inf98 : Inf prog 98 (.pointer none) 1 8 := by unfold Inf; kernel_rfl
def J.once (x : J) : Prop := x.rd.Nodup ∧ x.gn.Nodup
theorem len_sub {α : Type} [DecidableEq α] : ∀ {l m : List α}, l.Nodup → (∀ a ∈ l, a ∈ m) → l.length ≤ m.length
 |[], _, _, _ => Nat.zero_le _
 |a :: l, m, hn, hs => by
  have hn' := List.nodup_cons.1 hn
  have h1 := len_sub (l := l) (m := m.erase a) hn'.2 (fun b hb => (List.mem_erase_of_ne (fun (e : b = a) => hn'.1 (e ▸ hb))).2 (hs b (List.mem_cons_of_mem _ hb)))
  have h2 := List.length_erase_of_mem (hs a List.mem_cons_self)
  have h3 := List.length_pos_of_mem (hs a List.mem_cons_self)
  simp only [List.length_cons]
  omega
theorem J.once.few {x : J} (h : x.once) (hok : x.ok) : x.rd.length ≤ 16 ∧ x.gn.length ≤ 16 := by
 have h16 := Tal.oks_len hok.ns.2
 have h1 := len_sub h.1 hok.rn
 have h2 := len_sub h.2 hok.gn
 omega
theorem with_once {l : List Int} {n : Int} (h : l.Nodup) : (with_ l n).Nodup := by
 unfold with_
 split
 ·exact h
 rename_i hn
 exact List.nodup_append.2 ⟨h, by simp, fun a ha b hb e => hn (by simp at hb; rw [← hb, ← e]; exact ha)⟩
theorem look_rg (x : J) : x.look.rd = x.rd ∧ x.look.gn = x.gn := by
 unfold J.look J.end_
 split
 ·exact ⟨rfl, rfl⟩
 split <;> exact ⟨rfl, rfl⟩
theorem J.once.look {x : J} (h : x.once) : x.look.once := ⟨by rw [(look_rg x).1]; exact h.1, by rw [(look_rg x).2]; exact h.2⟩
theorem J.once.cancel {x : J} (h : x.once) : x.cancel.once := by
 unfold J.cancel
 split
 ·exact J.once.look (x := x.ask) h
 exact h
theorem J.once.started {x : J} (h : x.once) (n a : Int) : (x.started n a).once := by
 unfold J.started
 split
 ·split
  ·exact J.once.look (x := (x.hasR n).run) ⟨with_once h.1, h.2⟩
  exact ⟨with_once h.1, h.2⟩
 split <;> exact h
theorem J.once.said {x : J} (h : x.once) (m : M) : (x.said m).2.once := by
 unfold J.said
 split
 ·exact h
 split
 ·exact h
 split
 ·exact h
 exact J.once.look (x := x.put _ _) h
theorem J.once.left {x : J} (h : x.once) (n : Int) : (x.left n).once := by
 unfold J.left
 split
 ·exact ⟨h.1, with_once h.2⟩
 split
 ·exact ⟨List.nodup_nil, List.nodup_nil⟩
 exact ⟨h.1, with_once h.2⟩
theorem J.once.hear {x : J} (h : x.once) (m : M) : (x.hear m).2.once := by
 unfold J.hear
 split
 ·exact h.started _ _
 split
 ·exact h.said m
 split
 ·exact h.left _
 exact h
theorem once_set {js : List J} (h : ∀ x ∈ js, x.once) {i : Nat} {y : J} (hy : y.once) : ∀ x ∈ js.set i y, x.once := fun x hx => by
 rcases List.mem_or_eq_of_mem_set hx with hx | rfl
 ·exact h x hx
 exact hy
theorem once_can {js : List J} (h : ∀ x ∈ js, x.once) (id : Int) : ∀ x ∈ (canM js id).2, x.once := by
 unfold canM
 split
 ·exact h
 split
 ·exact h
 rename_i x hx
 split
 ·exact h
 exact once_set h (h x (mG hx)).cancel
theorem once_del {js : List J} (h : ∀ x ∈ js, x.once) (l : List UInt8) : ∀ x ∈ (delM js l).2, x.once := by
 unfold delM
 split
 ·exact h
 split
 ·exact h
 split
 ·exact h
 rename_i x hx
 split
 ·exact once_set h ((h x (mG hx)).hear _)
 exact h
theorem once_sub {js : List J} (h : ∀ x ∈ js, x.once) (ns : List Int) (ss : List S) : ∀ x ∈ (subM js ns ss).2, x.once := by
 unfold subM
 split
 ·intro x hx
  rcases List.mem_append.1 hx with hx | hx
  ·exact h x hx
  obtain rfl := List.mem_singleton.1 hx
  exact ⟨List.nodup_nil, List.nodup_nil⟩
 exact h
structure CtlOq (F : Snap) (js : List J) (qs : List Nat) (rj : List Res) : Prop where
 lq : qs.length = js.length
 lr : rj.length = js.length
 at_ : ∀ i x, js[i]? = some x → ∃ r, rj[i]? = some r ∧ JobQ F r (qs.getD i 0) x
theorem CtlOq.mono {F G : Snap} (hle : Le F G) {js : List J} {qs : List Nat} {rj : List Res} (h : CtlOq F js qs rj) : CtlOq G js qs rj := ⟨h.lq, h.lr, fun i x hx => by
 obtain ⟨r, h1, h2⟩ := h.at_ i x hx
 exact ⟨r, h1, h2.mono hle⟩⟩
theorem CtlOq.set {F : Snap} {js : List J} {qs : List Nat} {rj : List Res} (h : CtlOq F js qs rj) {k : Nat} {x : J} {r : Res} (hk : k < js.length) (hJ : JobQ F r (qs.getD k 0) x) : CtlOq F (js.set k x) qs (rj.set k r) := by
 have hlr := h.lr
 refine ⟨by rw [List.length_set]; exact h.lq, by rw [List.length_set, List.length_set]; exact h.lr, fun i y hy => ?_⟩
 by_cases e : k = i
 ·subst e
  rw [List.getElem?_set_self hk] at hy
  obtain rfl := Option.some.inj hy
  exact ⟨r, by rw [List.getElem?_set_self (by omega)], hJ⟩
 rw [List.getElem?_set_ne e] at hy
 obtain ⟨q, h1, h2⟩ := h.at_ i y hy
 exact ⟨q, by rw [List.getElem?_set_ne e]; exact h1, h2⟩
abbrev kQ (b : Nat) (key : List UInt8) (A : Option Addr) (n cap : Nat) : Res := [(b, .cells #[.string (bs key), .slice A n cap] 30 (0, 0))]
def CtlQ (F : Snap) (r : Res) (b : Nat) (key : List UInt8) (js : List J) : Prop := ∃ A cap rP qs rj, r = (kQ b key A qs.length cap :: rP :: rj).flatten ∧ Row 98 pj rP (.slice A qs.length cap) qs ∧ CtlOq F js qs rj
theorem CtlQ.mono {F G : Snap} (hle : Le F G) {r : Res} {b : Nat} {key : List UInt8} {js : List J} (h : CtlQ F r b key js) : CtlQ G r b key js := by
 obtain ⟨A, cap, rP, qs, rj, h1, h2, h3⟩ := h
 exact ⟨A, cap, rP, qs, rj, h1, h2, h3.mono hle⟩
theorem CtlQ.open_ {W w : World} {F : Snap} {cs : List Res} {r : Res} {b : Nat} {key : List UInt8} {js : List J} (h : St W F (r :: cs) w) (hC : CtlQ F r b key js) : ∃ A cap rP qs rj, St W F (kQ b key A qs.length cap :: rP :: (rj ++ cs)) w ∧ Row 98 pj rP (.slice A qs.length cap) qs ∧ CtlOq F js qs rj := by
 obtain ⟨A, cap, rP, qs, rj, rfl, h2, h3⟩ := hC
 exact ⟨A, cap, rP, qs, rj, St.flat h (by simp), h2, h3⟩
theorem CtlQ.close {W w : World} {F : Snap} {cs rj : List Res} {b cap : Nat} {key : List UInt8} {A : Option Addr} {rP : Res} {qs : List Nat} {js : List J} (h : St W F (kQ b key A qs.length cap :: rP :: (rj ++ cs)) w) (hr : Row 98 pj rP (.slice A qs.length cap) qs) (hO : CtlOq F js qs rj) : ∃ r, CtlQ F r b key js ∧ St W F (r :: cs) w :=
 ⟨_, ⟨A, cap, rP, qs, rj, rfl, hr, hO⟩, St.flat h (by simp)⟩
theorem qfind_lo (w : World) {b cap : Nat} {key : List UInt8} {A : Option Addr} {rP : Res} {qs : List Nat} (id : Int) (h : St W F ([(b, .cells #[.string (bs key), .slice A qs.length cap] 30 (0, 0))] :: rP :: cs) w) (hr : Row 98 pj rP (.slice A qs.length cap) qs) (hq : qs.length ≤ 16) (hid : id < 1) : Calls prog 50 #[pz b, Vi id] w fun e w' => e = .returned (.pointer none) ∧ St W F ([(b, .cells #[.string (bs key), .slice A qs.length cap] 30 (0, 0))] :: rP :: cs) w'  := by
 refine enter (args := [pz b, Vi id]) func50 rfl rfl rfl<|Wi<|C0 1 rfl<|Wh<|C0 1 rfl<|I0 (Bt (Q1 rfl rfl) (dA hid)) rfl<|C0 9 rfl<|Wa<|J1 rfl (rfl)<|Wi<|C0 1 rfl<|Wg<|ret1 rfl rfl ⟨rfl, h⟩
theorem qfind_hi (w : World) {b cap : Nat} {key : List UInt8} {A : Option Addr} {rP : Res} {qs : List Nat} (id : Int) (h : St W F ([(b, .cells #[.string (bs key), .slice A qs.length cap] 30 (0, 0))] :: rP :: cs) w) (hr : Row 98 pj rP (.slice A qs.length cap) qs) (hq : qs.length ≤ 16) (hid : ¬ id < 1) (hid2 : (qs.length : Int) < id) : Calls prog 50 #[pz b, Vi id] w fun e w' => e = .returned (.pointer none) ∧ St W F ([(b, .cells #[.string (bs key), .slice A qs.length cap] 30 (0, 0))] :: rP :: cs) w'  := by
 refine enter (args := [pz b, Vi id]) func50 rfl rfl rfl<|Wi<|C0 1 rfl<|Wh<|C0 1 rfl<|I0 (Bf (Q1 rfl rfl) (dN hid)) rfl<|H1 h [0] 6 rfl<|Q0 rfl<|I0 (R0 (n := (qs.length : Int)) (Y0 underlying28 rfl rfl) rfl) rfl<|Q0 rfl<|I0 (Bt (Y1 rfl rfl) (dA hid2)) rfl<|C0 1 rfl<|Wa<|J1 rfl (rfl)<|Wi<|C0 1 rfl<|Wg<|ret1 rfl rfl ⟨rfl, h⟩
theorem qfind_at (w : World) {b cap : Nat} {key : List UInt8} {A : Option Addr} {rP : Res} {qs : List Nat} (id : Int) (h : St W F ([(b, .cells #[.string (bs key), .slice A qs.length cap] 30 (0, 0))] :: rP :: cs) w) (hr : Row 98 pj rP (.slice A qs.length cap) qs) (hq : qs.length ≤ 16) (hid : ¬ id < 1) (hid2 : ¬ (qs.length : Int) < id) : Calls prog 50 #[pz b, Vi id] w fun e w' => e = .returned (pz (qs.getD (id - 1).toNat 0)) ∧ St W F ([(b, .cells #[.string (bs key), .slice A qs.length cap] 30 (0, 0))] :: rP :: cs) w'  := by
 refine enter (args := [pz b, Vi id]) func50 rfl rfl rfl<|Wi<|C0 1 rfl<|Wh<|C0 1 rfl<|I0 (Bf (Q1 rfl rfl) (dN hid)) rfl<|H1 h [0] 6 rfl<|Q0 rfl<|I0 (R0 (n := (qs.length : Int)) (Y0 underlying28 rfl rfl) rfl) rfl<|Q0 rfl<|I0 (Bf (Y1 rfl rfl) (dN hid2)) rfl<|C0 1 rfl<|Wa<|E1 rfl (rfl)<|U0 (H0 (N0 ?_))
 obtain ⟨ad, rfl⟩ := Row.some hr (by omega)
 refine L0<|H1 h [0] 5 rfl<|I0 (N3 rfl rfl (by omega)) rfl<|I0 (W0 underlying28 inf98 rfl rfl (n := (id - 1).toNat) (by omega) (by omega)) rfl<|I0 (X1 (u := pz (qs.getD (id - 1).toNat 0)) (I2 (0 : Nat) h 1 rfl hr (n := (id - 1).toNat) (by omega) underlying98 rfl rfl) rfl) rfl<|C0 1 rfl<|Wg<|ret1 rfl rfl ⟨rfl, h⟩
theorem qfind_no (w : World) {b cap : Nat} {key : List UInt8} {A : Option Addr} {rP : Res} {qs : List Nat} (id : Int) (h : St W F ([(b, .cells #[.string (bs key), .slice A qs.length cap] 30 (0, 0))] :: rP :: cs) w) (hr : Row 98 pj rP (.slice A qs.length cap) qs) (hq : qs.length ≤ 16) {js : List J} (hl : qs.length = js.length) (hat : at_ js id = none) : Calls prog 50 #[pz b, Vi id] w fun e w' => e = .returned (.pointer none) ∧ St W F ([(b, .cells #[.string (bs key), .slice A qs.length cap] 30 (0, 0))] :: rP :: cs) w' := by
 rcases at_no hat with h1 | ⟨h1, h2⟩
 ·exact qfind_lo w id h hr hq h1
 exact qfind_hi w id h hr hq (by omega) (by omega)
theorem qfind_ye (w : World) {b cap : Nat} {key : List UInt8} {A : Option Addr} {rP : Res} {qs : List Nat} (id : Int) (h : St W F ([(b, .cells #[.string (bs key), .slice A qs.length cap] 30 (0, 0))] :: rP :: cs) w) (hr : Row 98 pj rP (.slice A qs.length cap) qs) (hq : qs.length ≤ 16) {js : List J} {k : Nat} (hl : qs.length = js.length) (hat : at_ js id = some k) : Calls prog 50 #[pz b, Vi id] w fun e w' => e = .returned (pz (qs.getD k 0)) ∧ St W F ([(b, .cells #[.string (bs key), .slice A qs.length cap] 30 (0, 0))] :: rP :: cs) w' := by
 obtain ⟨h1, h2, rfl, _⟩ := at_yes hat
 exact qfind_at w id h hr hq (by omega) (by omega)
theorem qdec_m (w : World) (l : List UInt8) (h : St W F cs w) (hl : l.length ≤ 100000) : Calls prog 15 #[.string (bs l)] w fun r w' => ∃ m ec, decB l = (m, ec) ∧ r = .returned (.tuple #[.agg #[Vi m.k, Vi m.f, Vi m.t, Vi m.j, Vi m.ep, Vi m.st, Vi m.ar, .string (bs m.tx)], Vi ec]) ∧ St W F cs w' := (Wir.qdec_c w l h (Nat.le_trans hl (by decide))).mono fun r w' ⟨h1, h2⟩ => ⟨(decB l).1, (decB l).2, rfl, h1, h2⟩
theorem qcancel_c (w : World) {r : Res} {b : Nat} {key : List UInt8} {js : List J} (h : St W F (r :: cs) w) (hC : CtlQ F r b key js) (hok : ∀ x ∈ js, x.ok) (hnd : ∀ x ∈ js, x.once) (hjl : js.length ≤ 16) (id : Int) : Calls prog 30 #[pz b, Vi id] w fun e w' => e = .returned (Vi (canM js id).1) ∧ ∃ G r', Le F G ∧ CtlQ G r' b key ((canM js id).2) ∧ St W G (r' :: cs) w'  := by
 refine enter (args := [pz b, Vi id]) func30 rfl rfl rfl ?_
 obtain ⟨A0, cap0, rP, qs, rj, h, hr, hK⟩ := CtlQ.open_ h hC
 have hlq := hK.lq
 have hlr := hK.lr
 refine Wi<|C0 1 rfl<|J0 (H0 (N0 ?_))
 rcases hat : at_ js id with _ | k
 ·refine L0<|C0 2 rfl<|C1 (cn func50) rfl rfl (qfind_no _ (id) h hr (by omega) (js := js) hlq hat) fun w1 h1 =>C0 1 rfl<|Wh<|C0 1 rfl<|I0 (L2 underlying98 rfl rfl) rfl<|Wa<|J1 rfl (rfl)<|Wi<|C0 1 rfl<|J0 (H0 (O1 ?_))
  obtain ⟨r7, hC7, hS7⟩ := CtlQ.close h1 hr hK
  refine ret1 rfl rfl ?_
  rw [can_no hat]
  exact ⟨rfl, F, r7, Le.refl F, hC7, hS7⟩
 refine L0<|C0 2 rfl<|C1 (cn func50) rfl rfl (qfind_ye _ (id) h hr (by omega) (js := js) hlq hat) fun w2 h2 => ?_
 obtain ⟨_, _, _, hkl, x, hxk⟩ := at_yes hat
 obtain ⟨rk, hrk, hJ⟩ := hK.at_ k x hxk
 have hokx := hok x (mG hxk)
 have hndx := (hnd x (mG hxk)).few hokx
 replace h2 := take2 h2 hrk
 obtain ⟨bT, A, B, C, R, N, cap, cap2, u3, u4, u5, ps, zt, ft, tm, h2, hO⟩ := JobQ.open_ h2 hJ
 refine C0 1 rfl<|Wh<|C0 1 rfl<|I0 (L2 underlying98 rfl rfl) rfl<|Wa<|E1 rfl (rfl)<|U0<|H0<|N0<|Wi<|H1 h2 [0] 5 rfl<|Wa<|Z0 rfl (fun c3 => ?_) (fun c3 => ?_)
 ·try simp only [DD] at c3
  refine Wi<|C0 1 rfl<|J0 (H0 (O1 ?_))
  obtain ⟨r9, hJ9, hS9⟩ := JobQ.close (x := x) (show St W _ (qB (x) (qs.getD k 0) bT A B C R N cap cap2 u3 u4 u5 ps zt :: qT ps bT zt ft :: (tm ++ _)) _ from h2) ⟨hO.nd, hO.st, hO.co, hO.rd, hO.gn, hO.ft, hO.ta⟩
  replace hS9 := give2 hS9 (by omega)
  obtain ⟨r7, hC7, hS7⟩ := CtlQ.close hS9 hr ((hK.mono (Le.refl F)).set hkl hJ9)
  rw [set_same (d := x) hkl (by rw [gD, hxk]; rfl)] at hC7
  refine ret1 rfl rfl ?_
  rw [can_hi hat hxk c3]
  exact ⟨rfl, F, r7, Le.refl F, hC7, hS7⟩
 try simp only [DD] at c3
 refine Wk<|C0 3 rfl<|O3 h2 0 rfl rfl rfl inf4 rfl rfl ?_
 intro  w4 h4
 try simp only [ZZ] at h4
 refine Wh<|H1 h4 [0] 5 rfl<|Wa<|Z0 rfl (fun c5 => ?_) (fun c5 => ?_)
 ·try simp only [DD] at c5
  obtain ⟨r9, hJ9, hS9⟩ := JobQ.close (x := x.ask) (show St W _ (qB (x.ask) (qs.getD k 0) bT A B C R N cap cap2 u3 u4 u5 ps zt :: qT ps bT zt ft :: (tm ++ _)) _ from h4) ⟨hO.nd, hO.st, hO.co, hO.rd, hO.gn, hO.ft, hO.ta⟩
  refine L0<|C0 1 rfl<|C1 (cn func66) rfl rfl (qlook_c _ hS9 hJ9 hokx.ask) fun w6 ⟨G9, r8, hle9, hJ8, h6⟩ =>We<|C0 1 rfl<|J0 (H0 (O1 ?_))
  replace h6 := give2 h6 (by omega)
  obtain ⟨r7, hC7, hS7⟩ := CtlQ.close h6 hr ((hK.mono hle9).set hkl hJ8)
  refine ret1 rfl rfl ?_
  rw [can_ok hat hxk (by omega), show x.cancel = x.ask.look from if_pos c5]
  exact ⟨rfl, G9, r7, hle9, hC7, hS7⟩
 try simp only [DD] at c5
 refine Wk<|C0 1 rfl<|J0 (H0 (O1 ?_))
 obtain ⟨r9, hJ9, hS9⟩ := JobQ.close (x := x.ask) (show St W _ (qB (x.ask) (qs.getD k 0) bT A B C R N cap cap2 u3 u4 u5 ps zt :: qT ps bT zt ft :: (tm ++ _)) _ from h4) ⟨hO.nd, hO.st, hO.co, hO.rd, hO.gn, hO.ft, hO.ta⟩
 replace hS9 := give2 hS9 (by omega)
 obtain ⟨r7, hC7, hS7⟩ := CtlQ.close hS9 hr ((hK.mono (Le.refl F)).set hkl hJ9)
 refine ret1 rfl rfl ?_
 rw [can_ok hat hxk (by omega), show x.cancel = x.ask from if_neg c5]
 exact ⟨rfl, F, r7, Le.refl F, hC7, hS7⟩
theorem qdeliver_c (w : World) {r : Res} {b : Nat} {key : List UInt8} {js : List J} (h : St W F (r :: cs) w) (hC : CtlQ F r b key js) (hok : ∀ x ∈ js, x.ok) (hnd : ∀ x ∈ js, x.once) (hjl : js.length ≤ 16) (l : List UInt8) (hl : l.length ≤ 100000) : Calls prog 31 #[pz b, .string (bs l)] w fun e w' => e = .returned (.bool (delM js l).1) ∧ ∃ G r', Le F G ∧ CtlQ G r' b key ((delM js l).2) ∧ St W G (r' :: cs) w'  := by
 refine enter (args := [pz b, .string (bs l)]) func31 rfl rfl rfl ?_
 obtain ⟨A0, cap0, rP, qs, rj, h, hr, hK⟩ := CtlQ.open_ h hC
 have hlq := hK.lq
 have hlr := hK.lr
 refine Wi<|C0 1 rfl<|We<|C0 1 rfl<|V1 (cn func15) rfl rfl (qdec_m _ l h hl) ?_
 rintro _ w1 ⟨m, ec, hdec, rfl, h1⟩
 refine ⟨_, rfl,C0 3 rfl<|O2 rfl h1 inf42 fun b5 w2 h2=>F4 h2 0 rfl rfl rfl inf42 rfl rfl rfl ?_⟩
 intro  w3 h3
 try simp only [ZZ] at h3
 refine C0 1 rfl<|J0 (H0 (N0 ?_))
 obtain ⟨G0, hG0, hfr0, h3⟩ := h3.freeze (i := 0) rfl
 have hfz5 : G0 b5 = some (.cells #[Vi m.k, Vi m.f, Vi m.t, Vi m.j, Vi m.ep, Vi m.st, Vi m.ar, .string (bs m.tx)] 42 (0, 0)) := hfr0 _ List.mem_cons_self
 replace hK := hK.mono hG0
 rcases dl_cases (js := js) hdec with ⟨hec, hat⟩ | ⟨hec, hat⟩ | ⟨k, hec, hat, hmay⟩
 ·refine L0<|C0 2 rfl<|I0 (K0 underlying3 rfl rfl (h3.cell (cellB hfz5 rfl))) rfl<|C1 (cn func50) rfl rfl (qfind_no _ (m.j) h3 hr (by omega) (js := js) hlq hat) fun w4 h4 =>C0 1 rfl<|Wh<|C0 1 rfl<|I0 (Bt (J2 rfl rfl) (by rw [dN hec]; rfl)) rfl<|C0 4 rfl<|Wa<|J1 rfl (rfl)<|Wi<|C0 1 rfl<|J0 (H0 (O1 ?_))
  obtain ⟨r7, hC7, hS7⟩ := CtlQ.close h4 hr hK
  refine ret1 rfl rfl ?_
  rw [del_e hdec hec]
  exact ⟨rfl, G0, r7, hG0, hC7, hS7⟩
 ·refine L0<|C0 2 rfl<|I0 (K0 underlying3 rfl rfl (h3.cell (cellB hfz5 rfl))) rfl<|C1 (cn func50) rfl rfl (qfind_no _ (m.j) h3 hr (by omega) (js := js) hlq hat) fun w5 h5 =>C0 1 rfl<|Wh<|C0 1 rfl<|I0 (Bf (J2 rfl rfl) (by rw [dA hec]; rfl)) rfl<|C0 2 rfl<|Q0 rfl<|I0 (Bt (L2 underlying98 rfl rfl) rfl) rfl<|C0 1 rfl<|Wa<|J1 rfl (rfl)<|Wi<|C0 1 rfl<|J0 (H0 (O1 ?_))
  obtain ⟨r7, hC7, hS7⟩ := CtlQ.close h5 hr hK
  refine ret1 rfl rfl ?_
  rw [del_no hdec hec hat]
  exact ⟨rfl, G0, r7, hG0, hC7, hS7⟩
 refine L0<|C0 2 rfl<|I0 (K0 underlying3 rfl rfl (h3.cell (cellB hfz5 rfl))) rfl<|C1 (cn func50) rfl rfl (qfind_ye _ (m.j) h3 hr (by omega) (js := js) hlq hat) fun w6 h6 => ?_
 obtain ⟨_, _, _, hkl, x, hxk⟩ := at_yes hat
 obtain ⟨rk, hrk, hJ⟩ := hK.at_ k x hxk
 have hokx := hok x (mG hxk)
 have hndx := (hnd x (mG hxk)).few hokx
 replace h6 := take2 h6 hrk
 obtain ⟨bT, A, B, C, R, N, cap, cap2, u3, u4, u5, ps, zt, ft, tm, h6, hO⟩ := JobQ.open_ h6 hJ
 refine C0 1 rfl<|Wh<|C0 1 rfl<|I0 (Bf (J2 rfl rfl) (by rw [dA hec]; rfl)) rfl<|C0 2 rfl<|Q0 rfl<|I0 (Bf (L2 underlying98 rfl rfl) rfl) rfl<|C0 1 rfl<|Wa<|E1 rfl (rfl)<|U0 (H0 (N0 (N0 ?_)))
 have hns16 := Tal.oks_len hokx.ns.2
 rcases mine_cases x m with hb | ⟨hb0, hb⟩ | ⟨hb0, hb1, hb⟩ | hmine
 ·have hbad : ¬ x.mine m := fun hm => hb hm.1
  refine V2 h6 h6 (fun s_ => ([] : List Nat).any (Nat.beq s_)) mixed (by kernel_rfl)<|fun hx =>fun w7 h7=>L3 hx [0] rfl<|V3 12 hx 1 (by rfl) (fun w_ hE_ => K0 underlying3 rfl rfl (hE_.cell (cellB hfz5 rfl))) rfl<|Z2 hx 2 (by rfl) (fun w_ => Bt (J2 rfl rfl) (by rw [dN hb]; rfl)) rfl<|L3 hx [3, 4, 5, 6, 7, 8, 9, 10, 11, 12, 13, 14, 15, 16, 17, 18, 19, 20, 21, 22] rfl<|H3 (.inr h7) (by kernel_rfl)<|H0<|J1 rfl (rfl)<|Wi<|C0 1 rfl<|J0 (H0 (O1 ?_))
  obtain ⟨r9, hJ9, hS9⟩ := JobQ.close (x := x) (show St W _ (qB (x) (qs.getD k 0) bT A B C R N cap cap2 u3 u4 u5 ps zt :: qT ps bT zt ft :: (tm ++ _)) _ from h7) ⟨hO.nd, hO.st, hO.co, hO.rd, hO.gn, hO.ft, hO.ta⟩
  replace hS9 := give2 hS9 (by omega)
  obtain ⟨r7, hC7, hS7⟩ := CtlQ.close hS9 hr ((hK.mono (Le.refl G0)).set hkl hJ9)
  rw [set_same (d := x) hkl (by rw [gD, hxk]; rfl)] at hC7
  refine ret1 rfl rfl ?_
  rw [del_mine hdec hec hat hxk hbad]
  exact ⟨rfl, G0, r7, hG0, hC7, hS7⟩
 ·have hbad : ¬ x.mine m := fun hm => hb hm.2.1
  refine V2 h6 h6 (fun s_ => ([] : List Nat).any (Nat.beq s_)) mixed (by kernel_rfl)<|fun hx =>fun w8 h8=>L3 hx [0] rfl<|V3 12 hx 1 (by rfl) (fun w_ hE_ => K0 underlying3 rfl rfl (hE_.cell (cellB hfz5 rfl))) rfl<|Z2 hx 2 (by rfl) (fun w_ => Bf (J2 rfl rfl) (by rw [dA hb0]; rfl)) rfl<|L3 hx [3, 4, 6, 7, 8] rfl<|Y4 (j := 3) (b := false) 12 hx 5 (by rfl) ⟨_, _, rfl, rfl, rfl⟩ (fun w_ hE_ => K0 underlying3 rfl rfl (hE_.cell (cellB hfz5 rfl))) rfl<|J4 hx 12 [9] [9] [0] rfl<|M4 (j := 3) (b := false) hx 10 (by rfl) ⟨_, _, rfl, rfl, rfl⟩ (fun w_ => Bt (J2 rfl rfl) (by rw [dN hb]; rfl)) rfl<|L3 hx [11, 12, 13, 14, 15, 16, 17, 18, 19, 20, 21, 22] rfl<|H3 (.inr h8) (by kernel_rfl)<|H0<|J1 rfl (rfl)<|Wi<|C0 1 rfl<|J0 (H0 (O1 ?_))
  obtain ⟨r9, hJ9, hS9⟩ := JobQ.close (x := x) (show St W _ (qB (x) (qs.getD k 0) bT A B C R N cap cap2 u3 u4 u5 ps zt :: qT ps bT zt ft :: (tm ++ _)) _ from h8) ⟨hO.nd, hO.st, hO.co, hO.rd, hO.gn, hO.ft, hO.ta⟩
  replace hS9 := give2 hS9 (by omega)
  obtain ⟨r7, hC7, hS7⟩ := CtlQ.close hS9 hr ((hK.mono (Le.refl G0)).set hkl hJ9)
  rw [set_same (d := x) hkl (by rw [gD, hxk]; rfl)] at hC7
  refine ret1 rfl rfl ?_
  rw [del_mine hdec hec hat hxk hbad]
  exact ⟨rfl, G0, r7, hG0, hC7, hS7⟩
 ·have hbad : ¬ x.mine m := fun hm => hb hm.2.2
  refine V2 h6 h6 (fun s_ => ([] : List Nat).any (Nat.beq s_)) mixed (by kernel_rfl)<|fun hx =>fun w9 h9=>L3 hx [0] rfl<|V3 12 hx 1 (by rfl) (fun w_ hE_ => K0 underlying3 rfl rfl (hE_.cell (cellB hfz5 rfl))) rfl<|Z2 hx 2 (by rfl) (fun w_ => Bf (J2 rfl rfl) (by rw [dA hb0]; rfl)) rfl<|L3 hx [3, 4, 6, 7, 8] rfl<|Y4 (j := 3) (b := false) 12 hx 5 (by rfl) ⟨_, _, rfl, rfl, rfl⟩ (fun w_ hE_ => K0 underlying3 rfl rfl (hE_.cell (cellB hfz5 rfl))) rfl<|J4 hx 12 [9] [9] [0] rfl<|M4 (j := 3) (b := false) hx 10 (by rfl) ⟨_, _, rfl, rfl, rfl⟩ (fun w_ => Bf (J2 rfl rfl) (by rw [dA hb1]; rfl)) rfl<|J4 hx 12 [17] [11, 12, 13, 14, 15, 16, 18, 17] [0] rfl<|Y4 (j := 12) (b := false) 12 hx 19 (by rfl) ⟨_, _, rfl, rfl, rfl⟩ (fun w_ hE_ => K0 underlying3 rfl rfl (hE_.cell (cellB hfz5 rfl))) rfl<|F3 20 h9 (by rfl)<|Q0 rfl<|C1 (cn func46) rfl rfl (qin_c _ m.f h9 hO.nd (by omega)) fun w10 h10 =>J0<|H2<|M4 (j := 12) (b := false) hx 21 (by rfl) ⟨_, _, rfl, rfl, rfl⟩ (fun w_ => Bt (R1 rfl) (by rw [dN hb]; rfl)) rfl<|L3 hx [22] rfl<|H3 (.inr h10) (by kernel_rfl)<|H0<|J1 rfl (rfl)<|Wi<|C0 1 rfl<|J0 (H0 (O1 ?_))
  obtain ⟨r9, hJ9, hS9⟩ := JobQ.close (x := x) (show St W _ (qB (x) (qs.getD k 0) bT A B C R N cap cap2 u3 u4 u5 ps zt :: qT ps bT zt ft :: (tm ++ _)) _ from h10) ⟨hO.nd, hO.st, hO.co, hO.rd, hO.gn, hO.ft, hO.ta⟩
  replace hS9 := give2 hS9 (by omega)
  obtain ⟨r7, hC7, hS7⟩ := CtlQ.close hS9 hr ((hK.mono (Le.refl G0)).set hkl hJ9)
  rw [set_same (d := x) hkl (by rw [gD, hxk]; rfl)] at hC7
  refine ret1 rfl rfl ?_
  rw [del_mine hdec hec hat hxk hbad]
  exact ⟨rfl, G0, r7, hG0, hC7, hS7⟩
 refine V2 h6 h6 (fun s_ => ([] : List Nat).any (Nat.beq s_)) mixed (by kernel_rfl)<|fun hx =>fun w11 h11=>L3 hx [0] rfl<|V3 12 hx 1 (by rfl) (fun w_ hE_ => K0 underlying3 rfl rfl (hE_.cell (cellB hfz5 rfl))) rfl<|Z2 hx 2 (by rfl) (fun w_ => Bf (J2 rfl rfl) (by rw [dA hmine.1]; rfl)) rfl<|L3 hx [3, 4, 6, 7, 8] rfl<|Y4 (j := 3) (b := false) 12 hx 5 (by rfl) ⟨_, _, rfl, rfl, rfl⟩ (fun w_ hE_ => K0 underlying3 rfl rfl (hE_.cell (cellB hfz5 rfl))) rfl<|J4 hx 12 [9] [9] [0] rfl<|M4 (j := 3) (b := false) hx 10 (by rfl) ⟨_, _, rfl, rfl, rfl⟩ (fun w_ => Bf (J2 rfl rfl) (by rw [dA hmine.2.1]; rfl)) rfl<|J4 hx 12 [17] [11, 12, 13, 14, 15, 16, 18, 17] [0] rfl<|Y4 (j := 12) (b := false) 12 hx 19 (by rfl) ⟨_, _, rfl, rfl, rfl⟩ (fun w_ hE_ => K0 underlying3 rfl rfl (hE_.cell (cellB hfz5 rfl))) rfl<|F3 20 h11 (by rfl)<|Q0 rfl<|C1 (cn func46) rfl rfl (qin_c _ m.f h11 hO.nd (by omega)) fun w12 h12 =>J0<|H2<|M4 (j := 12) (b := false) hx 21 (by rfl) ⟨_, _, rfl, rfl, rfl⟩ (fun w_ => Bf (R1 rfl) (by rw [dA hmine.2.2]; rfl)) rfl<|L3 hx [22] rfl<|H3 (.inr h12) (by kernel_rfl)<|H0<|E1 rfl (rfl)<|U0 (H0 (N0 (N0 ?_)))
 rcases kcases m with ⟨hk1, hk3, hk6, hk9⟩ | ⟨hk1, hk3, hk9⟩ | ⟨hk1, hk3, hk6, hk9⟩ | ⟨hk1, hk3, hk6, hk9⟩ | ⟨hk1, hk3, hk6, hk9⟩
 ·have hk36 : ¬ (m.k = 3 ∨ m.k = 6) := by omega
  refine L0<|C0 1 rfl<|I0 (K0 underlying3 rfl rfl (h12.cell (cellB hfz5 rfl))) rfl<|I0 (Bt (L1 rfl rfl) (dA hk1)) rfl<|H1 h12 [0] 7 rfl<|Wa<|Z0 rfl (fun c13 => ?_) (fun c13 => ?_)
  ·try simp only [DD] at c13
   refine N0 ?_
   obtain ⟨r9, hJ9, hS9⟩ := JobQ.close (x := x) (show St W _ (qB (x) (qs.getD k 0) bT A B C R N cap cap2 u3 u4 u5 ps zt :: qT ps bT zt ft :: (tm ++ _)) _ from h12) ⟨hO.nd, hO.st, hO.co, hO.rd, hO.gn, hO.ft, hO.ta⟩
   refine L0<|C0 2 rfl<|I0 (K0 underlying3 rfl rfl (hS9.cell (cellB hfz5 rfl))) rfl<|C0 1 rfl<|I0 (K0 underlying3 rfl rfl (hS9.cell (cellB hfz5 rfl))) rfl<|C1 (cn func67) rfl rfl (qready_c _ hS9 hJ9 m.f m.ar hokx hmine.2.2 hndx.1) fun w14 ⟨G9, r8, hle9, hJ8, h14⟩ =>We<|C0 1 rfl<|J0 (H0 (O1 ?_))
   replace h14 := give2 h14 (by omega)
   obtain ⟨r7, hC7, hS7⟩ := CtlQ.close h14 hr ((hK.mono hle9).set hkl hJ8)
   refine ret1 rfl rfl ?_
   rw [del_y hdec hec hat hxk hmine, hear_a hk1 c13]
   exact ⟨rfl, G9, r7, Le.trans hG0 hle9, hC7, hS7⟩
  try simp only [DD] at c13
  refine U0<|H0<|N0<|Wi<|C0 1 rfl<|I0 (K0 underlying3 rfl rfl (h12.cell (cellB hfz5 rfl))) rfl<|I0 (Bf (L1 rfl rfl) (dN hk3)) rfl<|C0 2 rfl<|Q0 rfl<|I0 (K0 underlying3 rfl rfl (h12.cell (cellB hfz5 rfl))) rfl<|Q0 rfl<|I0 (Bf (L1 rfl rfl) (dN hk6)) rfl<|C0 8 rfl<|Wa<|E1 rfl (rfl)<|U0<|H0<|N0<|Wi<|C0 1 rfl<|I0 (K0 underlying3 rfl rfl (h12.cell (cellB hfz5 rfl))) rfl<|I0 (Bf (L1 rfl rfl) (dN hk9)) rfl<|C0 7 rfl<|Wa<|E1 rfl (rfl)<|Wk<|C0 1 rfl<|J0 (H0 (O1 ?_))
  obtain ⟨r9, hJ9, hS9⟩ := JobQ.close (x := x) (show St W _ (qB (x) (qs.getD k 0) bT A B C R N cap cap2 u3 u4 u5 ps zt :: qT ps bT zt ft :: (tm ++ _)) _ from h12) ⟨hO.nd, hO.st, hO.co, hO.rd, hO.gn, hO.ft, hO.ta⟩
  replace hS9 := give2 hS9 (by omega)
  obtain ⟨r7, hC7, hS7⟩ := CtlQ.close hS9 hr ((hK.mono (Le.refl G0)).set hkl hJ9)
  rw [set_same (d := x) hkl (by rw [gD, hxk]; rfl)] at hC7
  refine ret1 rfl rfl ?_
  rw [del_y hdec hec hat hxk hmine, hear_d (fun hh => c13 hh.2) (fun hh => hk36 hh.1) (fun hh => hk9 hh.1), set_same (d := x) hkl (by rw [gD, hxk]; rfl)]
  exact ⟨rfl, G0, r7, hG0, hC7, hS7⟩
 ·have hk36 : m.k = 3 ∨ m.k = 6 := .inl hk3
  refine L0<|C0 1 rfl<|I0 (K0 underlying3 rfl rfl (h12.cell (cellB hfz5 rfl))) rfl<|I0 (Bf (L1 rfl rfl) (dN hk1)) rfl<|C0 7 rfl<|Wa<|E1 rfl (rfl)<|U0<|H0<|N0<|Wi<|C0 1 rfl<|I0 (K0 underlying3 rfl rfl (h12.cell (cellB hfz5 rfl))) rfl<|I0 (Bt (L1 rfl rfl) (dA hk3)) rfl<|H1 h12 [0] 12 rfl<|Wa<|Z0 rfl (fun c15 => ?_) (fun c15 => ?_)
  ·try simp only [DD] at c15
   refine N0 ?_
   obtain ⟨r9, hJ9, hS9⟩ := JobQ.close (x := x) (show St W _ (qB (x) (qs.getD k 0) bT A B C R N cap cap2 u3 u4 u5 ps zt :: qT ps bT zt ft :: (tm ++ _)) _ from h12) ⟨hO.nd, hO.st, hO.co, hO.rd, hO.gn, hO.ft, hO.ta⟩
   refine L0<|C0 1 rfl<|I0 (R4 hS9 hfz5 underlying42 rfl inf42 rfl rfl) rfl<|C1 (cn func68) rfl rfl (qsaid_c _ hS9 hJ9 m hokx hmay.2.2.2.2.2.2.1.1 hk36) fun w16 ⟨G9, r8, hle9, hJ8, h16⟩ =>C0 1 rfl<|J0 (H0 (O1 ?_))
   replace h16 := give2 h16 (by omega)
   obtain ⟨r7, hC7, hS7⟩ := CtlQ.close h16 hr ((hK.mono hle9).set hkl hJ8)
   refine ret1 rfl rfl ?_
   rw [del_y hdec hec hat hxk hmine, hear_b (fun hh => hk1 hh.1) ⟨hk36, c15⟩]
   exact ⟨rfl, G9, r7, Le.trans hG0 hle9, hC7, hS7⟩
  try simp only [DD] at c15
  refine U0<|H0<|N0<|Wi<|C0 1 rfl<|I0 (K0 underlying3 rfl rfl (h12.cell (cellB hfz5 rfl))) rfl<|I0 (Bf (L1 rfl rfl) (dN hk9)) rfl<|C0 7 rfl<|Wa<|E1 rfl (rfl)<|Wk<|C0 1 rfl<|J0 (H0 (O1 ?_))
  obtain ⟨r9, hJ9, hS9⟩ := JobQ.close (x := x) (show St W _ (qB (x) (qs.getD k 0) bT A B C R N cap cap2 u3 u4 u5 ps zt :: qT ps bT zt ft :: (tm ++ _)) _ from h12) ⟨hO.nd, hO.st, hO.co, hO.rd, hO.gn, hO.ft, hO.ta⟩
  replace hS9 := give2 hS9 (by omega)
  obtain ⟨r7, hC7, hS7⟩ := CtlQ.close hS9 hr ((hK.mono (Le.refl G0)).set hkl hJ9)
  rw [set_same (d := x) hkl (by rw [gD, hxk]; rfl)] at hC7
  refine ret1 rfl rfl ?_
  rw [del_y hdec hec hat hxk hmine, hear_d (fun hh => hk1 hh.1) (fun hh => c15 hh.2) (fun hh => hk9 hh.1), set_same (d := x) hkl (by rw [gD, hxk]; rfl)]
  exact ⟨rfl, G0, r7, hG0, hC7, hS7⟩
 ·have hk36 : m.k = 3 ∨ m.k = 6 := .inr hk6
  refine L0<|C0 1 rfl<|I0 (K0 underlying3 rfl rfl (h12.cell (cellB hfz5 rfl))) rfl<|I0 (Bf (L1 rfl rfl) (dN hk1)) rfl<|C0 7 rfl<|Wa<|E1 rfl (rfl)<|U0<|H0<|N0<|Wi<|C0 1 rfl<|I0 (K0 underlying3 rfl rfl (h12.cell (cellB hfz5 rfl))) rfl<|I0 (Bf (L1 rfl rfl) (dN hk3)) rfl<|C0 2 rfl<|Q0 rfl<|I0 (K0 underlying3 rfl rfl (h12.cell (cellB hfz5 rfl))) rfl<|Q0 rfl<|I0 (Bt (L1 rfl rfl) (dA hk6)) rfl<|H1 h12 [0] 8 rfl<|Wa<|Z0 rfl (fun c17 => ?_) (fun c17 => ?_)
  ·try simp only [DD] at c17
   refine N0 ?_
   obtain ⟨r9, hJ9, hS9⟩ := JobQ.close (x := x) (show St W _ (qB (x) (qs.getD k 0) bT A B C R N cap cap2 u3 u4 u5 ps zt :: qT ps bT zt ft :: (tm ++ _)) _ from h12) ⟨hO.nd, hO.st, hO.co, hO.rd, hO.gn, hO.ft, hO.ta⟩
   refine L0<|C0 1 rfl<|I0 (R4 hS9 hfz5 underlying42 rfl inf42 rfl rfl) rfl<|C1 (cn func68) rfl rfl (qsaid_c _ hS9 hJ9 m hokx hmay.2.2.2.2.2.2.1.1 hk36) fun w18 ⟨G9, r8, hle9, hJ8, h18⟩ =>C0 1 rfl<|J0 (H0 (O1 ?_))
   replace h18 := give2 h18 (by omega)
   obtain ⟨r7, hC7, hS7⟩ := CtlQ.close h18 hr ((hK.mono hle9).set hkl hJ8)
   refine ret1 rfl rfl ?_
   rw [del_y hdec hec hat hxk hmine, hear_b (fun hh => hk1 hh.1) ⟨hk36, c17⟩]
   exact ⟨rfl, G9, r7, Le.trans hG0 hle9, hC7, hS7⟩
  try simp only [DD] at c17
  refine U0<|H0<|N0<|Wi<|C0 1 rfl<|I0 (K0 underlying3 rfl rfl (h12.cell (cellB hfz5 rfl))) rfl<|I0 (Bf (L1 rfl rfl) (dN hk9)) rfl<|C0 7 rfl<|Wa<|E1 rfl (rfl)<|Wk<|C0 1 rfl<|J0 (H0 (O1 ?_))
  obtain ⟨r9, hJ9, hS9⟩ := JobQ.close (x := x) (show St W _ (qB (x) (qs.getD k 0) bT A B C R N cap cap2 u3 u4 u5 ps zt :: qT ps bT zt ft :: (tm ++ _)) _ from h12) ⟨hO.nd, hO.st, hO.co, hO.rd, hO.gn, hO.ft, hO.ta⟩
  replace hS9 := give2 hS9 (by omega)
  obtain ⟨r7, hC7, hS7⟩ := CtlQ.close hS9 hr ((hK.mono (Le.refl G0)).set hkl hJ9)
  rw [set_same (d := x) hkl (by rw [gD, hxk]; rfl)] at hC7
  refine ret1 rfl rfl ?_
  rw [del_y hdec hec hat hxk hmine, hear_d (fun hh => hk1 hh.1) (fun hh => c17 hh.2) (fun hh => hk9 hh.1), set_same (d := x) hkl (by rw [gD, hxk]; rfl)]
  exact ⟨rfl, G0, r7, hG0, hC7, hS7⟩
 ·have hk36 : ¬ (m.k = 3 ∨ m.k = 6) := by omega
  refine L0<|C0 1 rfl<|I0 (K0 underlying3 rfl rfl (h12.cell (cellB hfz5 rfl))) rfl<|I0 (Bf (L1 rfl rfl) (dN hk1)) rfl<|C0 7 rfl<|Wa<|E1 rfl (rfl)<|U0<|H0<|N0<|Wi<|C0 1 rfl<|I0 (K0 underlying3 rfl rfl (h12.cell (cellB hfz5 rfl))) rfl<|I0 (Bf (L1 rfl rfl) (dN hk3)) rfl<|C0 2 rfl<|Q0 rfl<|I0 (K0 underlying3 rfl rfl (h12.cell (cellB hfz5 rfl))) rfl<|Q0 rfl<|I0 (Bf (L1 rfl rfl) (dN hk6)) rfl<|C0 8 rfl<|Wa<|E1 rfl (rfl)<|U0<|H0<|N0<|Wi<|C0 1 rfl<|I0 (K0 underlying3 rfl rfl (h12.cell (cellB hfz5 rfl))) rfl<|I0 (Bt (L1 rfl rfl) (dA hk9)) rfl<|H1 h12 [0] 7 rfl<|Wa<|Z0 rfl (fun c19 => ?_) (fun c19 => ?_)
  ·try simp only [DD] at c19
   refine N0 ?_
   obtain ⟨r9, hJ9, hS9⟩ := JobQ.close (x := x) (show St W _ (qB (x) (qs.getD k 0) bT A B C R N cap cap2 u3 u4 u5 ps zt :: qT ps bT zt ft :: (tm ++ _)) _ from h12) ⟨hO.nd, hO.st, hO.co, hO.rd, hO.gn, hO.ft, hO.ta⟩
   refine L0<|C0 2 rfl<|I0 (K0 underlying3 rfl rfl (hS9.cell (cellB hfz5 rfl))) rfl<|C1 (cn func69) rfl rfl (qgone_c _ hS9 hJ9 m.f hokx hndx.2) fun w20 ⟨G9, r8, hle9, hJ8, h20⟩ =>We<|C0 1 rfl<|J0 (H0 (O1 ?_))
   replace h20 := give2 h20 (by omega)
   obtain ⟨r7, hC7, hS7⟩ := CtlQ.close h20 hr ((hK.mono hle9).set hkl hJ8)
   refine ret1 rfl rfl ?_
   rw [del_y hdec hec hat hxk hmine, hear_c (fun hh => hk1 hh.1) (fun hh => hk36 hh.1) ⟨hk9, c19⟩]
   exact ⟨rfl, G9, r7, Le.trans hG0 hle9, hC7, hS7⟩
  try simp only [DD] at c19
  refine Wk<|C0 1 rfl<|J0 (H0 (O1 ?_))
  obtain ⟨r9, hJ9, hS9⟩ := JobQ.close (x := x) (show St W _ (qB (x) (qs.getD k 0) bT A B C R N cap cap2 u3 u4 u5 ps zt :: qT ps bT zt ft :: (tm ++ _)) _ from h12) ⟨hO.nd, hO.st, hO.co, hO.rd, hO.gn, hO.ft, hO.ta⟩
  replace hS9 := give2 hS9 (by omega)
  obtain ⟨r7, hC7, hS7⟩ := CtlQ.close hS9 hr ((hK.mono (Le.refl G0)).set hkl hJ9)
  rw [set_same (d := x) hkl (by rw [gD, hxk]; rfl)] at hC7
  refine ret1 rfl rfl ?_
  rw [del_y hdec hec hat hxk hmine, hear_d (fun hh => hk1 hh.1) (fun hh => hk36 hh.1) (fun hh => c19 hh.2), set_same (d := x) hkl (by rw [gD, hxk]; rfl)]
  exact ⟨rfl, G0, r7, hG0, hC7, hS7⟩
 have hk36 : ¬ (m.k = 3 ∨ m.k = 6) := by omega
 refine L0<|C0 1 rfl<|I0 (K0 underlying3 rfl rfl (h12.cell (cellB hfz5 rfl))) rfl<|I0 (Bf (L1 rfl rfl) (dN hk1)) rfl<|C0 7 rfl<|Wa<|E1 rfl (rfl)<|U0<|H0<|N0<|Wi<|C0 1 rfl<|I0 (K0 underlying3 rfl rfl (h12.cell (cellB hfz5 rfl))) rfl<|I0 (Bf (L1 rfl rfl) (dN hk3)) rfl<|C0 2 rfl<|Q0 rfl<|I0 (K0 underlying3 rfl rfl (h12.cell (cellB hfz5 rfl))) rfl<|Q0 rfl<|I0 (Bf (L1 rfl rfl) (dN hk6)) rfl<|C0 8 rfl<|Wa<|E1 rfl (rfl)<|U0<|H0<|N0<|Wi<|C0 1 rfl<|I0 (K0 underlying3 rfl rfl (h12.cell (cellB hfz5 rfl))) rfl<|I0 (Bf (L1 rfl rfl) (dN hk9)) rfl<|C0 7 rfl<|Wa<|E1 rfl (rfl)<|Wk<|C0 1 rfl<|J0 (H0 (O1 ?_))
 obtain ⟨r9, hJ9, hS9⟩ := JobQ.close (x := x) (show St W _ (qB (x) (qs.getD k 0) bT A B C R N cap cap2 u3 u4 u5 ps zt :: qT ps bT zt ft :: (tm ++ _)) _ from h12) ⟨hO.nd, hO.st, hO.co, hO.rd, hO.gn, hO.ft, hO.ta⟩
 replace hS9 := give2 hS9 (by omega)
 obtain ⟨r7, hC7, hS7⟩ := CtlQ.close hS9 hr ((hK.mono (Le.refl G0)).set hkl hJ9)
 rw [set_same (d := x) hkl (by rw [gD, hxk]; rfl)] at hC7
 refine ret1 rfl rfl ?_
 rw [del_y hdec hec hat hxk hmine, hear_d (fun hh => hk1 hh.1) (fun hh => hk36 hh.1) (fun hh => hk9 hh.1), set_same (d := x) hkl (by rw [gD, hxk]; rfl)]
 exact ⟨rfl, G0, r7, hG0, hC7, hS7⟩
theorem inf28 : Inf prog 28 (.slice none 0 0) 1 24 := by unfold Inf; kernel_rfl
theorem inf34 : Inf prog 34 (.slice none 0 0) 1 24 := by unfold Inf; kernel_rfl
theorem inf36 : Inf prog 36 (.agg #[.slice none 0 0, .slice none 0 0]) 2 48 := by unfold Inf; kernel_rfl
theorem snocP {a l k : Res} {rj cs : List Res} : (k :: l :: ((rj ++ [a]) ++ cs)).Perm (a :: l :: k :: (rj ++ cs)) := (by classical exact List.perm_iff_count.2 (fun a_ => by simp only [List.count_cons, List.count_append, List.count_nil]; omega))
theorem take_sD {α : Type} (d : α) {l : List α} {i : Nat} (h : i < l.length) : l.take i ++ [l.getD i d] = l.take (i + 1) := by
 rw [List.take_succ_eq_append_getElem h, gD, gE h]; rfl
theorem qcopied_c (w : World) {ns : List Int} {ss : List S} {A B : Option Addr} {cap cap2 : Nat} (h : St W F cs w) (hA : RdS (Kd.one Vi) F A ns) (hB : RdS KS F B ss) (hnl : ns.length ≤ 100000) (hsl : ss.length ≤ 100000) (hf : Dg.fewE ss) : Calls prog 64 #[.agg #[.slice A ns.length cap, .slice B ss.length cap2]] w fun e w' => ∃ G A' cap' B' cap2', Le F G ∧ e = .returned (.agg #[.slice A' ns.length cap', .slice B' ss.length cap2']) ∧ RdS (Kd.one Vi) G A' ns ∧ RdS KS G B' ss ∧ St W G cs w'  := by
 refine enter (args := [.agg #[.slice A ns.length cap, .slice B ss.length cap2]]) func64 rfl rfl rfl<|Wi<|J3 rfl h rfl fun b1 w1 h1=>O2 rfl h1 inf36 fun b2 w2 h2=>We<|I0 (R2 (vs := []) (cells := #[.slice none 0 0, .slice none 0 0]) rfl (by kernel_rfl)) rfl<|O2 rfl h2 inf36 fun b3 w3 h3=>F4 h3 0 rfl rfl rfl inf36 rfl rfl rfl ?_
 intro  w4 h4
 try simp only [ZZ] at h4
 refine J0 (H0 (N0 ?_))
 have hN0 := h4.nilRes
 refine L0<|H1 hN0 [1, 3] 4 rfl<|I3 (ys := ns) 0 hN0 rfl rfl rfl rfl underlying33 underlying33 (.inr ⟨_, rfl⟩) inf3 rfl (Row.nil 3 Vi) (Src.rd hA hN0 rfl (fun _ => rfl)) rfl rfl (by first | omega | (simp []; done) | (simp []; omega)) (by first | omega | (simp []; done) | (simp []; omega)) ?_
 intro r5 v5 w6 hr5 h6
 simp only [lz, ls] at h6
 obtain ⟨Aq5, cq5, rfl, hcq5⟩ := hr5.val
 refine C0 1 rfl<|O3 h6 1 rfl rfl rfl inf33 rfl rfl ?_
 intro  w7 h7
 try simp only [ZZ] at h7
 refine J0 (H0 (N0 (N0 ?_)))
 obtain ⟨G1, hG1, hf1, hS1⟩ := h7.freeze (i := 0) rfl
 have hAN1 := Row.read hr5 rfl hf1
 simp only [ez, es'] at hS1
 refine L0<|C0 1 rfl<|J0 (H0 (M1 ?_))
 replace hS1 := hS1.nilRes
 refine B3 (σ := Nat × Snap × List ES × Res × Option Addr × Nat × Option Addr × Nat) (fun q_ => [(1, pz b1), (2, pz b2), (3, pz b3), (4, .int .i64 (q_.1 : Int))]) (fun q_ w => q_.1 ≤ ss.length ∧ Le G1 q_.2.1 ∧ RowM 68 5 ES.c q_.2.2.2.1 (.slice q_.2.2.2.2.1 q_.1 q_.2.2.2.2.2.1) q_.2.2.1 ∧ q_.2.2.1.map (·.s) = ss.take q_.1 ∧ (∀ e ∈ q_.2.2.1, RdS KE q_.2.1 e.A e.s.af) ∧ RdS (Kd.one Vi) q_.2.1 q_.2.2.2.2.2.2.1 ns ∧ St W q_.2.1 (q_.2.2.2.1 :: [(b3, .cells #[.slice q_.2.2.2.2.2.2.1 ns.length q_.2.2.2.2.2.2.2, .slice q_.2.2.2.2.1 q_.1 q_.2.2.2.2.2.1] 36 (0, 0))] :: [(b2, .cells #[.slice none 0 0, .slice none 0 0] 36 (0, 0))] :: [(b1, .cells #[.slice A ns.length cap, .slice B ss.length cap2] 36 (0, 0))] :: cs) w) (fun q_ => ss.length - q_.1) (⟨0, G1, [], [], none, 0, _, _⟩) (⟨Nat.zero_le _, Le.refl _, RowM.nil _ _ _, rfl, (fun e he => by cases he), hAN1, hS1⟩) ?_
 rintro ⟨i, G2, es, rS, AS, cS, aN, cN⟩ w8 ⟨hi, hle2, hrSl, hes, hpe, hAN2, hL⟩
 try dsimp only at hi hle2 hrSl hes hpe hAN2 hL
 refine W2 [(1, pz b1), (2, pz b2), (3, pz b3), (4, .int .i64 (i : Int))] ?_
 have hel : es.length = i := by rw [← List.length_map (f := (·.s)), hes, List.length_take]; omega
 refine N0<|Wi<|H1 hL [3] 3 rfl<|I0 (R0 (n := (ss.length : Int)) (Y0 underlying34 rfl rfl) rfl) rfl<|C0 1 rfl<|Wa<|Z0 rfl (fun c9 => ?_) (fun c9 => ?_)
 ·try simp only [DD] at c9
  refine U0 (H0 (N0 (M1 (N0 ?_))))
  have hi2 : i < ss.length := by omega
  obtain ⟨ad, A1, cap1, rfl, hE, hcell⟩ := Dg.stepAt (hB.mono (Le.trans hG1 hle2)) hi2
  have hf2 := hf i hi2
  refine L0<|H1 hL [3] 3 rfl<|I0 (N2 underlying34 inf68 rfl rfl (n := i) rfl (by omega)) rfl<|I0 (Dg.Runs.stepA (s := (ss.getD i S0)) hL hcell underlying68 rfl inf68 rfl) rfl<|O2 rfl hL inf68 fun b5 w10 h10=>F4 h10 0 rfl rfl rfl inf68 rfl rfl rfl ?_
  intro  w11 h11
  try simp only [ZZ] at h11
  refine We<|V4 (vs := []) h11 rfl underlying66 (inf115.elem rfl rfl) rfl rfl rfl (by decide) ?_
  intro o7 w12 h12
  try simp only [ZZ] at h12
  have hr7 : RowM 115 2 E.cs _ _ ([] : List E) := RowM.lit0 (b := o7)
  refine H1 h12 [1] 2 rfl<|WL.appM (f := E.cs) (ys := (ss.getD i S0).af) 0 h12 rfl rfl rfl rfl underlying66 underlying66 (.inr ⟨_, rfl⟩) (inf115.elem rfl rfl) hr7 (Src.rdM hE h12 rfl (fun _ => rfl)) rfl (by first | omega | (simp; done) | (simp; omega) | (simp only [List.length_nil]; omega)) (by first | omega | (simp; done) | (simp; omega) | (simp only [List.length_nil]; omega)) ?_
  intro r13 v13 w14 hr13 h14
  simp only [lz, ls] at h14
  obtain ⟨A13, cap13, rfl, hcap13⟩ := hr13.val
  refine C0 1 rfl<|O3 h14 1 rfl rfl rfl inf66 rfl rfl ?_
  intro  w15 h15
  try simp only [ZZ] at h15
  refine J0 (H0 ?_)
  obtain ⟨G3, hG3, hf3, h15⟩ := h15.freeze (i := 0) rfl
  have hrE := RowM.read (f := E.cs) (m := 2) (fun _ => rfl) hr13 rfl hf3
  simp only [ez, es'] at h15
  refine L0<|H1 h15 [2] 2 rfl<|I0 (U2 h15 0 rfl underlying68 rfl inf68 rfl rfl) rfl<|V4 (vs := [.agg #[Vi (ss.getD i S0).rk, Vi (ss.getD i S0).per, Vi (ss.getD i S0).ds, Vi (ss.getD i S0).lim, .slice A13 (ss.getD i S0).af.length cap13]]) h15 rfl underlying34 (inf68.elem rfl rfl) rfl rfl rfl (by decide) ?_
  intro lit33 w16 h16
  try simp only [ZZ] at h16
  refine WL.appM (f := ES.c) (ys := [(⟨(ss.getD i S0), A13, cap13⟩ : ES)]) 2 h16 rfl rfl rfl rfl underlying34 underlying34 (.inr ⟨_, rfl⟩) (inf68.elem rfl rfl) hrSl (Src.litM h16 0 rfl rfl rfl) rfl (by first | omega | (simp; done) | (simp; omega) | (simp only [List.length_nil]; omega)) (by first | omega | (simp; done) | (simp; omega) | (simp only [List.length_nil]; omega)) ?_
  intro r17 v17 w18 hr17 h18
  simp only [lz, ls] at h18
  replace h18 := h18.drop 0
  simp only [ez, es'] at h18
  obtain ⟨A17, cap17, rfl, hcap17⟩ := hr17.val
  refine C0 1 rfl<|O3 h18 2 rfl rfl rfl inf34 rfl rfl ?_
  intro  w19 h19
  try simp only [ZZ] at h19
  refine J0<|N1<|H0<|L0<|C0 1 rfl<|I0 (V0 rfl rfl (by omega)) rfl<|C0 1 rfl<|J0 ?_
  have hs9 : (es ++ [(⟨ss.getD i S0, A13, cap13⟩ : ES)]).map (·.s) = ss.take (i + 1) := by rw [List.map_append, hes]; exact take_sD S0 hi2
  have hen : (es ++ [(⟨ss.getD i S0, A13, cap13⟩ : ES)]).length = i + 1 := by rw [lA, hel]; rfl
  have hr9 := hr17
  rw [hen] at hr9
  have hs8 := h19.drop 0
  rw [hen] at hs8
  exact F1 (⟨i + 1, G3, es ++ [⟨ss.getD i S0, A13, cap13⟩], r17, A17, cap17, aN, cN⟩ : Nat × Snap × List ES × Res × Option Addr × Nat × Option Addr × Nat) (by show ss.length - (i + 1) < ss.length - i; omega) ⟨rfl, rfl, rfl, rfl, trivial⟩ ⟨by show i + 1 ≤ _; omega, Le.trans hle2 hG3, hr9, hs9, (fun e he => by
   rcases List.mem_append.1 he with he | he
   ·exact (hpe e he).mono hG3
   obtain rfl := List.mem_singleton.1 he; exact hrE), hAN2.mono hG3, hs8⟩
 try simp only [DD] at c9
 refine U1 (B2 (WX.cut (E2 (H0 (N0 ?_)))))
 obtain rfl : i = ss.length := by omega
 rw [List.take_length] at hes
 obtain ⟨G4, hG4, hf4, hS4⟩ := hL.freeze (i := 0) rfl
 simp only [ez, es'] at hS4
 have hBS := ES.frz (RowM.read (f := ES.c) (m := 5) (fun _ => rfl) hrSl rfl hf4) hes (fun e he => (hpe e he).mono hG4)
 have hAN := hAN2.mono hG4
 refine L0<|I0 (U2 hS4 0 rfl underlying36 rfl inf36 rfl rfl) rfl<|F4 hS4 1 rfl rfl rfl inf36 rfl rfl rfl ?_
 intro  w20 h20
 try simp only [ZZ] at h20
 refine Wg<|retA rfl (ResOk.blk h20 1 rfl underlying36 rfl inf36 rfl rfl) ⟨G4, _, _, _, _, Le.trans hG1 (Le.trans hle2 hG4), rfl, hAN, hBS, ((h20.drop 0).drop 0).drop 0⟩
theorem CtlOq.snoc {F : Snap} {js : List J} {qs : List Nat} {rj : List Res} (h : CtlOq F js qs rj) {b : Nat} {x : J} {r : Res} (hJ : JobQ F r b x) : CtlOq F (js ++ [x]) (qs ++ [b]) (rj ++ [r]) := by
 have hlq := h.lq
 have hlr := h.lr
 refine ⟨by simp [hlq], by simp [hlr], fun i y hy => ?_⟩
 by_cases hi : i < js.length
 ·rw [List.getElem?_append_left hi] at hy
  obtain ⟨q, h1, h2⟩ := h.at_ i y hy
  refine ⟨q, by rw [List.getElem?_append_left (by omega)]; exact h1, ?_⟩
  rw [gD, List.getElem?_append_left (by omega), ← gD]
  exact h2
 have hi2 : i < (js ++ [x]).length := (List.getElem?_eq_some_iff.1 hy).1
 rw [lA] at hi2
 have hi3 : i = js.length := by
  have : ([x] : List J).length = 1 := rfl
  omega
 subst hi3
 rw [List.getElem?_append_right (Nat.le_refl _), Nat.sub_self] at hy
 obtain rfl := Option.some.inj hy
 refine ⟨r, by rw [← hlr, List.getElem?_append_right (Nat.le_refl _), Nat.sub_self]; rfl, ?_⟩
 rw [gD, ← hlq, List.getElem?_append_right (Nat.le_refl _), Nat.sub_self]
 exact hJ
theorem qsubmit_c (w : World) {r : Res} {b : Nat} {key : List UInt8} {js : List J} (h : St W F (r :: cs) w) (hC : CtlQ F r b key js) (hok : ∀ x ∈ js, x.ok) (hnd : ∀ x ∈ js, x.once) (hjl : js.length ≤ 16) {ns : List Int} {ss : List S} {A B : Option Addr} {cap cap2 : Nat} (hA : RdS (Kd.one Vi) F A ns) (hB : RdS KS F B ss) (hnl : ns.length ≤ 100000) (hsl : ss.length ≤ 100000) (hf : Dg.fewE ss) : Calls prog 29 #[pz b, .agg #[.slice A ns.length cap, .slice B ss.length cap2]] w fun e w' => e = .returned (.tuple #[Vi (subM js ns ss).1.1, Vi (subM js ns ss).1.2]) ∧ ∃ G r', Le F G ∧ CtlQ G r' b key ((subM js ns ss).2) ∧ St W G (r' :: cs) w'  := by
 refine enter (args := [pz b, .agg #[.slice A ns.length cap, .slice B ss.length cap2]]) func29 rfl rfl rfl ?_
 obtain ⟨A0, cap0, rP, qs, rj, h, hr, hK⟩ := CtlQ.open_ h hC
 have hlq := hK.lq
 have hlr := hK.lr
 refine Wi<|J3 rfl h rfl fun b3 w1 h1=>C0 2 rfl<|J0 (H0 (N0 ?_))
 obtain ⟨G0, hG0, hfr0, h1⟩ := h1.freeze (i := 0) rfl
 have hfz3 : G0 b3 = some (.cells #[.slice A ns.length cap, .slice B ss.length cap2] 36 (0, 0)) := hfr0 _ List.mem_cons_self
 replace hK := hK.mono hG0
 replace hA := hA.mono hG0
 replace hB := hB.mono hG0
 refine L0<|C0 1 rfl<|I0 (K0 underlying34 rfl rfl (h1.cell (cellB hfz3 rfl))) rfl<|V1 (cn func62) rfl rfl (Dg.qcheck_c _ h1 hB hsl hf) ?_
 rintro _ w2 ⟨rfl, h2⟩
 refine ⟨_, rfl,C0 1 rfl<|J0 (H0 (N0 (N0 ?_)))⟩
 by_cases hokn : okN ns
 ·refine L0<|C0 1 rfl<|I0 (K0 underlying33 rfl rfl (h2.cell (cellB hfz3 rfl))) rfl<|V1 (cn func63) rfl rfl (Tal.rnew_y _ h2 hA hokn) ?_
  rintro _ w3 ⟨G1, bt, bv, bc, zv, zc, fv, fc, hG1, rfl, h3, -⟩
  refine ⟨_, rfl, ?_⟩
  replace h3 := (h3.drop 0).drop 0
  simp only [List.eraseIdx_cons_zero] at h3
  replace hK := hK.mono hG1
  replace hfz3 := hG1 _ _ hfz3
  replace hA := hA.mono hG1
  replace hB := hB.mono hG1
  refine I0 (L2 underlying116 rfl rfl) rfl<|Wa<|E1 rfl (rfl)<|U0<|H0<|N0<|Wi<|C0 2 rfl<|Wa<|Z0 rfl (fun c4 => ?_) (fun c4 => ?_)
  ·try simp only [DD] at c4
   first
   |(exfalso; omega)
   |skip
    refine Wi<|C0 3 rfl<|J0 (H0 (O1 ?_))
    obtain ⟨r7, hC7, hS7⟩ := CtlQ.close h3 hr hK
    refine ret2 rfl rfl rfl ?_
    rw [sub_n (e := _) (sub_b hokn c4) (by first | decide | exact c4)]
    exact ⟨rfl, G1, r7, (Le.trans hG0 hG1), hC7, hS7⟩
  try simp only [DD] at c4
  first
  |(exfalso; omega)
  |skip
   refine U0<|H0<|N0<|Wi<|C0 1 rfl<|Wj<|N4 (σ := Nat) (fun q_ => [(0, pz b), (3, pz b3), (6, Vi (chkM ss)), (7, .int .i64 (q_ : Int))]) (fun q_ w => q_ ≤ ss.length ∧ (∀ j, j < q_ → ¬ 256 < (ss.getD j S0).rk * (ss.getD j S0).per) ∧ St W G1 (kQ b key A0 qs.length cap0 :: rP :: (rj ++ cs)) w) (fun q_ => ss.length - q_) (0) (by repeat (first | exact trivial | refine ⟨rfl, ?_⟩)) (⟨Nat.zero_le _, fun j hj => absurd hj (Nat.not_lt_zero _), h3⟩) ?_
   rintro i w5 ⟨hi, hno, hL⟩
   try dsimp only at hi hno hL
   refine WC.sub (s := [(0, pz b), (3, pz b3), (6, Vi (chkM ss)), (7, .int .i64 (i : Int))]) (by repeat (first | exact trivial | refine ⟨rfl, ?_⟩)) ?_
   refine N0<|Wi<|C0 2 rfl<|I0 (K0 underlying34 rfl rfl (hL.cell (cellB hfz3 rfl))) rfl<|I0 (R0 (n := (ss.length : Int)) (Y0 underlying34 rfl rfl) rfl) rfl<|C0 1 rfl<|Wa<|Z0 rfl (fun c6 => ?_) (fun c6 => ?_)
   ·try simp only [DD] at c6
    first
    |(exfalso; omega)
    |skip
     refine U0 (H0 (N0 (M1 (N0 ?_))))
     have hi2 : i < ss.length := by omega
     obtain ⟨ad, A1, cap1, rfl, hE, hcell⟩ := Dg.stepAt hB hi2
     obtain ⟨hk1, hk2⟩ := step_rng c4 _ (getD_mem (d := S0) hi2)
     have hm1 : 0 ≤ (ss.getD i S0).rk * (ss.getD i S0).per := Int.mul_nonneg (by omega) (by omega)
     have hm2 : (ss.getD i S0).rk * (ss.getD i S0).per ≤ 32 * 256 := Int.mul_le_mul hk1.2 hk2.2 (by omega) (by omega)
     refine V2 hL hL (fun s_ => ([] : List Nat).any (Nat.beq s_)) mixed (by kernel_rfl)<|fun hx =>fun w7 h7=>L3 hx [0, 2, 6, 8] rfl<|V3 12 hx 1 (by rfl) (fun w_ hE_ => K0 underlying34 rfl rfl (hE_.cell (cellB hfz3 rfl))) rfl<|Z2 hx 3 (by rfl) (fun w_ => N2 underlying34 inf68 rfl rfl (n := i) rfl (by omega)) rfl<|L3 hx [4] rfl<|V3 12 hx 5 (by rfl) (fun w_ hE_ => K0 underlying3 rfl rfl (by rw [add_add]; exact hE_.cell (hcell 0 _ rfl))) rfl<|V3 12 hx 7 (by rfl) (fun w_ hE_ => K0 underlying34 rfl rfl (hE_.cell (cellB hfz3 rfl))) rfl<|Z2 hx 9 (by rfl) (fun w_ => N2 underlying34 inf68 rfl rfl (n := i) rfl (by omega)) rfl<|L3 hx [10] rfl<|V3 12 hx 11 (by rfl) (fun w_ hE_ => K0 underlying3 rfl rfl (by rw [add_add]; exact hE_.cell (hcell 1 _ rfl))) rfl<|Z2 hx 12 (by rfl) (fun w_ => R0 (n := ((ss.getD i S0).rk * (ss.getD i S0).per)) (B4 rfl rfl ⟨by omega, by omega⟩) rfl) rfl<|L3 hx [13] rfl<|H3 (.inr h7) (by kernel_rfl)<|H0<|Z0 rfl (fun c8 => ?_) (fun c8 => ?_)
     ·try simp only [DD] at c8
      first
      |(exfalso; omega)
      |skip
       refine Wi<|C0 2 rfl<|J0 (H0 (O1 ?_))
       obtain ⟨r7, hC7, hS7⟩ := CtlQ.close h7 hr hK
       refine ret2 rfl rfl rfl ?_
       rw [sub_n (e := _) (sub_c hokn c4 (Dg.any_t (d := S0) (by omega) (dA c8))) (by first | decide | exact c4)]
       exact ⟨rfl, G1, r7, (Le.trans hG0 hG1), hC7, hS7⟩
     try simp only [DD] at c8
     first
     |(exfalso; omega)
     |skip
      refine U0<|N1<|H0<|L0<|C0 1 rfl<|I0 (V0 rfl rfl (by omega)) rfl<|C0 1 rfl<|J0<|F1 (i + 1) (by omega) ⟨rfl, rfl, rfl, rfl, trivial⟩ ⟨by omega, fun j hj => (by
       by_cases e : j = i
       ·subst e; exact Int.not_lt.2 c8
       exact hno j (by omega)), h7⟩
   try simp only [DD] at c6
   first
   |(exfalso; omega)
   |skip
    refine U1<|B2<|WX.cut<|E2<|H0<|N0<|N0 ?_
    have hwide : wideM ss = false := Dg.any_f (d := S0) (fun j hj => dN (hno j (by omega)))
    refine L0<|H1 hL [0] 4 rfl<|I0 (R0 (n := (js.length : Int)) (Y0 underlying28 rfl rfl) (congrArg (fun n : Nat => (n : Int)) hlq)) rfl<|C0 1 rfl<|Wa<|Z0 rfl (fun c9 => ?_) (fun c9 => ?_)
    ·try simp only [DD] at c9
     first
     |(exfalso; omega)
     |skip
      refine Wi<|C0 2 rfl<|J0 (H0 (O1 ?_))
      obtain ⟨r7, hC7, hS7⟩ := CtlQ.close hL hr hK
      refine ret2 rfl rfl rfl ?_
      rw [sub_n (e := _) (sub_d hokn c4 hwide c9) (by first | decide | exact c4)]
      exact ⟨rfl, G1, r7, (Le.trans hG0 hG1), hC7, hS7⟩
    try simp only [DD] at c9
    first
    |(exfalso; omega)
    |skip
     refine U0<|H0<|N0<|V2 hL hL (fun s_ => ([] : List Nat).any (Nat.beq s_)) mixed (by kernel_rfl)<|fun hx =>fun w10 h10=>L3 hx [2, 3, 4] rfl<|V3 12 hx 0 (by rfl) (fun w_ hE_ => R4 hE_ hfz3 underlying36 rfl inf36 rfl rfl) rfl<|J4 hx 12 [5] [5] [0] rfl<|Z2 hx 6 (by rfl) (fun w_ => R0 (n := (js.length : Int)) (Y0 underlying28 rfl rfl) (congrArg (fun n : Nat => (n : Int)) hlq)) rfl<|Z2 hx 7 (by rfl) (fun w_ => V0 rfl rfl (by omega)) rfl<|F3 1 h10 (by rfl)<|V1 (cn func64) rfl rfl (qcopied_c _ h10 hA hB hnl hsl hf) ?_
     rintro _ w11 ⟨G8, A8, c8, B8, d8, hG8, rfl, hAN, hBS, h11⟩
     refine ⟨_, rfl,J0<|H2<|Z2 hx 8 (by rfl) (fun w_ => R2 (vs := [(0, .agg #[.slice A8 ns.length c8, .slice B8 ss.length d8]), (1, Vi ((js.length : Int) + 1))]) (cells := #[.slice A8 ns.length c8, .slice B8 ss.length d8, Vi ((js.length : Int) + 1), Vi 0, Vi 0, Vi 0, Vi 0, .slice none 0 0, .slice none 0 0, .slice none 0 0, .slice none 0 0, .bool false]) rfl (by kernel_rfl)) rfl<|F3 9 (h11.weak hG8) (by rfl)<|J3 rfl h11 rfl fun b55 w12 h12=>J0<|H2<|L3 hx [10] rfl<|H3 (.inr ((h12.weak hG8).drop 0)) (by kernel_rfl)<|H0<|Wi<|C0 1 rfl<|V1 (cn func65) rfl rfl (qbegin_c (x := (⟨ns, ss, (js.length : Int) + 1, 0, 0, 0, 0, [], [], [], [], false⟩ : J)) _ h12 hAN hBS (Dg.chk_ok c4).2.1.2) ?_⟩
     rintro _ w13 ⟨rfl, G9, r8, hle9, hJ8, h13⟩
     refine ⟨_, rfl,We<|C0 1 rfl<|X2 (vs := (([] : List Nat)).map pj) h13 rfl underlying28 inf98 rfl rfl rfl rfl rfl fun lit59 w14 h14=>H1 h14 [2] 4 rfl<|I3 (ys := qs) 0 h14 rfl rfl rfl rfl underlying28 underlying28 (.inr ⟨_, rfl⟩) inf98 rfl (Row.lit rfl) (Src.row hr h14 (i := 3) rfl (fun _ => rfl)) rfl rfl (by first | omega | (simp []; done) | (simp []; omega)) (by first | omega | (simp []; done) | (simp []; omega)) ?_⟩
     intro r15 v15 w16 hr15 h16
     simp only [lz, ls] at h16
     obtain ⟨Aq15, cq15, rfl, hcq15⟩ := hr15.val
     refine C0 1 rfl<|X2 (vs := (([b55] : List Nat)).map pj) h16 rfl underlying28 inf98 rfl rfl rfl rfl rfl fun lit66 w17 h17=>I3 (ys := ([b55] : List Nat)) 1 h17 rfl rfl rfl rfl underlying28 underlying28 (.inr ⟨_, rfl⟩) inf98 rfl hr15 (Src.lit h17 0 rfl rfl rfl) rfl rfl (by first | omega | (simp []; done) | (simp []; omega)) (by first | omega | (simp []; done) | (simp []; omega)) ?_
     intro r18 v18 w19 hr18 h19
     simp only [lz, ls] at h19
     replace h19 := h19.drop 0
     simp only [ez, es'] at h19
     obtain ⟨Aq18, cq18, rfl, hcq18⟩ := hr18.val
     refine C0 2 rfl<|O3 h19 2 rfl rfl rfl inf28 rfl rfl ?_
     intro  w20 h20
     try simp only [ZZ] at h20
     refine J0 (H0 (N0 ?_))
     obtain ⟨bT, Aj, Bj, Cj, Rj, Nj, capj, cap2j, u3, u4, u5, ps, zt, ft, tm, hS5, hO⟩ := JobQ.open_ (St.perm h20 (List.Perm.swap _ _ _)) hJ8
     refine L0<|H1 hS5 [0] 6 rfl<|J0 (H0 (O1 ?_))
     obtain ⟨r9, hJ9, hS9⟩ := JobQ.close (x := newJ ns ss js.length) hS5 hO
     obtain ⟨r7, hC7, hS7⟩ := CtlQ.close (js := js ++ [newJ ns ss js.length]) (qs := qs ++ [b55]) (St.perm (hS9.drop 3) snocP) hr18 ((hK.mono (Le.trans hG8 hle9)).snoc hJ9)
     refine ret2 rfl rfl rfl ?_
     rw [sub_y (sub_e hokn c4 hwide (fun hh => c9 hh))]
     exact ⟨rfl, G9, r7, Le.trans hG0 (Le.trans hG1 (Le.trans hG8 hle9)), hC7, hS7⟩
 refine L0<|C0 1 rfl<|I0 (K0 underlying33 rfl rfl (h2.cell (cellB hfz3 rfl))) rfl<|V1 (cn func63) rfl rfl (Tal.rnew_no _ h2 hA hokn) ?_
 rintro _ w21 ⟨rfl, h21⟩
 refine ⟨_, rfl,I0 (L2 underlying116 rfl rfl) rfl<|Wa<|J1 rfl (rfl)<|Wi<|C0 2 rfl<|J0 (H0 (O1 ?_))⟩
 obtain ⟨r7, hC7, hS7⟩ := CtlQ.close h21 hr hK
 refine ret2 rfl rfl rfl ?_
 rw [sub_n (e := _) (sub_a hokn) (by first | decide | exact «c17»)]
 exact ⟨rfl, G0, r7, hG0, hC7, hS7⟩
end Ct
end
end Go.Proofs.YtifdpllfbaogcaaGreat
