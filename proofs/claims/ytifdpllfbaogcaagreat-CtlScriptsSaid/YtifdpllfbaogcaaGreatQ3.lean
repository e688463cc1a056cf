/- Joined texts: D25 .. W6. -/
import Derived.Test.YtifdpllfbaogcaaGreatQ2
import Derived.KernelRfl
import Derived.Tactics
import Derived.Tactics2
set_option linter.unusedVariables false
set_option linter.unusedSimpArgs false
set_option maxRecDepth 100000
set_option maxHeartbeats 32000000
namespace Go.Proofs.YtifdpllfbaogcaaGreat
open Go Go.RowKit B Tryz
variable {W : World} {F : Snap}
section
variable {cs : List Res}
namespace Dg
theorem mem_rdyL {l : List S} {c : List Int} {x : Int} : ∀ {n : Nat}, x ∈ rdyL l c n ↔ ∃ i : Nat, i < n ∧ x = (i : Int) ∧ rdyAt l c i
 |0 => ⟨fun h => (by cases h), fun ⟨i, h, _⟩ => absurd h (Nat.not_lt_zero _)⟩
 |n + 1 => by
  have ih := mem_rdyL (l := l) (c := c) (x := x) (n := n)
  by_cases h : rdyAt l c n
  ·rw [rdyL_y h, List.mem_append, List.mem_singleton, ih]
   constructor
   ·rintro (⟨i, h1, h2⟩ | h1)
    ·exact ⟨i, by omega, h2⟩
    exact ⟨n, by omega, h1, h⟩
   rintro ⟨i, h1, h2, h3⟩
   by_cases e : i = n
   ·subst e; exact .inr h2
   exact .inl ⟨i, by omega, h2, h3⟩
  rw [rdyL_n h, ih]
  constructor
  ·rintro ⟨i, h1, h2⟩
   exact ⟨i, by omega, h2⟩
  rintro ⟨i, h1, h2, h3⟩
  by_cases e : i = n
  ·subst e; exact absurd h3 h
  exact ⟨i, by omega, h2, h3⟩
theorem holds_open {e : E} {c : List Int} (h : c.getD e.st.toNat 0 = -1) : holdsM e c = false := by
 unfold holdsM
 rw [h]
 split
 ·rfl
 split
 ·rfl
 exact inB_f (by omega)
theorem ready_at {l : List S} {s : List Int} {x : Int} (h : withM l s = 0) (hx : x ∈ readyM l s) : (0 ≤ x ∧ x < l.length) ∧ rdyAt l s x.toNat := by
 unfold readyM at hx
 rw [if_pos h] at hx
 obtain ⟨i, hi, rfl, h3⟩ := mem_rdyL.1 hx
 exact ⟨by omega, h3⟩
theorem held {e : E} {c : List Int} (h : holdsM e c = true) : c.getD e.st.toNat 0 ≠ -1 := fun h2 => by
 rw [holds_open h2] at h; cases h
theorem idxW_c (w : World) {A2 : Option Addr} {cap2 : Nat} {codes : List Int} (g : FuncId) (pr : Int → Bool) (hg : B.Can prog g) (h : St W F cs w) (hR : RdW W F cs Vi A2 codes) (hn : codes.length ≤ 100000) (hcl : ∀ w n, n ∈ codes → St W F cs w → Calls prog g #[Vi n] w fun e w' => e = .returned (.bool (pr n)) ∧ St W F cs w') : Calls prog 156 #[.slice A2 codes.length cap2, .func (.func g) #[] #[]] w fun e w' => (∃ z : Int, e = .returned (Vi z) ∧ decide (0 ≤ z) = codes.any pr) ∧ St W F cs w'  := by
 refine enter (args := [.slice A2 codes.length cap2, .func (.func g) #[] #[]]) func156 rfl rfl rfl<|Wi<|C0 1 rfl<|Wh<|C0 1 rfl<|I0 (Y0 underlying33 rfl rfl) rfl<|C0 1 rfl<|Wj<|B3 (σ := Nat) (fun q_ => [(0, .slice A2 codes.length cap2), (1, .func (.func g) #[] #[]), (7, .int .i64 (codes.length : Int)), (8, .int .i64 (q_ : Int))]) (fun q_ w => q_ ≤ codes.length ∧ (∀ j, j < q_ → pr (codes.getD j 0) = false) ∧ St W F cs w) (fun q_ => codes.length - q_) (0) (⟨Nat.zero_le _, fun j hj => absurd hj (Nat.not_lt_zero _), h⟩) ?_
 rintro i w1 ⟨hi, hno, hL⟩
 try dsimp only at hi hno hL
 refine W2 [(0, .slice A2 codes.length cap2), (1, .func (.func g) #[] #[]), (7, .int .i64 (codes.length : Int)), (8, .int .i64 (i : Int))]<|Wi<|C0 1 rfl<|Wb<|Z0 rfl (fun c2 => ?_) (fun c2 => ?_)
 ·try simp only [DD] at c2
  refine U0<|H0<|N0<|M1<|Wi<|C0 2 rfl<|J0 (H0 (N0 ?_))
  obtain ⟨ad, rfl, hrd⟩ := hR.at1 (by omega)
  refine L0<|C0 3 rfl<|I0 (W0 underlying33 inf3 rfl rfl (n := i) rfl (by omega)) rfl<|I0 (K0 underlying3 rfl rfl (hrd _ hL i 0 (by omega))) rfl<|S3 hg rfl rfl rfl (hcl _ _ (memD 0 (by omega)) hL) ?_
  rintro _ w3 ⟨rfl, h3⟩
  refine ⟨_, rfl,Wa<|Z0 rfl (fun c4 => ?_) (fun c4 => ?_)⟩
  ·try simp only [DD] at c4
   refine Wi<|C0 2 rfl<|Wg<|ret1 rfl rfl ⟨⟨_, rfl, by rw [dA (Int.natCast_nonneg i), any_t (d := 0) (by omega) c4]⟩, h3⟩
  try simp only [DD] at c4
  refine U0<|N1<|H0<|L0<|I0 (V0 rfl rfl (by omega)) rfl<|C0 1 rfl<|J0<|F1 (i + 1) (by omega) ⟨rfl, rfl, rfl, rfl, trivial⟩ ⟨by omega, fun j hj => (by
   by_cases e : j = i
   ·subst e; exact c4
   exact hno j (by omega)), h3⟩
 try simp only [DD] at c2
 refine U1<|B2<|WX.cut<|E2<|H0<|Wi<|C0 1 rfl<|Wg<|ret1 rfl rfl ⟨⟨_, rfl, by rw [any_f (d := 0) (fun j hj => hno j (by omega))]; rfl⟩, hL⟩
theorem cfW_c (w : World) {A2 : Option Addr} {cap2 : Nat} {codes : List Int} (g : FuncId) (pr : Int → Bool) (hg : B.Can prog g) (h : St W F cs w) (hR : RdW W F cs Vi A2 codes) (hn : codes.length ≤ 100000) (hcl : ∀ w n, n ∈ codes → St W F cs w → Calls prog g #[Vi n] w fun e w' => e = .returned (.bool (pr n)) ∧ St W F cs w') : Calls prog 163 #[.slice A2 codes.length cap2, .func (.func g) #[] #[]] w fun e w' => e = .returned (.bool (codes.any pr)) ∧ St W F cs w'  := by
 refine enter (args := [.slice A2 codes.length cap2, .func (.func g) #[] #[]]) func163 rfl rfl rfl<|Wi<|C0 1 rfl<|We<|C0 2 rfl<|V1 (cn func156) rfl rfl (idxW_c _ g pr hg h hR hn hcl) ?_
 rintro _ w1 ⟨⟨k, rfl, hk⟩, h1⟩
 refine ⟨_, rfl,C0 2 rfl<|Wg<|ret1 rfl rfl ⟨by rw [← hk], h1⟩⟩
theorem withW_c (w : World) {A : Option Addr} {cap : Nat} {l : List S} {A2 : Option Addr} {cap2 : Nat} {codes : List Int} (h : St W F cs w) (hR : RdS KS F A l) (hl : l.length ≤ 100000) (hf : fewE l) (hRc : RdW W F cs Vi A2 codes) (hc : codes.length ≤ 100000) : Calls prog 141 #[.slice A l.length cap, .slice A2 codes.length cap2] w fun r w' => r = .returned (Vi (withM l codes)) ∧ St W F cs w'  := by
 refine enter (args := [.slice A l.length cap, .slice A2 codes.length cap2]) func141 rfl rfl rfl<|Wi<|C0 1 rfl<|Wh<|C0 1 rfl<|C1 (cn func54) rfl rfl (check_c _ h hR hl hf) fun w1 h1 =>C0 1 rfl<|We<|C0 2 rfl<|Wa<|Z0 rfl (fun c2 => ?_) (fun c2 => ?_)
 ·try simp only [DD] at c2
  refine Wi<|C0 2 rfl<|Wg<|ret1 rfl rfl ⟨?_, h1⟩
  unfold withM
  rw [if_pos (by simpa using c2)]
 try simp only [DD] at c2
 refine U0 (H0 (N0 (N0 ?_)))
 have hcase : codes.length ≠ l.length ∨ codes.length = l.length := by omega
 rcases hcase with hx | hx
 ·refine L0<|C0 1 rfl<|I0 (R0 (n := (codes.length : Int)) (Y0 underlying33 rfl rfl) rfl) rfl<|C0 1 rfl<|I0 (R0 (n := (l.length : Int)) (Y0 underlying34 rfl rfl) rfl) rfl<|I0 (Bt (J2 rfl rfl) (by simp; omega)) rfl<|C0 4 rfl<|Wa<|J1 rfl (rfl)<|Wi<|C0 1 rfl<|Wg<|ret1 rfl rfl ⟨?_, h1⟩
  unfold withM
  rw [if_neg (by simpa using c2), if_pos (.inl hx)]
 refine L0<|C0 1 rfl<|I0 (R0 (n := (codes.length : Int)) (Y0 underlying33 rfl rfl) rfl) rfl<|C0 1 rfl<|I0 (R0 (n := (l.length : Int)) (Y0 underlying34 rfl rfl) rfl) rfl<|I0 (Bf (J2 rfl rfl) (by simp; omega)) rfl<|C0 2 rfl<|Q0 rfl<|C1 (cn func163) rfl rfl (cfW_c _ 164 (fun c => !inB c (-1) 256) (cn func164) h1 hRc hc (fun w n _ h => with1_c w n h)) fun w3 h3 =>C0 1 rfl<|Wa<|Z0 rfl (fun c4 => ?_) (fun c4 => ?_)
 ·try simp only [DD] at c4
  refine Wi<|C0 1 rfl<|Wg<|ret1 rfl rfl ⟨?_, h3⟩
  unfold withM
  rw [if_neg (by simpa using c2), if_pos (.inr c4)]
 try simp only [DD] at c4
 refine Wk<|C0 1 rfl<|Wg<|ret1 rfl rfl ⟨?_, h3⟩
 unfold withM
 rw [if_neg (by simpa using c2), if_neg (by rintro (h1 | h1); exact h1 hx; rw [c4] at h1; cases h1)]
theorem readyW_c (w : World) {A : Option Addr} {cap : Nat} {l : List S} {A2 : Option Addr} {cap2 : Nat} {codes : List Int} (h : St W F cs w) (hR : RdS KS F A l) (hl : l.length ≤ 100000) (hf : fewE l) (hRc : RdW W F cs Vi A2 codes) (hc : codes.length ≤ 100000) : Calls prog 102 #[.slice A l.length cap, .slice A2 codes.length cap2] w fun r w' => Gives2 W F cs (readyM l codes) (withM l codes) r w'  := by
 refine enter (args := [.slice A l.length cap, .slice A2 codes.length cap2]) func102 rfl rfl rfl<|Wi<|C0 2 rfl<|Wa<|WC.scope (fun _ _ _ h_ => h_)<|N0<|Wi<|C0 2 rfl<|C1 (cn func141) rfl rfl (withW_c _ h hR hl hf hRc hc) fun w1 h1 =>C0 1 rfl<|We<|C0 2 rfl<|Wa<|Z0 rfl (fun c2 => ?_) (fun c2 => ?_)
 ·try simp only [DD] at c2
  refine Wi<|C0 3 rfl<|Wg<|ret2 rfl rfl rfl (by unfold readyM; rw [if_neg (by simpa using c2)]; exact I5 _ (Row.nil 3 Vi) h1.nilRes)
 try simp only [DD] at c2
 refine U0 (H0 (N0 ?_))
 have hw0 : withM l codes = 0 := by simpa using c2
 have hw := with_ok hw0
 have hall := (chk_ok hw.1).1
 refine L0<|C0 1 rfl<|Wb<|WC.label<|H0<|N0<|Wi<|C0 1 rfl<|I0 (Y0 underlying34 rfl rfl) rfl<|C0 1 rfl<|Wj<|B3 (σ := Nat × Res × Value) (fun q_ => [(1, .slice A2 codes.length cap2), (7, q_.2.2), (18, .slice A l.length cap), (19, .int .i64 (l.length : Int)), (20, .int .i64 (q_.1 : Int))]) (fun q_ w => q_.1 ≤ l.length ∧ Row 3 Vi q_.2.1 q_.2.2 (rdyL l codes q_.1) ∧ St W F (q_.2.1 :: cs) w) (fun q_ => l.length - q_.1) (⟨0, [], .slice none 0 0⟩) (⟨Nat.zero_le _, Row.nil _ _, h1.nilRes⟩) ?_
 rintro ⟨i, r, v⟩ w3 ⟨hi, hro, hL⟩
 try dsimp only at hi hro hL
 refine W2 [(1, .slice A2 codes.length cap2), (7, v), (18, .slice A l.length cap), (19, .int .i64 (l.length : Int)), (20, .int .i64 (i : Int))] ?_
 obtain ⟨B, capr, rfl, hcap⟩ := hro.val
 have hln := rdyL_len l codes i
 refine Wi<|C0 1 rfl<|Wb<|Z0 rfl (fun c4 => ?_) (fun c4 => ?_)
 ·try simp only [DD] at c4
  refine U0 (H0 (N0 (M1 (N0 ?_))))
  have hi2 : i < l.length := by omega
  obtain ⟨ad, A1, cap1, rfl, hE, hcell⟩ := stepAt hR hi2
  have hf2 := hf i hi2
  obtain ⟨ac, rfl, hrc⟩ := hRc.at1 (by omega)
  refine L0<|C0 1 rfl<|I0 (N2 underlying34 inf68 rfl rfl (n := i) rfl (by omega)) rfl<|I0 (Runs.stepA (s := (l.getD i S0)) hL hcell underlying68 rfl inf68 rfl) rfl<|O2 rfl hL inf68 fun b9 w5 h5=>C0 1 rfl<|F4 h5 0 rfl rfl rfl inf68 rfl rfl rfl ?_
  intro  w6 h6
  try simp only [ZZ] at h6
  refine Wh<|C0 2 rfl<|I0 (W0 underlying33 inf3 rfl rfl (n := i) rfl (by omega)) rfl<|I0 (K0 underlying3 rfl rfl (hrc _ ((h6.drop 0).drop 0) i 0 (by omega))) rfl<|C0 1 rfl<|Wa<|Z0 rfl (fun c7 => ?_) (fun c7 => ?_)
  ·try simp only [DD] at c7
   refine U1<|B2<|E2<|H0<|L0<|I0 (V0 rfl rfl (by omega)) rfl<|C0 1 rfl<|J0<|F1 (⟨i + 1, r, _⟩ : Nat × Res × Value) (by show l.length - (i + 1) < l.length - i; omega) ⟨rfl, rfl, rfl, rfl, rfl, trivial⟩ ⟨by show i + 1 ≤ _; omega, (by
    show Row 3 Vi r (.slice B (rdyL l codes i).length capr) (rdyL l codes (i + 1))
    rw [rdyL_n (fun hh => absurd hh.1 (by simpa using c7))]
    exact hro), (h6.drop 0)⟩
  try simp only [DD] at c7
  refine U0<|H0<|N0<|Wi<|H1 h6 [0] 2 rfl<|I0 (R0 (n := ((l.getD i S0).af.length : Int)) (Y0 underlying66 rfl rfl) rfl) rfl<|C0 1 rfl<|Wj<|B3 (σ := Nat) (fun q_ => [(1, .slice (some ac) codes.length cap2), (7, .slice B (rdyL l codes i).length capr), (8, .int .i64 (i : Int)), (18, .slice (some ad) l.length cap), (19, .int .i64 (l.length : Int)), (20, .int .i64 (i : Int)), (31, .slice A1 (l.getD i S0).af.length cap1), (32, .int .i64 ((l.getD i S0).af.length : Int)), (33, .int .i64 (q_ : Int))]) (fun q_ w => q_ ≤ (l.getD i S0).af.length ∧ (∀ j, j < q_ → holdsM ((l.getD i S0).af.getD j E0) codes = true) ∧ St W F ([(b9, .cells #[Vi (l.getD i S0).rk, Vi (l.getD i S0).per, Vi (l.getD i S0).ds, Vi (l.getD i S0).lim, .slice A1 (l.getD i S0).af.length cap1] 68 (0, 0))] :: r :: cs) w) (fun q_ => (l.getD i S0).af.length - q_) (0) (⟨Nat.zero_le _, fun j hj => absurd hj (Nat.not_lt_zero _), h6⟩) ?_
  rintro k w8 ⟨hk, hin, hL⟩
  try dsimp only at hk hin hL
  refine W2 [(1, .slice (some ac) codes.length cap2), (7, .slice B (rdyL l codes i).length capr), (8, .int .i64 (i : Int)), (18, .slice (some ad) l.length cap), (19, .int .i64 (l.length : Int)), (20, .int .i64 (i : Int)), (31, .slice A1 (l.getD i S0).af.length cap1), (32, .int .i64 ((l.getD i S0).af.length : Int)), (33, .int .i64 (k : Int))]<|Wi<|C0 1 rfl<|Wb<|Z0 rfl (fun c9 => ?_) (fun c9 => ?_)
  ·try simp only [DD] at c9
   refine U0 (H0 (N0 (M1 (N0 ?_))))
   have hk2 : k < (l.getD i S0).af.length := by omega
   obtain ⟨ae, rfl⟩ := rdA hE (by omega)
   refine L0<|I0 (N2 underlying66 inf115 rfl rfl (n := k) rfl (by omega)) rfl<|I0 (R5 hL hE rfl (by omega) underlying115 rfl inf115 rfl) rfl<|O2 rfl hL inf115 fun b11 w10 h10=>F4 h10 0 rfl rfl rfl inf115 rfl rfl rfl ?_
   intro  w11 h11
   try simp only [ZZ] at h11
   refine We<|I0 (U2 h11 0 rfl underlying115 rfl inf115 rfl rfl) rfl<|C0 1 rfl<|C1 (cn func143) rfl rfl (holds_c _ ((l.getD i S0).af.getD k E0) h11 (K6 (K6 (K6 hRc))) (by have := edge_in hall hi2 hk2; omega)) fun w12 h12 =>C0 1 rfl<|Wa<|Z0 rfl (fun c13 => ?_) (fun c13 => ?_)
   ·try simp only [DD] at c13
    refine U1<|C6 rfl<|B2<|WX.cut<|C6 rfl<|B2<|E2<|H0<|L0<|I0 (V0 rfl rfl (by omega)) rfl<|C0 1 rfl<|J0<|F1 (⟨i + 1, r, _⟩ : Nat × Res × Value) (by show l.length - (i + 1) < l.length - i; omega) ⟨rfl, rfl, rfl, rfl, rfl, trivial⟩ ⟨by show i + 1 ≤ _; omega, (by
     show Row 3 Vi r (.slice B (rdyL l codes i).length capr) (rdyL l codes (i + 1))
     rw [rdyL_n (fun hh => absurd (hh.2 k hk2) (by simpa using c13))]
     exact hro), ((h12.drop 0).drop 0)⟩
   try simp only [DD] at c13
   refine U0<|N1<|H0<|L0<|I0 (V0 rfl rfl (by omega)) rfl<|C0 1 rfl<|J0<|F1 (k + 1) (by omega) ⟨rfl, rfl, rfl, rfl, rfl, rfl, rfl, rfl, rfl, trivial⟩ ⟨by omega, fun j hj => (by
    by_cases e : j = k
    ·subst e; simpa using c13
    exact hin j (by omega)), h12.drop 0⟩
  try simp only [DD] at c9
  refine U1<|B2<|WX.cut<|E2<|H0<|L0<|C0 2 rfl<|X2 (vs := (([(i : Int)] : List Int)).map Vi) hL rfl underlying33 inf3 rfl rfl rfl rfl rfl fun lit44 w14 h14=>I3 (ys := ([(i : Int)] : List Int)) 2 h14 rfl rfl rfl rfl underlying33 underlying33 (.inr ⟨_, rfl⟩) inf3 rfl hro (Src.lit h14 0 rfl rfl rfl) rfl rfl (by first | omega | (simp []; done) | (simp []; omega)) (by first | omega | (simp []; done) | (simp []; omega)) ?_
  intro r15 v15 w16 hr15 h16
  simp only [lz, ls] at h16
  replace h16 := h16.drop 0
  simp only [ez, es'] at h16
  refine C0 1 rfl<|J0<|N1<|H0<|L0<|I0 (V0 rfl rfl (by omega)) rfl<|C0 1 rfl<|J0<|F1 (⟨i + 1, r15, v15⟩ : Nat × Res × Value) (by show l.length - (i + 1) < l.length - i; omega) ⟨rfl, rfl, rfl, rfl, rfl, trivial⟩ ⟨by show i + 1 ≤ _; omega, (by
   show Row 3 Vi r15 v15 (rdyL l codes (i + 1))
   rw [rdyL_y ⟨by simpa using c7, fun j hj => hin j (by omega)⟩]
   exact hr15), (h16.drop 0)⟩
 try simp only [DD] at c4
 refine U1<|B2<|WX.cut<|E2<|H0<|Wi<|C0 3 rfl<|J0 (H0 (O1 ?_))
 obtain rfl : i = l.length := by omega
 exact ret2 rfl rfl rfl (by unfold readyM; rw [if_pos hw0, hw0]; exact I5 _ hro hL)
theorem settle_o (w : World) {A : Option Addr} {cap : Nat} {l : List S} {A2 : Option Addr} {cap2 : Nat} {codes : List Int} (h : St W F cs w) (hR : RdS KS F A l) (hl : l.length ≤ 100000) (hf : fewE l) (hRc : RdS (Kd.one Vi) F A2 codes) (hc : codes.length ≤ 100000) (hw9 : withM l codes = 0) : Calls prog 101 #[.slice A l.length cap, .slice A2 codes.length cap2] w fun r w' => ∃ G rr v, Le F G ∧ r = .returned (.tuple #[v, Vi 0]) ∧ Row 3 Vi rr v (settleM l codes) ∧ St W G (rr :: cs) w'  := by
 refine enter (args := [.slice A l.length cap, .slice A2 codes.length cap2]) func101 rfl rfl rfl<|Wi<|J3 rfl h rfl fun b3 w1 h1=>C0 2 rfl<|Wh<|H1 h1 [0] 2 rfl<|V1 (cn func141) rfl rfl (with_c _ h1 hR hl hf hRc hc) ?_
 rintro _ w2 ⟨rfl, h2⟩
 refine ⟨_, rfl,C0 1 rfl<|We<|C0 2 rfl<|Wa<|Z0 rfl (fun c3 => ?_) (fun c3 => ?_)⟩
 ·try simp only [DD] at c3
  first
  |(exfalso; omega)
  |skip
   refine Wi<|C0 3 rfl<|Wg<|absurd hw9 (by simpa using c3)
 try simp only [DD] at c3
 first
 |(exfalso; omega)
 |skip
  refine U0 (H0 (N0 ?_))
  have hw0 : withM l codes = 0 := by simpa using c3
  have hw := with_ok hw0
  have hall := (chk_ok hw.1).1
  refine L0<|H1 h2 [0] 1 rfl<|V1 (cn func44) rfl rfl (clone_c _ h2 hRc (by have := (chk_ok hw.1).2; omega) hc) ?_
  rintro _ w4 ⟨r0, v0, rfl, hr0, h4⟩
  refine ⟨_, rfl, ?_⟩
  obtain ⟨B0, capr0, rfl, hcap0⟩ := hr0.val
  refine O3 h4 1 rfl rfl rfl inf33 rfl rfl ?_
  intro  w5 h5
  try simp only [ZZ] at h5
  refine Wh<|C0 1 rfl<|V1 (cn func96) rfl rfl (order_c _ h5 hR hl hf) ?_
  rintro _ w6 ⟨G, A3, cap3, hG, rfl, hc3, hR3, h6⟩
  refine ⟨_, rfl,I0 (R0 (n := ((ordM l).length : Int)) (Y0 underlying33 rfl rfl) rfl) rfl<|C0 1 rfl<|Wj<|N4 (σ := Nat × List Int × Res × Value) (fun q_ => [(0, .slice A l.length cap), (3, pz b3), (19, .slice A3 (ordM l).length cap3), (20, .int .i64 ((ordM l).length : Int)), (21, .int .i64 (q_.1 : Int))]) (fun q_ w => q_.1 ≤ (ordM l).length ∧ q_.2.1 = stlF l ((ordM l).take q_.1) codes ∧ q_.2.1.length = l.length ∧ Row 3 Vi q_.2.2.1 q_.2.2.2 q_.2.1 ∧ St W G (q_.2.2.1 :: [(b3, .cells #[q_.2.2.2] 33 (0, 0))] :: cs) w) (fun q_ => (ordM l).length - q_.1) (⟨0, codes, r0, _⟩) (by repeat (first | exact trivial | refine ⟨rfl, ?_⟩)) (⟨Nat.zero_le _, rfl, hw.2.1, hr0, h6⟩) ?_⟩
  rintro ⟨k, c, r, v⟩ w7 ⟨hk, hcM, hcl, hro, hL⟩
  try dsimp only at hk hcM hcl hro hL
  refine WC.sub (s := [(0, .slice A l.length cap), (3, pz b3), (19, .slice A3 (ordM l).length cap3), (20, .int .i64 ((ordM l).length : Int)), (21, .int .i64 (k : Int))]) (by repeat (first | exact trivial | refine ⟨rfl, ?_⟩)) ?_
  obtain ⟨B, capr, rfl, hcap⟩ := hro.val
  refine Wi<|C0 1 rfl<|Wb<|Z0 rfl (fun c8 => ?_) (fun c8 => ?_)
  ·try simp only [DD] at c8
   first
   |(exfalso; omega)
   |skip
    refine U0 (H0 (N0 (M1 (N0 ?_))))
    have hk2 : k < (ordM l).length := by omega
    obtain ⟨a3, rfl, hrd⟩ := rd1 hR3 (by omega)
    have hxi := ordM_in _ (memD 0 hk2)
    have hx2 : ((ordM l).getD k 0).toNat < l.length := by omega
    obtain ⟨ad, A1, cap1, rfl, hE, hcell⟩ := stepAt (hR.mono hG) hx2
    have hf2 := hf _ hx2
    have hlo := ordM_len l
    obtain ⟨bb, zs, fz, rfl, hBv, hfr⟩ := Row.blk hro (by omega)
    injection hBv with e1 e2 e3
    subst e1
    subst e3
    refine L0<|I0 (W0 underlying33 inf3 rfl rfl (n := k) rfl (by omega)) rfl<|I0 (I1 (f := Vi) (0 : Int) hL hrd (n := k) (by omega) underlying3 rfl rfl) rfl<|C0 1 rfl<|We<|I0 (Runs.makeFunc (us := []) (vs := [pz b3]) rfl rfl) rfl<|C0 1 rfl<|J0 (H0 (N0 ?_))
    by_cases hx : c.getD ((ordM l).getD k 0).toNat 0 = -1
    ·refine L0<|H1 hL [1] 2 rfl<|I0 (W0 underlying33 inf3 rfl rfl (n := ((ordM l).getD k 0).toNat) (by omega) (by omega)) rfl<|I0 (I2 (0 : Int) hL 0 rfl hro (n := ((ordM l).getD k 0).toNat) (by omega) underlying3 rfl rfl) rfl<|I0 (Bt (L1 rfl rfl) (dA hx)) rfl<|C0 3 rfl<|Q0 rfl<|I0 (N2 underlying34 inf68 rfl rfl (n := ((ordM l).getD k 0).toNat) (by omega) (by omega)) rfl<|C0 1 rfl<|Q0 rfl<|I0 (K0 underlying66 rfl rfl (by rw [add_add]; exact hL.cell (hcell 4 _ rfl))) rfl<|C0 1 rfl<|Q0 rfl<|V1 (cn func144) rfl rfl (cfE_c _ 142 _ (fun e => failM e c) (cn func142) hL hE hf2 (fun w e he h => settle1_c w e h (i := 1) rfl (RdW.row hro (i := 0) rfl rfl h) (edge_mem hall hx2 he hcl))) ?_
     rintro _ w9 ⟨rfl, h9⟩
     refine ⟨_, rfl,C0 1 rfl<|Wa<|Z0 rfl (fun c10 => ?_) (fun c10 => ?_)⟩
     ·try simp only [DD] at c10
      first
      |(exfalso; omega)
      |skip
       refine L0<|H1 h9 [1] 2 rfl<|I0 (X1 (u := .pointer (some ⟨bb, ((ordM l).getD k 0).toNat, none⟩)) (W0 underlying33 inf3 rfl rfl (n := ((ordM l).getD k 0).toNat) (by omega) (by omega)) (by rw [add_mk, Nat.zero_add])) rfl<|E4 (n := ((ordM l).getD k 0).toNat) (u := (256 : Int)) h9 0 rfl rfl rfl inf3 rfl hfr (by omega) ?_
       intro  w11 h11
       try simp only [ZZ] at h11
       refine J0<|N1<|H0<|L0<|I0 (V0 rfl rfl (by omega)) rfl<|C0 1 rfl<|J0 ?_
       have e9 : stlS l c ((ordM l).getD k 0) = c.set ((ordM l).getD k 0).toNat 256 := by unfold stlS; rw [if_pos ⟨hx, c10⟩]
       have hr9 := T3 (E := 3) (f := Vi) (b := bb) (fz := fz) (xs := c.set ((ordM l).getD k 0).toNat 256) (zs := zs) (cap := c.length + zs.length) (by rw [List.length_set]) (by rw [List.length_set]; exact hfr)
       rw [List.length_set] at hr9
       exact F1 (⟨k + 1, c.set ((ordM l).getD k 0).toNat 256, _, _⟩ : Nat × List Int × Res × Value) (by show (ordM l).length - (k + 1) < (ordM l).length - k; omega) ⟨rfl, rfl, rfl, rfl, rfl, trivial⟩ ⟨by show k + 1 ≤ _; omega, (by show _ = stlF l ((ordM l).take (k + 1)) codes; rw [stlF_s hk2, ← hcM, e9]), (by show (c.set _ _).length = _; rw [List.length_set]; exact hcl), hr9, h11⟩
     try simp only [DD] at c10
     first
     |(exfalso; omega)
     |skip
      refine U0<|N1<|H0<|L0<|I0 (V0 rfl rfl (by omega)) rfl<|C0 1 rfl<|J0 ?_
      have e9 : stlS l c ((ordM l).getD k 0) = c := by unfold stlS; rw [if_neg (fun hh => absurd hh.2 (by rw [c10]; simp))]
      exact F1 (⟨k + 1, c, _, _⟩ : Nat × List Int × Res × Value) (by show (ordM l).length - (k + 1) < (ordM l).length - k; omega) ⟨rfl, rfl, rfl, rfl, rfl, trivial⟩ ⟨by show k + 1 ≤ _; omega, (by show _ = stlF l ((ordM l).take (k + 1)) codes; rw [stlF_s hk2, ← hcM, e9]), hcl, hro, h9⟩
    refine L0<|H1 hL [1] 2 rfl<|I0 (W0 underlying33 inf3 rfl rfl (n := ((ordM l).getD k 0).toNat) (by omega) (by omega)) rfl<|I0 (I2 (0 : Int) hL 0 rfl hro (n := ((ordM l).getD k 0).toNat) (by omega) underlying3 rfl rfl) rfl<|I0 (Bf (L1 rfl rfl) (dN hx)) rfl<|C0 9 rfl<|Wa<|E1 rfl (rfl)<|U0<|N1<|H0<|L0<|I0 (V0 rfl rfl (by omega)) rfl<|C0 1 rfl<|J0 ?_
    have e9 : stlS l c ((ordM l).getD k 0) = c := by unfold stlS; rw [if_neg (fun hh => hx hh.1)]
    exact F1 (⟨k + 1, c, _, _⟩ : Nat × List Int × Res × Value) (by show (ordM l).length - (k + 1) < (ordM l).length - k; omega) ⟨rfl, rfl, rfl, rfl, rfl, trivial⟩ ⟨by show k + 1 ≤ _; omega, (by show _ = stlF l ((ordM l).take (k + 1)) codes; rw [stlF_s hk2, ← hcM, e9]), hcl, hro, hL⟩
  try simp only [DD] at c8
  first
  |(exfalso; omega)
  |skip
   refine U1<|B2<|WX.cut<|E2<|H0<|Wi<|H1 hL [1] 3 rfl<|J0 (H0 (O1 ?_))
   have hkk : k = (ordM l).length := by omega
   subst hkk
   rw [List.take_of_length_le (Nat.le_refl _)] at hcM
   refine ret2 rfl rfl rfl ?_
   unfold settleM
   rw [if_pos hw0, ← hcM]
   exact ⟨G, _, _, hG, rfl, hro, hL.drop 1⟩
end Dg
open Go Go.RowKit
open B
namespace Tal
abbrev Vi (n : Int) : Value := .int .i64 n
variable {α : Type}
def PO (f : α → Value) (F : Snap) (v : Value) : Option α → Prop
 |none => v = .pointer none
 |some x => ∃ a, v = .pointer (some a) ∧ cellF F a = some (f x)
def MR (f : α → Value) (F : Snap) : List Int → List (Option α) → List (Int × Value) → Prop
 |[], [], [] => True
 |n :: ns, o :: os, p :: l => p.1 = n ∧ PO f F p.2 o ∧ MR f F ns os l
 |_, _, _ => False
def look (n : Int) : List Int → List (Option α) → Option (Option α)
 |m :: ns, o :: os => if n = m then some o else look n ns os
 |_, _ => none
def put (n : Int) (x : α) : List Int → List (Option α) → List (Option α)
 |m :: ns, o :: os => if n = m then some x :: os else o :: put n x ns os
 |_, os => os
def miss : List Int → List (Option α) → List Int
 |n :: ns, o :: os => if o.isNone then n :: miss ns os else miss ns os
 |_, _ => []
theorem PO.mono {f : α → Value} {F G : Snap} (hle : Le F G) {v : Value} : ∀ {o : Option α}, PO f F v o → PO f G v o
 |none, h => h
 |some _, ⟨a, h1, h2⟩ => ⟨a, h1, cellF_le hle h2⟩
theorem PO.ptr {f : α → Value} {F : Snap} {v : Value} : ∀ {o : Option α}, PO f F v o → ∃ p, v = .pointer p ∧ p.isSome = o.isSome
 |none, h => ⟨none, h, rfl⟩
 |some _, ⟨a, h1, _⟩ => ⟨some a, h1, rfl⟩
theorem MR.mono {f : α → Value} {F G : Snap} (hle : Le F G) : ∀ {ns : List Int} {os : List (Option α)} {l : List (Int × Value)}, MR f F ns os l → MR f G ns os l
 |[], [], [], _ => trivial
 |_ :: _, _ :: _, _ :: _, ⟨h1, h2, h3⟩ => ⟨h1, h2.mono hle, MR.mono hle h3⟩
theorem MR.len {f : α → Value} {F : Snap} : ∀ {ns : List Int} {os : List (Option α)} {l : List (Int × Value)}, MR f F ns os l → os.length = ns.length ∧ l.length = ns.length
 |[], [], [], _ => ⟨rfl, rfl⟩
 |_ :: _, _ :: _, _ :: _, ⟨_, _, h3⟩ => by obtain ⟨h4, h5⟩ := h3.len; simp [h4, h5]
theorem MR.at_ {f : α → Value} {F : Snap} : ∀ {ns : List Int} {os : List (Option α)} {l : List (Int × Value)} {p : Nat} {kv : Int × Value}, MR f F ns os l → l[p]? = some kv → ∃ o, os[p]? = some o ∧ PO f F kv.2 o
 |_ :: _, _ :: _, _ :: _, 0, _, ⟨_, h2, _⟩, e => by simp only [List.getElem?_cons_zero, Option.some.injEq] at e; subst e; exact ⟨_, rfl, h2⟩
 |_ :: _, _ :: _, _ :: _, p + 1, kv, ⟨_, _, h3⟩, e => by
  simp only [List.getElem?_cons_succ] at e
  obtain ⟨o, h4, h5⟩ := h3.at_ e
  exact ⟨o, by simpa using h4, h5⟩
 |[], [], [], _, _, _, e => by simp at e
theorem MR.find {f : α → Value} {F : Snap} (n : Int) : ∀ {ns : List Int} {os : List (Option α)} {l : List (Int × Value)} (j : Nat), MR f F ns os l → (look n ns os = none ∧ mfind n l j = none) ∨ ∃ o i v, look n ns os = some o ∧ mfind n l j = some (i, v) ∧ PO f F v o
 |[], [], [], _, _ => .inl ⟨rfl, rfl⟩
 |m :: ns, o :: os, p :: l, j, ⟨h1, h2, h3⟩ => by
  unfold look mfind
  rw [h1]
  by_cases e : n = m
  ·rw [if_pos e, if_pos e]
   exact .inr ⟨o, j, p.2, rfl, rfl, h2⟩
  rw [if_neg e, if_neg e]
  exact MR.find n (j + 1) h3
theorem MR.put {f : α → Value} {F : Snap} {n : Int} {x : α} {v : Value} (hv : PO f F v (some x)) : ∀ {ns : List Int} {os : List (Option α)} {l : List (Int × Value)}, MR f F ns os l → (look n ns os).isSome = true → MR f F ns (put n x ns os) (mset n v l)
 |[], [], [], _, h => by simp [look] at h
 |m :: ns, o :: os, p :: l, ⟨h1, h2, h3⟩, h => by
  unfold look at h
  unfold Tal.put mset
  rw [h1]
  by_cases e : n = m
  ·rw [if_pos e, if_pos e]
   exact ⟨e, hv, h3⟩
  rw [if_neg e] at h
  rw [if_neg e, if_neg e]
  exact ⟨h1, h2, h3.put hv h⟩
theorem MR.snoc {f : α → Value} {F : Snap} {n : Int} {o : Option α} {v : Value} (hv : PO f F v o) : ∀ {ns : List Int} {os : List (Option α)} {l : List (Int × Value)}, MR f F ns os l → n ∉ ns → MR f F (ns ++ [n]) (os ++ [o]) (mset n v l)
 |[], [], [], _, _ => ⟨rfl, hv, trivial⟩
 |m :: ns, o' :: os, p :: l, ⟨h1, h2, h3⟩, h => by
  simp only [List.mem_cons, not_or] at h
  unfold mset
  rw [h1, if_neg h.1]
  exact ⟨h1, h2, h3.snoc hv h.2⟩
theorem look_mem (n : Int) : ∀ {ns : List Int} {os : List (Option α)}, os.length = ns.length → n ∈ ns → ∃ o, look n ns os = some o
 |m :: ns, o :: os, hl, h => by
  unfold look
  by_cases e : n = m
  ·exact ⟨o, if_pos e⟩
  rw [if_neg e]
  exact look_mem n (by simpa using hl) (by simpa [e] using h)
theorem miss_filter : ∀ {ns : List Int} {os : List (Option α)}, os.length = ns.length → ns.Nodup → ns.filter (fun n => !((look n ns os).getD none).isSome) = miss ns os
 |[], [], _, _ => rfl
 |m :: ns, o :: os, hl, hd => by
  have hd' := List.nodup_cons.1 hd
  have e1 : ns.filter (fun n => !((look n (m :: ns) (o :: os)).getD none).isSome) = ns.filter (fun n => !((look n ns os).getD none).isSome) := by
   apply List.filter_congr
   intro x hx
   have : x ≠ m := fun e => hd'.1 (e ▸ hx)
   simp [look, this]
  rw [List.filter_cons, e1, miss_filter (by simpa using hl) hd'.2]
  simp only [look, if_true, Option.getD_some, miss]
  cases o <;> simp
theorem miss_none : ∀ {ns : List Int} {os : List (Option α)}, os.length = ns.length → (miss ns os = [] ↔ ∀ o ∈ os, o.isSome = true)
 |[], [], _ => by simp [miss]
 |n :: ns, o :: os, hl => by
  unfold miss
  have := miss_none (ns := ns) (os := os) (by simpa using hl)
  cases o <;> simp [this]
structure T where
 ns : List Int
 vs : List (Option Bool)
 cs : List (Option Int)
def T.state (t : T) : Int := if some false ∈ t.vs then 2 else if (miss t.ns t.vs).length > 0 then 0 else if (miss t.ns t.cs).length > 0 then 1 else 3
def say [DecidableEq α] (ns : List Int) (os : List (Option α)) (n : Int) (x : α) (may : Bool) : Int × List (Option α) :=
 match look n ns os with
 |none => (1, os)
 |some (some y) => if y = x then (0, os) else (14, os)
 |some none => if may then (0, put n x ns os) else (14, os)
def T.vote (t : T) (n : Int) (b : Bool) : Int × T := ((say t.ns t.vs n b (decide (t.state = 0))).1, { t with vs := (say t.ns t.vs n b (decide (t.state = 0))).2 })
def T.exit (t : T) (n c : Int) : Int × T := if c < 0 ∨ 255 < c then (1, t) else ((say t.ns t.cs n c (decide (t.state = 1))).1, { t with cs := (say t.ns t.cs n c (decide (t.state = 1))).2 })
def worst : List Int → Int
 |[] => 0
 |a :: l => l.foldl max a
def T.code (t : T) : Int := if t.state ≠ 3 then 0 else worst (t.cs.map (·.getD 0))
def T.missing (t : T) : List Int := if t.state = 0 then miss t.ns t.vs else if t.state = 1 then miss t.ns t.cs else []
theorem mixed : prog.follows .mixedOrders = true := by kernel_rfl
theorem inf3 : Inf prog 3 (.int .i64 0) 1 8 := by unfold Inf; kernel_rfl
theorem inf140 : Inf prog 140 (.pointer none) 1 8 := by unfold Inf; kernel_rfl
theorem inf167 : Inf prog 167 (.pointer none) 1 8 := by unfold Inf; kernel_rfl
def FI (pr : Int → Bool) (xs : List Int) (z : Int) : Prop := (∃ i : Nat, z = i ∧ i < xs.length ∧ (∀ x ∈ xs.take i, pr x = false) ∧ pr (xs.getD i 0) = true) ∨ (z = -1 ∧ ∀ x ∈ xs, pr x = false)
def kp (pr : Int → Bool) (xs : List Int) (j : Nat) : List Int := (xs.take j).filter fun x => !pr x
theorem kp_len (pr : Int → Bool) (xs : List Int) (j : Nat) : (kp pr xs j).length ≤ j := Nat.le_trans (List.length_filter_le _ _) (by rw [List.length_take]; omega)
theorem take_nx {xs : List Int} {i : Nat} (hi : i < xs.length) : xs.take (i + 1) = xs.take i ++ [xs.getD i 0] := by
 rw [List.take_succ_eq_append_getElem hi, gD, gE hi]; rfl
theorem kp_yes {pr : Int → Bool} {xs : List Int} {j : Nat} (hj : j < xs.length) (h : pr (xs.getD j 0) = false) : kp pr xs (j + 1) = kp pr xs j ++ [xs.getD j 0] := by
 unfold kp; rw [take_nx hj, List.filter_append, List.filter_cons_of_pos (by simp only [h]; rfl)]; rfl
theorem kp_no {pr : Int → Bool} {xs : List Int} {j : Nat} (hj : j < xs.length) (h : pr (xs.getD j 0) = true) : kp pr xs (j + 1) = kp pr xs j := by
 unfold kp; rw [take_nx hj, List.filter_append, List.filter_cons_of_neg (by simp only [h]; simp)]; simp
theorem kp_all {pr : Int → Bool} {xs : List Int} {i : Nat} (h : ∀ x ∈ xs.take i, pr x = false) : kp pr xs i = xs.take i := by
 unfold kp
 rw [List.filter_eq_self]
 intro x hx; simp [h x hx]
def row_ (pr : Int → Bool) (xs : List Int) (j : Nat) : List Int := kp pr xs j ++ xs.drop (kp pr xs j).length
theorem row_len (pr : Int → Bool) (xs : List Int) (j : Nat) (hj : j ≤ xs.length) : (row_ pr xs j).length = xs.length := by
 have := kp_len pr xs j
 unfold row_; rw [lA, List.length_drop]; omega
theorem row_at (pr : Int → Bool) (xs : List Int) (j : Nat) (hj : j < xs.length) : (row_ pr xs j).getD j 0 = xs.getD j 0 := by
 have := kp_len pr xs j
 rw [gD, gD, row_, List.getElem?_append_right this, List.getElem?_drop]
 rw [show (kp pr xs j).length + (j - (kp pr xs j).length) = j by omega]
theorem row_set {pr : Int → Bool} {xs : List Int} {j : Nat} (hj : j < xs.length) (h : pr (xs.getD j 0) = false) : (row_ pr xs j).set (kp pr xs j).length (xs.getD j 0) = row_ pr xs (j + 1) := by
 have := kp_len pr xs j
 unfold row_
 rw [kp_yes hj h, List.set_append_right _ _ (Nat.le_refl _), Nat.sub_self, List.drop_eq_getElem_cons (show (kp pr xs j).length < xs.length by omega), List.set_cons_zero, lA]
 simp
theorem row_skip {pr : Int → Bool} {xs : List Int} {j : Nat} (hj : j < xs.length) (h : pr (xs.getD j 0) = true) : row_ pr xs (j + 1) = row_ pr xs j := by
 unfold row_; rw [kp_no hj h]
theorem row_first {pr : Int → Bool} {xs : List Int} {i : Nat} (hi : i < xs.length) (h : ∀ x ∈ xs.take i, pr x = false) (hp : pr (xs.getD i 0) = true) : (kp pr xs (i + 1)).length = i ∧ row_ pr xs (i + 1) = xs := by
 have e : kp pr xs (i + 1) = xs.take i := by rw [kp_no hi hp, kp_all h]
 have e2 : (xs.take i).length = i := by rw [List.length_take]; omega
 unfold row_
 rw [e, e2]
 exact ⟨rfl, List.take_append_drop _ _⟩
theorem mem_at {xs : List Int} {j : Nat} (hj : j < xs.length) : xs.getD j 0 ∈ xs := by
 rw [gD, gE hj]; simp
theorem blit_tail (K xs : List Int) (zs : List Value) (off n : Nat) (hn : K.length + n = xs.length) (ho : off = K.length ∨ n = 0) : blit ((K ++ xs.drop K.length).map Vi ++ zs).toArray off (List.replicate n (Vi 0)) = (K.map Vi ++ (List.replicate n (Vi 0) ++ zs)).toArray := by
 apply Array.toList_inj.1
 rcases ho with rfl | rfl
 ·rw [blit_toList _ _ _ (by simp; omega)]
  have hd : (List.drop (K.length + n) xs) = [] := List.drop_of_length_le (by omega)
  have e1 : (List.drop n ((List.drop K.length xs).map Vi ++ zs)) = zs := by
   rw [List.drop_append_of_le_length (by simp; omega), List.drop_of_length_le (by simp; omega), List.nil_append]
  simp [List.drop_append, hd]
  rw [List.drop_of_length_le (by simp), List.drop_of_length_le (by simp; omega), show n - (xs.length - K.length) = 0 by omega]; rfl
 have hd : xs.drop K.length = [] := List.drop_of_length_le (by omega)
 simp [blit, hd]
theorem clone_c (w : World) {A : Option Addr} {cap : Nat} {xs : List Int} (h : St W F cs w) (hR : RdS (Kd.one Vi) F A xs) (h0 : 0 < xs.length) (hn : xs.length ≤ 100000) : Calls prog 44 #[.slice A xs.length cap] w fun e w' => ∃ r v, e = .returned v ∧ Row 3 Vi r v xs ∧ St W F (r :: cs) w'  := by
 refine enter (args := [.slice A xs.length cap]) func44 rfl rfl rfl ?_
 obtain ⟨ad, rfl, hrd⟩ := rd1 hR h0
 refine Wi<|C0 1 rfl<|Wh<|C0 1 rfl<|I0 (H6 underlying33 rfl rfl) rfl<|Wa<|E1 rfl (rfl)<|Wk<|X2 (vs := (([] : List Int)).map Vi) h rfl underlying33 inf3 rfl rfl rfl rfl rfl fun lit5 w1 h1=>C0 1 rfl<|I3 (ys := xs) 0 h1 rfl rfl rfl rfl underlying33 underlying33 (.inr ⟨_, rfl⟩) inf3 rfl (Row.lit (xs := ([] : List Int)) rfl) (Src.rd hR h1 rfl (fun _ => rfl)) rfl rfl (by first | omega | (simp []; done) | (simp []; omega)) (by first | omega | (simp []; done) | (simp []; omega)) ?_
 intro r2 v2 w3 hr2 h3
 simp only [lz, ls] at h3
 refine C0 1 rfl<|Wg<|ret1 rfl rfl ⟨_, _, rfl, hr2, h3⟩
theorem clos_bool (w : World) (n : Int) (i j : Nat) {b3 m : Nat} {tt : TypeId} {l : List (Int × Value)} {ns : List Int} {os : List (Option Bool)} {o : Option Bool} (h : St W F cs w) (hj : cs[j]? = some [(b3, .cells #[.map (some m)] tt (0, 0))]) (hi : cs[i]? = some [(m, mobj l)]) (hm : MR .bool F ns os l) (ho : look n ns os = some o) : Calls prog 132 #[Vi n, pz b3] w fun e w' => e = .returned (.bool o.isSome) ∧ St W F cs w'  := by
 refine enter (args := [Vi n, pz b3]) func132 rfl rfl rfl ?_
 obtain ⟨p, hp, hps⟩ : ∃ p, ((mfind n l 0).map (·.2)).getD (.pointer none) = .pointer p ∧ p.isSome = o.isSome := by
  rcases hm.find n 0 with ⟨h1, _⟩ | ⟨o', i', v, h1, h2, h3⟩
  ·rw [ho] at h1; cases h1
  rw [ho] at h1; cases h1
  obtain ⟨p, h4, h5⟩ := h3.ptr
  exact ⟨p, by rw [h2]; exact h4, h5⟩
 refine Wi<|C0 1 rfl<|We<|I0 (K0 underlying136 rfl rfl (h.ocell hj rfl)) rfl<|C0 1 rfl<|I0 (X1 (u := .pointer p) (N6 h i hi underlying136 underlying3 inf140 rfl rfl) hp) rfl<|I0 (U3 underlying140 rfl rfl) rfl<|C0 1 rfl<|Wg<|ret1 rfl rfl ⟨by rw [hps], h⟩
theorem clos_int (w : World) (n : Int) (i j : Nat) {b3 m : Nat} {tt : TypeId} {l : List (Int × Value)} {ns : List Int} {os : List (Option Int)} {o : Option Int} (h : St W F cs w) (hj : cs[j]? = some [(b3, .cells #[.map (some m)] tt (0, 0))]) (hi : cs[i]? = some [(m, mobj l)]) (hm : MR Vi F ns os l) (ho : look n ns os = some o) : Calls prog 133 #[Vi n, pz b3] w fun e w' => e = .returned (.bool o.isSome) ∧ St W F cs w'  := by
 refine enter (args := [Vi n, pz b3]) func133 rfl rfl rfl ?_
 obtain ⟨p, hp, hps⟩ : ∃ p, ((mfind n l 0).map (·.2)).getD (.pointer none) = .pointer p ∧ p.isSome = o.isSome := by
  rcases hm.find n 0 with ⟨h1, _⟩ | ⟨o', i', v, h1, h2, h3⟩
  ·rw [ho] at h1; cases h1
  rw [ho] at h1; cases h1
  obtain ⟨p, h4, h5⟩ := h3.ptr
  exact ⟨p, by rw [h2]; exact h4, h5⟩
 refine Wi<|C0 1 rfl<|We<|I0 (K0 underlying137 rfl rfl (h.ocell hj rfl)) rfl<|C0 1 rfl<|I0 (X1 (u := .pointer p) (N6 h i hi underlying137 underlying3 inf167 rfl rfl) hp) rfl<|I0 (U3 underlying167 rfl rfl) rfl<|C0 1 rfl<|Wg<|ret1 rfl rfl ⟨by rw [hps], h⟩
theorem idx_c {r : Res} (w : World) (g : FuncId) (cp : Value) (pr : Int → Bool) {ad : Addr} {cap : Nat} {xs : List Int} (hg : B.Can prog g) (h : St W F (r :: cs) w) (hr : Row 3 Vi r (.slice (some ad) xs.length cap) xs) (hn : xs.length ≤ 100000) (hcl : ∀ w n, n ∈ xs → St W F (r :: cs) w → Calls prog g #[Vi n, cp] w fun e w' => e = .returned (.bool (pr n)) ∧ St W F (r :: cs) w') : Calls prog 156 #[.slice (some ad) xs.length cap, .func (.func g) #[] #[cp]] w fun e w' => ∃ z, e = .returned (Vi z) ∧ FI pr xs z ∧ St W F (r :: cs) w'  := by
 refine enter (args := [.slice (some ad) xs.length cap, .func (.func g) #[] #[cp]]) func156 rfl rfl rfl<|Wi<|C0 1 rfl<|Wh<|C0 1 rfl<|I0 (Y0 underlying33 rfl rfl) rfl<|C0 1 rfl<|Wj<|B3 (σ := Nat) (fun q_ => [(0, .slice (some ad) xs.length cap), (1, .func (.func g) #[] #[cp]), (7, .int .i64 (xs.length : Int)), (8, .int .i64 (q_ : Int))]) (fun q_ w => q_ ≤ xs.length ∧ (∀ x ∈ xs.take q_, pr x = false) ∧ St W F (r :: cs) w) (fun q_ => xs.length - q_) (0) (⟨by omega, by simp, h⟩) ?_
 rintro i w1 ⟨hi, hq, hL⟩
 try dsimp only at hi hq hL
 refine W2 [(0, .slice (some ad) xs.length cap), (1, .func (.func g) #[] #[cp]), (7, .int .i64 (xs.length : Int)), (8, .int .i64 (i : Int))]<|Wi<|C0 1 rfl<|Wb<|Z0 rfl (fun c2 => ?_) (fun c2 => ?_)
 ·try simp only [DD] at c2
  refine U0<|H0<|N0<|M1<|Wi<|C0 2 rfl<|We<|C0 3 rfl<|I0 (W0 underlying33 inf3 rfl rfl (n := i) rfl (by omega)) rfl<|I0 (I2 (0 : Int) hL 0 rfl hr (n := i) (by omega) underlying3 rfl rfl) rfl<|S3 hg rfl rfl rfl (hcl _ _ (mem_at (by omega)) hL) ?_
  rintro _ w3 ⟨rfl, h3⟩
  refine ⟨_, rfl,Wa<|Z0 rfl (fun c4 => ?_) (fun c4 => ?_)⟩
  ·try simp only [DD] at c4
   refine Wi<|C0 2 rfl<|Wg<|ret1 rfl rfl ⟨_, rfl, .inl ⟨i, rfl, by omega, hq, by assumption⟩, h3⟩
  try simp only [DD] at c4
  refine U0<|N1<|H0<|L0<|I0 (V0 rfl rfl (by omega)) rfl<|C0 1 rfl<|J0<|F1 (i + 1) (by omega) ⟨rfl, rfl, rfl, rfl, trivial⟩ ⟨by omega, ?_, h3⟩
  intro x hx
  rw [take_nx (by omega), List.mem_append] at hx
  rcases hx with hx | hx
  ·exact hq x hx
  simp only [List.mem_singleton] at hx; rw [hx]; simp_all
 try simp only [DD] at c2
 refine U1<|B2<|WX.cut<|E2<|H0<|Wi<|C0 1 rfl<|J0 (H0 (O1 ?_))
 obtain rfl : i = xs.length := by omega
 rw [List.take_of_length_le (Nat.le_refl _)] at hq
 exact ret1 rfl rfl ⟨_, rfl, .inr ⟨rfl, hq⟩, hL⟩
theorem del_c (w : World) (g : FuncId) (cp : Value) (pr : Int → Bool) {b : Nat} {xs : List Int} {zs : List Value} {fz : Nat × Nat} (hg : B.Can prog g) (h : St W F ([(b, .cells (xs.map Vi ++ zs).toArray 3 fz)] :: cs) w) (hf : Free fz (xs.length + zs.length)) (hn : xs.length ≤ 100000) (hcl : ∀ r w n, n ∈ xs → St W F (r :: cs) w → Calls prog g #[Vi n, cp] w fun e w' => e = .returned (.bool (pr n)) ∧ St W F (r :: cs) w') : Calls prog 131 #[.slice (some ⟨b, 0, none⟩) xs.length (xs.length + zs.length), .func (.func g) #[] #[cp]] w fun e w' => ∃ r v, e = .returned v ∧ Row 3 Vi r v (xs.filter fun x => !pr x) ∧ St W F (r :: cs) w'  := by
 refine enter (args := [.slice (some ⟨b, 0, none⟩) xs.length (xs.length + zs.length), .func (.func g) #[] #[cp]]) func131 rfl rfl rfl<|Wi<|C0 1 rfl<|We<|C0 2 rfl<|V1 (cn func156) rfl rfl (idx_c _ g cp pr hg h (T3 rfl hf) hn (hcl _)) ?_
 rintro _ w1 ⟨z, rfl, hz, h1⟩
 refine ⟨_, rfl,C0 1 rfl<|Wh<|C0 2 rfl<|Wa<|Z0 rfl (fun c2 => ?_) (fun c2 => ?_)⟩
 ·try simp only [DD] at c2
  refine Wi<|C0 2 rfl<|J0 (H0 (O1 ?_))
  have hall : ∀ x ∈ xs, pr x = false := by
   rcases hz with ⟨i, rfl, _⟩ | ⟨_, hz⟩
   ·omega
   exact hz
  refine ret1 rfl rfl ⟨_, _, rfl, ?_, h1⟩
  rw [List.filter_eq_self.2 (fun x hx => by simp [hall x hx])]
  exact T3 rfl hf
 try simp only [DD] at c2
 refine U0 (H0 (N0 (N0 (L0 ?_))))
 obtain ⟨i0, rfl, hi0, hpre, hp0⟩ : ∃ i : Nat, z = i ∧ i < xs.length ∧ (∀ x ∈ xs.take i, pr x = false) ∧ pr (xs.getD i 0) = true := by
  rcases hz with hz | ⟨hz, _⟩
  ·exact hz
  omega
 have hfirst := row_first hi0 hpre hp0
 refine C0 1 rfl<|I0 (V0 rfl rfl (by omega)) rfl<|C0 1 rfl<|Wj<|N4 (σ := Nat) (fun q_ => [(0, .slice (some ⟨b, 0, none⟩) xs.length (xs.length + zs.length)), (1, .func (.func g) #[] #[cp]), (5, .int .i64 ((kp pr xs q_).length : Int)), (6, .int .i64 (q_ : Int))]) (fun q_ w => q_ ≤ xs.length ∧ St W F ([(b, .cells ((row_ pr xs q_).map Vi ++ zs).toArray 3 fz)] :: cs) w) (fun q_ => xs.length - q_) ((i0 + 1)) ⟨rfl, rfl, by rw [hfirst.1]; rfl, rfl, trivial⟩ (⟨by omega, by rw [hfirst.2]; exact h1⟩) ?_
 rintro j w3 ⟨hj, hL⟩
 try dsimp only at hj hL
 refine W2 [(0, .slice (some ⟨b, 0, none⟩) xs.length (xs.length + zs.length)), (1, .func (.func g) #[] #[cp]), (5, .int .i64 ((kp pr xs j).length : Int)), (6, .int .i64 (j : Int))] ?_
 have hkl := kp_len pr xs j
 have hrl := row_len pr xs j hj
 refine N0<|Wi<|C0 2 rfl<|I0 (Y0 underlying33 rfl rfl) rfl<|C0 1 rfl<|Wa<|Z0 rfl (fun c4 => ?_) (fun c4 => ?_)
 ·try simp only [DD] at c4
  refine U0<|H0<|N0<|M1<|Wi<|C0 2 rfl<|I0 (W0 underlying33 inf3 rfl rfl (n := j) rfl (by omega)) rfl<|I0 (R0 (n := xs.getD j 0) (I2 (0 : Int) hL 0 rfl (T3 (b := b) (xs := row_ pr xs j) (zs := zs) (fz := fz) rfl (by rw [hrl]; exact hf)) (n := j) (by omega) underlying3 rfl rfl) (row_at pr xs j (by omega))) rfl<|C0 1 rfl<|We<|C0 2 rfl<|S3 hg rfl rfl rfl (hcl _ _ _ (mem_at (by omega)) hL) ?_
  rintro _ w5 ⟨rfl, h5⟩
  refine ⟨_, rfl,C0 1 rfl<|Wa<|Z0 rfl (fun c6 => ?_) (fun c6 => ?_)⟩
  ·try simp only [DD] at c6
   refine Wi<|C0 3 rfl<|I0 (W0 underlying33 inf3 rfl rfl (n := (kp pr xs j).length) rfl (by omega)) rfl<|E4 (n := (kp pr xs j).length) (u := xs.getD j 0) h5 0 rfl (by first | rfl | (simp [evs, lk, add_mk]; done)) rfl inf3 rfl (by rw [hrl]; exact hf) (by omega) ?_
   intro  w7 h7
   try simp only [ZZ] at h7
   refine Wf<|C0 1 rfl<|I0 (V0 rfl rfl (by omega)) rfl<|C0 1 rfl<|J0<|N1<|H0<|L0<|C0 1 rfl<|I0 (V0 rfl rfl (by omega)) rfl<|C0 1 rfl<|J0 ?_
   have hpf : pr (xs.getD j 0) = false := by simp_all
   refine F1 (j + 1) (by omega) ⟨rfl, rfl, by rw [kp_yes (by omega) hpf, lA]; rfl, rfl, trivial⟩ ⟨by omega, ?_⟩
   rw [← row_set (by omega) hpf]
   exact h7
  try simp only [DD] at c6
  refine U0<|N1<|H0<|L0<|C0 1 rfl<|I0 (V0 rfl rfl (by omega)) rfl<|C0 1 rfl<|J0 ?_
  have hpf : pr (xs.getD j 0) = true := by simp_all
  refine F1 (j + 1) (by omega) ⟨rfl, rfl, by rw [kp_no (by omega) hpf]; rfl, rfl, trivial⟩ ⟨by omega, ?_⟩
  rw [row_skip (by omega) hpf]
  exact h5
 try simp only [DD] at c4
 refine U1<|B2<|WX.cut<|E2<|H0<|Wi<|C0 2 rfl ?_
 refine I0 (X1 (u := .slice (some ⟨b, if xs.length + zs.length = (kp pr xs j).length then 0 else (kp pr xs j).length, none⟩) (xs.length - (kp pr xs j).length) (xs.length + zs.length - (kp pr xs j).length)) (V6 underlying33 inf3 rfl rfl (n := (kp pr xs j).length) rfl (by omega)) (by split <;> simp [add_mk])) rfl ?_
 refine WL.clear hL 0 rfl underlying33 inf3 rfl rfl (by simpa [hrl] using hf) (by simp [hrl]; split <;> omega) ?_
 intro  w8 h8
 try simp only [ZZ] at h8
 refine We<|C0 2 rfl<|I0 (U6 underlying33 inf3 rfl rfl (n := (kp pr xs j).length) rfl (by omega)) rfl<|C0 1 rfl<|J0 (H0 (O1 ?_))
 obtain rfl : j = xs.length := by omega
 have hk : kp pr xs xs.length = xs.filter fun x => !pr x := by unfold kp; rw [List.take_of_length_le (Nat.le_refl _)]
 have hS := h8
 rw [show row_ pr xs xs.length = kp pr xs xs.length ++ xs.drop (kp pr xs xs.length).length from rfl, blit_tail _ _ _ _ _ (by omega) (by split <;> omega)] at hS
 rw [← hk]
 exact ret1 rfl rfl ⟨_, _, rfl, T3 (by simp; omega) (by simp; rw [show (kp pr xs xs.length).length + (xs.length - (kp pr xs xs.length).length + zs.length) = xs.length + zs.length by omega]; exact hf), hS⟩
theorem nodup_take {ns : List Int} (hd : ns.Nodup) {i : Nat} (hi : i < ns.length) : ns.getD i 0 ∉ ns.take i := by
 have h1 : ns.take i ++ ns.drop i = ns := List.take_append_drop i ns
 rw [← h1, List.nodup_append] at hd
 intro hm
 refine hd.2.2 _ hm (ns.getD i 0) ?_ rfl
 have e : ns.drop i = ns.getD i 0 :: ns.drop (i + 1) := by
  rw [List.drop_eq_getElem_cons hi, gD, gE hi]; rfl
 rw [e]
 exact List.mem_cons_self
theorem set_self {α : Type} {cs : List α} {i : Nat} {a : α} (h : cs[i]? = some a) : cs.set i a = cs := by
 apply List.ext_getElem?
 intro j
 rw [List.getElem?_set]
 split
 ·rename_i e
  subst e
  rw [h]; simp [(List.getElem?_eq_some_iff.1 h).1]
 rfl
theorem silent_bool (w : World) (i : Nat) {A : Option Addr} {cap m : Nat} {l : List (Int × Value)} {ns : List Int} {os : List (Option Bool)} (h : St W F cs w) (hi : cs[i]? = some [(m, mobj l)]) (hm : MR .bool F ns os l) (hR : RdS (Kd.one Vi) F A ns) (h0 : 0 < ns.length) (hd : ns.Nodup) (hn : ns.length ≤ 100000) : Calls prog 89 #[.slice A ns.length cap, .map (some m)] w (Gives W F cs Vi (miss ns os))  := by
 refine enter (args := [.slice A ns.length cap, .map (some m)]) func89 rfl rfl rfl<|Wi<|J3 rfl h rfl fun b3 w1 h1=>C0 1 rfl<|We<|C0 1 rfl<|V1 (cn func44) rfl rfl (clone_c _ h1 hR h0 hn) ?_
 rintro _ w2 ⟨r2, v2, rfl, hr2, h2⟩
 refine ⟨_, rfl, ?_⟩
 obtain ⟨bc, zs, fz, rfl, rfl, hfz⟩ := hr2.blk h0
 refine I0 (Runs.makeFunc rfl rfl) rfl<|V1 (cn func131) rfl rfl (del_c _ 132 (pz b3) (fun n => ((look n ns os).getD none).isSome) (cn func132) h2 hfz hn (fun r w n hnn hS => by
   obtain ⟨o, ho⟩ := look_mem n hm.len.1 hnn
   have := clos_bool w n (i + 2) 1 hS rfl hi hm ho
   simp only [ho, Option.getD_some]
   exact this)) ?_
 rintro _ w3 ⟨r3, v3, rfl, hr3, h3⟩
 refine ⟨_, rfl,C0 1 rfl<|J0 (H0 (O1 ?_))⟩
 have hr := hr3
 rw [miss_filter hm.len.1 hd] at hr
 exact ret1 rfl rfl (Row.gives hr (h3.drop 1))
theorem silent_int (w : World) (i : Nat) {A : Option Addr} {cap m : Nat} {l : List (Int × Value)} {ns : List Int} {os : List (Option Int)} (h : St W F cs w) (hi : cs[i]? = some [(m, mobj l)]) (hm : MR Vi F ns os l) (hR : RdS (Kd.one Vi) F A ns) (h0 : 0 < ns.length) (hd : ns.Nodup) (hn : ns.length ≤ 100000) : Calls prog 90 #[.slice A ns.length cap, .map (some m)] w (Gives W F cs Vi (miss ns os))  := by
 refine enter (args := [.slice A ns.length cap, .map (some m)]) func90 rfl rfl rfl<|Wi<|J3 rfl h rfl fun b3 w1 h1=>C0 1 rfl<|We<|C0 1 rfl<|V1 (cn func44) rfl rfl (clone_c _ h1 hR h0 hn) ?_
 rintro _ w2 ⟨r2, v2, rfl, hr2, h2⟩
 refine ⟨_, rfl, ?_⟩
 obtain ⟨bc, zs, fz, rfl, rfl, hfz⟩ := hr2.blk h0
 refine I0 (Runs.makeFunc rfl rfl) rfl<|V1 (cn func131) rfl rfl (del_c _ 133 (pz b3) (fun n => ((look n ns os).getD none).isSome) (cn func133) h2 hfz hn (fun r w n hnn hS => by
   obtain ⟨o, ho⟩ := look_mem n hm.len.1 hnn
   have := clos_int w n (i + 2) 1 hS rfl hi hm ho
   simp only [ho, Option.getD_some]
   exact this)) ?_
 rintro _ w3 ⟨r3, v3, rfl, hr3, h3⟩
 refine ⟨_, rfl,C0 1 rfl<|J0 (H0 (O1 ?_))⟩
 have hr := hr3
 rw [miss_filter hm.len.1 hd] at hr
 exact ret1 rfl rfl (Row.gives hr (h3.drop 1))
theorem empty_bool (w : World) {A : Option Addr} {cap : Nat} {ns : List Int} (h : St W F cs w) (hR : RdS (Kd.one Vi) F A ns) (h0 : 0 < ns.length) (hd : ns.Nodup) (hn : ns.length ≤ 100000) : Calls prog 137 #[.slice A ns.length cap] w fun e w' => ∃ m l, e = .returned (.map (some m)) ∧ MR (.bool : Bool → Value) F ns (ns.map fun _ => none) l ∧ St W F ([(m, mobj l)] :: cs) w'  := by
 refine enter (args := [.slice A ns.length cap]) func137 rfl rfl rfl ?_
 obtain ⟨ad, rfl, hrd⟩ := rd1 hR h0
 refine Wi<|C0 1 rfl<|We<|M6 rfl h fun m6 w1 h1=>C0 1 rfl<|Wh<|C0 1 rfl<|I0 (Y0 underlying33 rfl rfl) rfl<|C0 1 rfl<|Wj<|B3 (σ := Nat × List (Int × Value)) (fun q_ => [(3, .map (some m6)), (7, .slice (some ad) ns.length cap), (8, .int .i64 (ns.length : Int)), (9, .int .i64 (q_.1 : Int))]) (fun q_ w => q_.1 ≤ ns.length ∧ MR (.bool : Bool → Value) F (ns.take q_.1) ((ns.take q_.1).map fun _ => none) q_.2 ∧ St W F ([(m6, mobj q_.2)] :: cs) w) (fun q_ => ns.length - q_.1) (⟨0, []⟩) (⟨by omega, trivial, h1⟩) ?_
 rintro ⟨i, l⟩ w2 ⟨hi, hm, hL⟩
 try dsimp only at hi hm hL
 refine W2 [(3, .map (some m6)), (7, .slice (some ad) ns.length cap), (8, .int .i64 (ns.length : Int)), (9, .int .i64 (i : Int))]<|Wi<|C0 1 rfl<|Wb<|Z0 rfl (fun c3 => ?_) (fun c3 => ?_)
 ·try simp only [DD] at c3
  refine U0<|H0<|N0<|M1<|Wi<|I0 (W0 underlying33 inf3 rfl rfl (n := i) rfl (by omega)) rfl<|I0 (I1 (f := Vi) (0 : Int) hL hrd (n := i) (by omega) underlying3 rfl rfl) rfl<|C0 1 rfl<|Wf<|C0 2 rfl<|A6 hL 0 rfl underlying136 underlying3 rfl rfl rfl ?_
  intro  w4 h4
  try simp only [ZZ] at h4
  refine J0<|N1<|H0<|L0<|I0 (V0 rfl rfl (by omega)) rfl<|C0 1 rfl<|J0<|F1 (⟨i + 1, _⟩ : Nat × List (Int × Value)) (by show ns.length - (i + 1) < ns.length - i; omega) ⟨rfl, rfl, rfl, rfl, trivial⟩ ⟨by show i + 1 ≤ _; omega, ?_, h4⟩
  have := hm.snoc (n := ns.getD i 0) (o := none) (v := .pointer none) rfl (nodup_take hd (by omega))
  show MR _ _ (ns.take (i + 1)) ((ns.take (i + 1)).map fun _ => none) _
  rw [take_nx (by omega), List.map_append]
  exact this
 try simp only [DD] at c3
 refine U1<|B2<|WX.cut<|E2<|H0<|Wi<|C0 2 rfl<|J0 (H0 (O1 ?_))
 obtain rfl : i = ns.length := by omega
 rw [List.take_of_length_le (Nat.le_refl _)] at hm
 exact ret1 rfl rfl ⟨_, _, rfl, hm, hL⟩
theorem empty_int (w : World) {A : Option Addr} {cap : Nat} {ns : List Int} (h : St W F cs w) (hR : RdS (Kd.one Vi) F A ns) (h0 : 0 < ns.length) (hd : ns.Nodup) (hn : ns.length ≤ 100000) : Calls prog 138 #[.slice A ns.length cap] w fun e w' => ∃ m l, e = .returned (.map (some m)) ∧ MR (Vi : Int → Value) F ns (ns.map fun _ => none) l ∧ St W F ([(m, mobj l)] :: cs) w'  := by
 refine enter (args := [.slice A ns.length cap]) func138 rfl rfl rfl ?_
 obtain ⟨ad, rfl, hrd⟩ := rd1 hR h0
 refine Wi<|C0 1 rfl<|We<|M6 rfl h fun m6 w1 h1=>C0 1 rfl<|Wh<|C0 1 rfl<|I0 (Y0 underlying33 rfl rfl) rfl<|C0 1 rfl<|Wj<|B3 (σ := Nat × List (Int × Value)) (fun q_ => [(3, .map (some m6)), (7, .slice (some ad) ns.length cap), (8, .int .i64 (ns.length : Int)), (9, .int .i64 (q_.1 : Int))]) (fun q_ w => q_.1 ≤ ns.length ∧ MR (Vi : Int → Value) F (ns.take q_.1) ((ns.take q_.1).map fun _ => none) q_.2 ∧ St W F ([(m6, mobj q_.2)] :: cs) w) (fun q_ => ns.length - q_.1) (⟨0, []⟩) (⟨by omega, trivial, h1⟩) ?_
 rintro ⟨i, l⟩ w2 ⟨hi, hm, hL⟩
 try dsimp only at hi hm hL
 refine W2 [(3, .map (some m6)), (7, .slice (some ad) ns.length cap), (8, .int .i64 (ns.length : Int)), (9, .int .i64 (i : Int))]<|Wi<|C0 1 rfl<|Wb<|Z0 rfl (fun c3 => ?_) (fun c3 => ?_)
 ·try simp only [DD] at c3
  refine U0<|H0<|N0<|M1<|Wi<|I0 (W0 underlying33 inf3 rfl rfl (n := i) rfl (by omega)) rfl<|I0 (I1 (f := Vi) (0 : Int) hL hrd (n := i) (by omega) underlying3 rfl rfl) rfl<|C0 1 rfl<|Wf<|C0 2 rfl<|A6 hL 0 rfl underlying137 underlying3 rfl rfl rfl ?_
  intro  w4 h4
  try simp only [ZZ] at h4
  refine J0<|N1<|H0<|L0<|I0 (V0 rfl rfl (by omega)) rfl<|C0 1 rfl<|J0<|F1 (⟨i + 1, _⟩ : Nat × List (Int × Value)) (by show ns.length - (i + 1) < ns.length - i; omega) ⟨rfl, rfl, rfl, rfl, trivial⟩ ⟨by show i + 1 ≤ _; omega, ?_, h4⟩
  have := hm.snoc (n := ns.getD i 0) (o := none) (v := .pointer none) rfl (nodup_take hd (by omega))
  show MR _ _ (ns.take (i + 1)) ((ns.take (i + 1)).map fun _ => none) _
  rw [take_nx (by omega), List.map_append]
  exact this
 try simp only [DD] at c3
 refine U1<|B2<|WX.cut<|E2<|H0<|Wi<|C0 2 rfl<|J0 (H0 (O1 ?_))
 obtain rfl : i = ns.length := by omega
 rw [List.take_of_length_le (Nat.le_refl _)] at hm
 exact ret1 rfl rfl ⟨_, _, rfl, hm, hL⟩
theorem say_bool_A (w : World) (i : Nat) {m : Nat} {l : List (Int × Value)} {ns : List Int} {os : List (Option Bool)} (n : Int) (x y : Bool) (may : Bool) (h : St W F cs w) (hi : cs[i]? = some [(m, mobj l)]) (hm : MR .bool F ns os l) (hl : look n ns os = none) : Calls prog 129 #[.map (some m), Vi n, .bool x, .bool may] w fun e w' => ∃ G l', Le F G ∧ e = .returned (Vi (say ns os n x may).1) ∧ MR .bool G ns (say ns os n x may).2 l' ∧ St W G (cs.set i [(m, mobj l')]) w'  := by
 refine enter (args := [.map (some m), Vi n, .bool x, .bool may]) func129 rfl rfl rfl ?_
 have hf := hm.find n 0
 rw [hl] at hf
 have hlk : (Value.tuple #[((mfind n l 0).map (·.2)).getD (.pointer none), .bool (mfind n l 0).isSome]) = .tuple #[.pointer none, .bool false] := by
  rcases hf with ⟨_, h2⟩ | ⟨_, _, _, h1, _⟩
  ·rw [h2]; rfl
  cases h1
 refine Wi<|J3 rfl h rfl fun b6 w1 h1=>C0 1 rfl<|We<|C0 2 rfl<|I0 (X1 (u := .tuple #[.pointer none, .bool false]) (L4 h1 (i + 1) hi underlying136 underlying3 inf140 rfl rfl) hlk) rfl<|C0 5 rfl<|Wb<|M1<|Wi<|C0 3 rfl<|Wa<|J1 rfl (rfl)<|Wi<|C0 1 rfl<|Wg<|ret1 rfl rfl ⟨F, l, Le.refl _, ?_, ?_, by rw [set_self hi]; exact h1.drop 0⟩
 ·simp [say, hl]
 simp only [say, hl]; exact hm
theorem say_bool_B (w : World) (i : Nat) {m : Nat} {l : List (Int × Value)} {ns : List Int} {os : List (Option Bool)} (n : Int) (x y : Bool) (may : Bool) (h : St W F cs w) (hi : cs[i]? = some [(m, mobj l)]) (hm : MR .bool F ns os l) (hl : look n ns os = some (some y)) (hy : y = x) : Calls prog 129 #[.map (some m), Vi n, .bool x, .bool may] w fun e w' => ∃ G l', Le F G ∧ e = .returned (Vi (say ns os n x may).1) ∧ MR .bool G ns (say ns os n x may).2 l' ∧ St W G (cs.set i [(m, mobj l')]) w'  := by
 refine enter (args := [.map (some m), Vi n, .bool x, .bool may]) func129 rfl rfl rfl ?_
 have hf := hm.find n 0
 rw [hl] at hf
 obtain ⟨ay, hlk, hay⟩ : ∃ a, (Value.tuple #[((mfind n l 0).map (·.2)).getD (.pointer none), .bool (mfind n l 0).isSome]) = .tuple #[.pointer (some a), .bool true] ∧ cellF F a = some (.bool y) := by
  rcases hf with ⟨h1, _⟩ | ⟨_, _, _, h1, h2, h3⟩
  ·cases h1
  cases h1
  obtain ⟨a, rfl, h5⟩ := h3
  exact ⟨a, by rw [h2]; rfl, h5⟩
 subst hy
 refine Wi<|J3 rfl h rfl fun b6 w1 h1=>C0 1 rfl<|We<|C0 2 rfl<|I0 (X1 (u := .tuple #[.pointer (some ay), .bool true]) (L4 h1 (i + 1) hi underlying136 underlying3 inf140 rfl rfl) hlk) rfl<|C0 5 rfl<|Wb<|M1<|Wi<|C0 3 rfl<|Wa<|E1 rfl (rfl)<|N0<|T2 (C := fun w_ => St W F _ w_) mixed (by kernel_rfl) (h1.drew)<|M2 1 rfl<|X0 (fun w_ hC_ => U3 underlying140 rfl rfl) rfl<|M2 3 rfl<|Y2 rfl<|X0 (fun w_ hC_ => K0 underlying4 rfl rfl (hC_.cell hay)) rfl<|K5 [0] 1 rfl<|Y2 rfl<|X0 (fun w_ hC_ => Bt (Runs.eqlb underlying4 rfl rfl) (by simp)) rfl<|M2 2 rfl<|K3 fun w2 h2=>H0<|J1 rfl (rfl)<|Wi<|C0 1 rfl<|Wg<|ret1 rfl rfl ⟨F, l, Le.refl _, ?_, ?_, by rw [set_self hi]; exact h2.drop 0⟩
 ·simp [say, hl, if_true]
 simp only [say, hl, if_true]; exact hm
theorem say_bool_C (w : World) (i : Nat) {m : Nat} {l : List (Int × Value)} {ns : List Int} {os : List (Option Bool)} (n : Int) (x y : Bool) (may : Bool) (h : St W F cs w) (hi : cs[i]? = some [(m, mobj l)]) (hm : MR .bool F ns os l) (hl : look n ns os = some (some y)) (hy : y ≠ x) : Calls prog 129 #[.map (some m), Vi n, .bool x, .bool may] w fun e w' => ∃ G l', Le F G ∧ e = .returned (Vi (say ns os n x may).1) ∧ MR .bool G ns (say ns os n x may).2 l' ∧ St W G (cs.set i [(m, mobj l')]) w'  := by
 refine enter (args := [.map (some m), Vi n, .bool x, .bool may]) func129 rfl rfl rfl ?_
 have hf := hm.find n 0
 rw [hl] at hf
 obtain ⟨ay, hlk, hay⟩ : ∃ a, (Value.tuple #[((mfind n l 0).map (·.2)).getD (.pointer none), .bool (mfind n l 0).isSome]) = .tuple #[.pointer (some a), .bool true] ∧ cellF F a = some (.bool y) := by
  rcases hf with ⟨h1, _⟩ | ⟨_, _, _, h1, h2, h3⟩
  ·cases h1
  cases h1
  obtain ⟨a, rfl, h5⟩ := h3
  exact ⟨a, by rw [h2]; rfl, h5⟩
 refine Wi<|J3 rfl h rfl fun b6 w1 h1=>C0 1 rfl<|We<|C0 2 rfl<|I0 (X1 (u := .tuple #[.pointer (some ay), .bool true]) (L4 h1 (i + 1) hi underlying136 underlying3 inf140 rfl rfl) hlk) rfl<|C0 5 rfl<|Wb<|M1<|Wi<|C0 3 rfl<|Wa<|E1 rfl (rfl)<|N0<|T2 (C := fun w_ => St W F _ w_) mixed (by kernel_rfl) (h1.drew)<|M2 1 rfl<|X0 (fun w_ hC_ => U3 underlying140 rfl rfl) rfl<|M2 3 rfl<|Y2 rfl<|X0 (fun w_ hC_ => K0 underlying4 rfl rfl (hC_.cell hay)) rfl<|K5 [0] 1 rfl<|Y2 rfl<|X0 (fun w_ hC_ => Bf (Runs.eqlb underlying4 rfl rfl) (by simp [hy])) rfl<|M2 2 rfl<|K3 fun w2 h2=>H0<|E1 rfl (rfl)<|Wi<|C0 1 rfl<|I0 (U3 underlying140 rfl rfl) rfl<|C0 5 rfl<|Wa<|J1 rfl (rfl)<|Wi<|C0 1 rfl<|Wg<|ret1 rfl rfl ⟨F, l, Le.refl _, ?_, ?_, by rw [set_self hi]; exact h2.drop 0⟩
 ·simp [say, hl, hy]
 simp only [say, hl, hy, if_false]; exact hm
theorem say_bool_D (w : World) (i : Nat) {m : Nat} {l : List (Int × Value)} {ns : List Int} {os : List (Option Bool)} (n : Int) (x y : Bool) (may : Bool) (h : St W F cs w) (hi : cs[i]? = some [(m, mobj l)]) (hm : MR .bool F ns os l) (hl : look n ns os = some none) (hmay : may = false) : Calls prog 129 #[.map (some m), Vi n, .bool x, .bool may] w fun e w' => ∃ G l', Le F G ∧ e = .returned (Vi (say ns os n x may).1) ∧ MR .bool G ns (say ns os n x may).2 l' ∧ St W G (cs.set i [(m, mobj l')]) w'  := by
 refine enter (args := [.map (some m), Vi n, .bool x, .bool may]) func129 rfl rfl rfl ?_
 have hf := hm.find n 0
 rw [hl] at hf
 obtain ⟨hlk, _⟩ : (Value.tuple #[((mfind n l 0).map (·.2)).getD (.pointer none), .bool (mfind n l 0).isSome]) = .tuple #[.pointer none, .bool true] ∧ True := by
  rcases hf with ⟨h1, _⟩ | ⟨_, _, _, h1, h2, h3⟩
  ·cases h1
  cases h1
  exact ⟨by rw [h2]; cases h3; rfl, trivial⟩
 subst hmay
 refine Wi<|J3 rfl h rfl fun b6 w1 h1=>C0 1 rfl<|We<|C0 2 rfl<|I0 (X1 (u := .tuple #[.pointer none, .bool true]) (L4 h1 (i + 1) hi underlying136 underlying3 inf140 rfl rfl) hlk) rfl<|C0 5 rfl<|Wb<|M1<|Wi<|C0 3 rfl<|Wa<|E1 rfl (rfl)<|N0<|T2 (C := fun w_ => St W F _ w_) mixed (by kernel_rfl) (h1.drew)<|M2 1 rfl<|X0 (fun w_ hC_ => U3 underlying140 rfl rfl) rfl<|M2 8 rfl<|K3 fun w2 h2=>H0<|E1 rfl (rfl)<|Wi<|C0 1 rfl<|I0 (U3 underlying140 rfl rfl) rfl<|C0 5 rfl<|Wa<|J1 rfl (rfl)<|Wi<|C0 1 rfl<|Wg<|ret1 rfl rfl ⟨F, l, Le.refl _, ?_, ?_, by rw [set_self hi]; exact h2.drop 0⟩
 ·simp [say, hl]
 simp only [say, hl, Bool.false_eq_true, if_false]; exact hm
theorem say_bool_E (w : World) (i : Nat) {m : Nat} {l : List (Int × Value)} {ns : List Int} {os : List (Option Bool)} (n : Int) (x y : Bool) (may : Bool) (h : St W F cs w) (hi : cs[i]? = some [(m, mobj l)]) (hm : MR .bool F ns os l) (hl : look n ns os = some none) (hmay : may = true) : Calls prog 129 #[.map (some m), Vi n, .bool x, .bool may] w fun e w' => ∃ G l', Le F G ∧ e = .returned (Vi (say ns os n x may).1) ∧ MR .bool G ns (say ns os n x may).2 l' ∧ St W G (cs.set i [(m, mobj l')]) w'  := by
 refine enter (args := [.map (some m), Vi n, .bool x, .bool may]) func129 rfl rfl rfl ?_
 have hf := hm.find n 0
 rw [hl] at hf
 obtain ⟨hlk, _⟩ : (Value.tuple #[((mfind n l 0).map (·.2)).getD (.pointer none), .bool (mfind n l 0).isSome]) = .tuple #[.pointer none, .bool true] ∧ True := by
  rcases hf with ⟨h1, _⟩ | ⟨_, _, _, h1, h2, h3⟩
  ·cases h1
  cases h1
  exact ⟨by rw [h2]; cases h3; rfl, trivial⟩
 subst hmay
 refine Wi<|J3 rfl h rfl fun b6 w1 h1=>C0 1 rfl<|We<|C0 2 rfl<|I0 (X1 (u := .tuple #[.pointer none, .bool true]) (L4 h1 (i + 1) hi underlying136 underlying3 inf140 rfl rfl) hlk) rfl<|C0 5 rfl<|Wb<|M1<|Wi<|C0 3 rfl<|Wa<|E1 rfl (rfl)<|N0<|T2 (C := fun w_ => St W F _ w_) mixed (by kernel_rfl) (h1.drew)<|M2 1 rfl<|X0 (fun w_ hC_ => U3 underlying140 rfl rfl) rfl<|M2 8 rfl<|K3 fun w2 h2=>H0<|E1 rfl (rfl)<|Wi<|C0 1 rfl<|I0 (U3 underlying140 rfl rfl) rfl<|C0 5 rfl<|Wa<|E1 rfl (rfl)<|U0<|N1<|H0<|Wi<|C0 2 rfl<|A6 h2 (i + 1) hi underlying136 underlying3 rfl rfl rfl ?_
 intro  w3 h3
 try simp only [ZZ] at h3
 refine We<|C0 1 rfl<|J0 (H0 (O1 ?_))
 obtain ⟨G, g1, g2, g3⟩ := h3.freeze (i := 0) rfl
 have hc : cellF G ⟨b6, 0, none⟩ = some (.bool x) := by
  have := g2 _ (List.mem_cons_self)
  unfold cellF
  simp only [this]
  rfl
 refine ret1 rfl rfl ⟨G, _, g1, ?_, ?_, g3⟩
 ·simp [say, hl]
 simp only [say, hl, if_true]
 exact (hm.mono g1).put ⟨_, rfl, hc⟩ (by rw [hl]; rfl)
theorem say_bool (w : World) (i : Nat) {m : Nat} {l : List (Int × Value)} {ns : List Int} {os : List (Option Bool)} (n : Int) (x : Bool) (may : Bool) (h : St W F cs w) (hi : cs[i]? = some [(m, mobj l)]) (hm : MR .bool F ns os l) : Calls prog 129 #[.map (some m), Vi n, .bool x, .bool may] w fun e w' => ∃ G l', Le F G ∧ e = .returned (Vi (say ns os n x may).1) ∧ MR .bool G ns (say ns os n x may).2 l' ∧ St W G (cs.set i [(m, mobj l')]) w' := by
 cases hl : look n ns os with
 |none => exact say_bool_A w i n x x may h hi hm hl
 |some o =>
  cases o with
  |none =>
   cases may
   ·exact say_bool_D w i n x x false h hi hm hl rfl
   exact say_bool_E w i n x x true h hi hm hl rfl
  |some y =>
   by_cases hy : y = x
   ·exact say_bool_B w i n x y may h hi hm hl hy
   exact say_bool_C w i n x y may h hi hm hl hy
theorem say_int_A (w : World) (i : Nat) {m : Nat} {l : List (Int × Value)} {ns : List Int} {os : List (Option Int)} (n : Int) (x y : Int) (may : Bool) (h : St W F cs w) (hi : cs[i]? = some [(m, mobj l)]) (hm : MR Vi F ns os l) (hl : look n ns os = none) : Calls prog 130 #[.map (some m), Vi n, Vi x, .bool may] w fun e w' => ∃ G l', Le F G ∧ e = .returned (Vi (say ns os n x may).1) ∧ MR Vi G ns (say ns os n x may).2 l' ∧ St W G (cs.set i [(m, mobj l')]) w'  := by
 refine enter (args := [.map (some m), Vi n, Vi x, .bool may]) func130 rfl rfl rfl ?_
 have hf := hm.find n 0
 rw [hl] at hf
 have hlk : (Value.tuple #[((mfind n l 0).map (·.2)).getD (.pointer none), .bool (mfind n l 0).isSome]) = .tuple #[.pointer none, .bool false] := by
  rcases hf with ⟨_, h2⟩ | ⟨_, _, _, h1, _⟩
  ·rw [h2]; rfl
  cases h1
 refine Wi<|J3 rfl h rfl fun b6 w1 h1=>C0 1 rfl<|We<|C0 2 rfl<|I0 (X1 (u := .tuple #[.pointer none, .bool false]) (L4 h1 (i + 1) hi underlying137 underlying3 inf167 rfl rfl) hlk) rfl<|C0 5 rfl<|Wb<|M1<|Wi<|C0 3 rfl<|Wa<|J1 rfl (rfl)<|Wi<|C0 1 rfl<|Wg<|ret1 rfl rfl ⟨F, l, Le.refl _, ?_, ?_, by rw [set_self hi]; exact h1.drop 0⟩
 ·simp [say, hl]
 simp only [say, hl]; exact hm
theorem say_int_B (w : World) (i : Nat) {m : Nat} {l : List (Int × Value)} {ns : List Int} {os : List (Option Int)} (n : Int) (x y : Int) (may : Bool) (h : St W F cs w) (hi : cs[i]? = some [(m, mobj l)]) (hm : MR Vi F ns os l) (hl : look n ns os = some (some y)) (hy : y = x) : Calls prog 130 #[.map (some m), Vi n, Vi x, .bool may] w fun e w' => ∃ G l', Le F G ∧ e = .returned (Vi (say ns os n x may).1) ∧ MR Vi G ns (say ns os n x may).2 l' ∧ St W G (cs.set i [(m, mobj l')]) w'  := by
 refine enter (args := [.map (some m), Vi n, Vi x, .bool may]) func130 rfl rfl rfl ?_
 have hf := hm.find n 0
 rw [hl] at hf
 obtain ⟨ay, hlk, hay⟩ : ∃ a, (Value.tuple #[((mfind n l 0).map (·.2)).getD (.pointer none), .bool (mfind n l 0).isSome]) = .tuple #[.pointer (some a), .bool true] ∧ cellF F a = some (Vi y) := by
  rcases hf with ⟨h1, _⟩ | ⟨_, _, _, h1, h2, h3⟩
  ·cases h1
  cases h1
  obtain ⟨a, rfl, h5⟩ := h3
  exact ⟨a, by rw [h2]; rfl, h5⟩
 subst hy
 refine Wi<|J3 rfl h rfl fun b6 w1 h1=>C0 1 rfl<|We<|C0 2 rfl<|I0 (X1 (u := .tuple #[.pointer (some ay), .bool true]) (L4 h1 (i + 1) hi underlying137 underlying3 inf167 rfl rfl) hlk) rfl<|C0 5 rfl<|Wb<|M1<|Wi<|C0 3 rfl<|Wa<|E1 rfl (rfl)<|N0<|T2 (C := fun w_ => St W F _ w_) mixed (by kernel_rfl) (h1.drew)<|M2 1 rfl<|X0 (fun w_ hC_ => U3 underlying167 rfl rfl) rfl<|M2 3 rfl<|Y2 rfl<|X0 (fun w_ hC_ => K0 underlying3 rfl rfl (hC_.cell hay)) rfl<|K5 [0] 1 rfl<|Y2 rfl<|X0 (fun w_ hC_ => Bt (L1 rfl rfl) (by simp)) rfl<|M2 2 rfl<|K3 fun w2 h2=>H0<|J1 rfl (rfl)<|Wi<|C0 1 rfl<|Wg<|ret1 rfl rfl ⟨F, l, Le.refl _, ?_, ?_, by rw [set_self hi]; exact h2.drop 0⟩
 ·simp [say, hl, if_true]
 simp only [say, hl, if_true]; exact hm
theorem say_int_C (w : World) (i : Nat) {m : Nat} {l : List (Int × Value)} {ns : List Int} {os : List (Option Int)} (n : Int) (x y : Int) (may : Bool) (h : St W F cs w) (hi : cs[i]? = some [(m, mobj l)]) (hm : MR Vi F ns os l) (hl : look n ns os = some (some y)) (hy : y ≠ x) : Calls prog 130 #[.map (some m), Vi n, Vi x, .bool may] w fun e w' => ∃ G l', Le F G ∧ e = .returned (Vi (say ns os n x may).1) ∧ MR Vi G ns (say ns os n x may).2 l' ∧ St W G (cs.set i [(m, mobj l')]) w'  := by
 refine enter (args := [.map (some m), Vi n, Vi x, .bool may]) func130 rfl rfl rfl ?_
 have hf := hm.find n 0
 rw [hl] at hf
 obtain ⟨ay, hlk, hay⟩ : ∃ a, (Value.tuple #[((mfind n l 0).map (·.2)).getD (.pointer none), .bool (mfind n l 0).isSome]) = .tuple #[.pointer (some a), .bool true] ∧ cellF F a = some (Vi y) := by
  rcases hf with ⟨h1, _⟩ | ⟨_, _, _, h1, h2, h3⟩
  ·cases h1
  cases h1
  obtain ⟨a, rfl, h5⟩ := h3
  exact ⟨a, by rw [h2]; rfl, h5⟩
 refine Wi<|J3 rfl h rfl fun b6 w1 h1=>C0 1 rfl<|We<|C0 2 rfl<|I0 (X1 (u := .tuple #[.pointer (some ay), .bool true]) (L4 h1 (i + 1) hi underlying137 underlying3 inf167 rfl rfl) hlk) rfl<|C0 5 rfl<|Wb<|M1<|Wi<|C0 3 rfl<|Wa<|E1 rfl (rfl)<|N0<|T2 (C := fun w_ => St W F _ w_) mixed (by kernel_rfl) (h1.drew)<|M2 1 rfl<|X0 (fun w_ hC_ => U3 underlying167 rfl rfl) rfl<|M2 3 rfl<|Y2 rfl<|X0 (fun w_ hC_ => K0 underlying3 rfl rfl (hC_.cell hay)) rfl<|K5 [0] 1 rfl<|Y2 rfl<|X0 (fun w_ hC_ => Bf (L1 rfl rfl) (by simp [hy])) rfl<|M2 2 rfl<|K3 fun w2 h2=>H0<|E1 rfl (rfl)<|Wi<|C0 1 rfl<|I0 (U3 underlying167 rfl rfl) rfl<|C0 5 rfl<|Wa<|J1 rfl (rfl)<|Wi<|C0 1 rfl<|Wg<|ret1 rfl rfl ⟨F, l, Le.refl _, ?_, ?_, by rw [set_self hi]; exact h2.drop 0⟩
 ·simp [say, hl, hy]
 simp only [say, hl, hy, if_false]; exact hm
theorem say_int_D (w : World) (i : Nat) {m : Nat} {l : List (Int × Value)} {ns : List Int} {os : List (Option Int)} (n : Int) (x y : Int) (may : Bool) (h : St W F cs w) (hi : cs[i]? = some [(m, mobj l)]) (hm : MR Vi F ns os l) (hl : look n ns os = some none) (hmay : may = false) : Calls prog 130 #[.map (some m), Vi n, Vi x, .bool may] w fun e w' => ∃ G l', Le F G ∧ e = .returned (Vi (say ns os n x may).1) ∧ MR Vi G ns (say ns os n x may).2 l' ∧ St W G (cs.set i [(m, mobj l')]) w'  := by
 refine enter (args := [.map (some m), Vi n, Vi x, .bool may]) func130 rfl rfl rfl ?_
 have hf := hm.find n 0
 rw [hl] at hf
 obtain ⟨hlk, _⟩ : (Value.tuple #[((mfind n l 0).map (·.2)).getD (.pointer none), .bool (mfind n l 0).isSome]) = .tuple #[.pointer none, .bool true] ∧ True := by
  rcases hf with ⟨h1, _⟩ | ⟨_, _, _, h1, h2, h3⟩
  ·cases h1
  cases h1
  exact ⟨by rw [h2]; cases h3; rfl, trivial⟩
 subst hmay
 refine Wi<|J3 rfl h rfl fun b6 w1 h1=>C0 1 rfl<|We<|C0 2 rfl<|I0 (X1 (u := .tuple #[.pointer none, .bool true]) (L4 h1 (i + 1) hi underlying137 underlying3 inf167 rfl rfl) hlk) rfl<|C0 5 rfl<|Wb<|M1<|Wi<|C0 3 rfl<|Wa<|E1 rfl (rfl)<|N0<|T2 (C := fun w_ => St W F _ w_) mixed (by kernel_rfl) (h1.drew)<|M2 1 rfl<|X0 (fun w_ hC_ => U3 underlying167 rfl rfl) rfl<|M2 8 rfl<|K3 fun w2 h2=>H0<|E1 rfl (rfl)<|Wi<|C0 1 rfl<|I0 (U3 underlying167 rfl rfl) rfl<|C0 5 rfl<|Wa<|J1 rfl (rfl)<|Wi<|C0 1 rfl<|Wg<|ret1 rfl rfl ⟨F, l, Le.refl _, ?_, ?_, by rw [set_self hi]; exact h2.drop 0⟩
 ·simp [say, hl]
 simp only [say, hl, Bool.false_eq_true, if_false]; exact hm
theorem say_int_E (w : World) (i : Nat) {m : Nat} {l : List (Int × Value)} {ns : List Int} {os : List (Option Int)} (n : Int) (x y : Int) (may : Bool) (h : St W F cs w) (hi : cs[i]? = some [(m, mobj l)]) (hm : MR Vi F ns os l) (hl : look n ns os = some none) (hmay : may = true) : Calls prog 130 #[.map (some m), Vi n, Vi x, .bool may] w fun e w' => ∃ G l', Le F G ∧ e = .returned (Vi (say ns os n x may).1) ∧ MR Vi G ns (say ns os n x may).2 l' ∧ St W G (cs.set i [(m, mobj l')]) w'  := by
 refine enter (args := [.map (some m), Vi n, Vi x, .bool may]) func130 rfl rfl rfl ?_
 have hf := hm.find n 0
 rw [hl] at hf
 obtain ⟨hlk, _⟩ : (Value.tuple #[((mfind n l 0).map (·.2)).getD (.pointer none), .bool (mfind n l 0).isSome]) = .tuple #[.pointer none, .bool true] ∧ True := by
  rcases hf with ⟨h1, _⟩ | ⟨_, _, _, h1, h2, h3⟩
  ·cases h1
  cases h1
  exact ⟨by rw [h2]; cases h3; rfl, trivial⟩
 subst hmay
 refine Wi<|J3 rfl h rfl fun b6 w1 h1=>C0 1 rfl<|We<|C0 2 rfl<|I0 (X1 (u := .tuple #[.pointer none, .bool true]) (L4 h1 (i + 1) hi underlying137 underlying3 inf167 rfl rfl) hlk) rfl<|C0 5 rfl<|Wb<|M1<|Wi<|C0 3 rfl<|Wa<|E1 rfl (rfl)<|N0<|T2 (C := fun w_ => St W F _ w_) mixed (by kernel_rfl) (h1.drew)<|M2 1 rfl<|X0 (fun w_ hC_ => U3 underlying167 rfl rfl) rfl<|M2 8 rfl<|K3 fun w2 h2=>H0<|E1 rfl (rfl)<|Wi<|C0 1 rfl<|I0 (U3 underlying167 rfl rfl) rfl<|C0 5 rfl<|Wa<|E1 rfl (rfl)<|U0<|N1<|H0<|Wi<|C0 2 rfl<|A6 h2 (i + 1) hi underlying137 underlying3 rfl rfl rfl ?_
 intro  w3 h3
 try simp only [ZZ] at h3
 refine We<|C0 1 rfl<|J0 (H0 (O1 ?_))
 obtain ⟨G, g1, g2, g3⟩ := h3.freeze (i := 0) rfl
 have hc : cellF G ⟨b6, 0, none⟩ = some (Vi x) := by
  have := g2 _ (List.mem_cons_self)
  unfold cellF
  simp only [this]
  rfl
 refine ret1 rfl rfl ⟨G, _, g1, ?_, ?_, g3⟩
 ·simp [say, hl]
 simp only [say, hl, if_true]
 exact (hm.mono g1).put ⟨_, rfl, hc⟩ (by rw [hl]; rfl)
theorem say_int (w : World) (i : Nat) {m : Nat} {l : List (Int × Value)} {ns : List Int} {os : List (Option Int)} (n : Int) (x : Int) (may : Bool) (h : St W F cs w) (hi : cs[i]? = some [(m, mobj l)]) (hm : MR Vi F ns os l) : Calls prog 130 #[.map (some m), Vi n, Vi x, .bool may] w fun e w' => ∃ G l', Le F G ∧ e = .returned (Vi (say ns os n x may).1) ∧ MR Vi G ns (say ns os n x may).2 l' ∧ St W G (cs.set i [(m, mobj l')]) w' := by
 cases hl : look n ns os with
 |none => exact say_int_A w i n x x may h hi hm hl
 |some o =>
  cases o with
  |none =>
   cases may
   ·exact say_int_D w i n x x false h hi hm hl rfl
   exact say_int_E w i n x x true h hi hm hl rfl
  |some y =>
   by_cases hy : y = x
   ·exact say_int_B w i n x y may h hi hm hl hy
   exact say_int_C w i n x y may h hi hm hl hy
structure TR (F : Snap) (cs : List Res) (bt i j mv mc : Nat) (lv lc : List (Int × Value)) (t : T) : Prop where
 s0 : ∃ A cap, cellF F ⟨bt, 0, none⟩ = some (.slice A t.ns.length cap) ∧ RdS (Kd.one Vi) F A t.ns
 s1 : cellF F ⟨bt, 1, none⟩ = some (.map (some mv))
 s2 : cellF F ⟨bt, 2, none⟩ = some (.map (some mc))
 iv : cs[i]? = some [(mv, mobj lv)]
 ic : cs[j]? = some [(mc, mobj lc)]
 rv : MR Value.bool F t.ns t.vs lv
 rc : MR Vi F t.ns t.cs lc
 pos : 0 < t.ns.length
 small : t.ns.length ≤ 16
 nd : t.ns.Nodup
 ne : i ≠ j
theorem max_step (l : List Int) (i : Nat) (a : Int) (hi : i < l.length) : (l.take (i + 1)).foldl max a = (if (l.take i).foldl max a < l.getD i 0 then l.getD i 0 else (l.take i).foldl max a) := by
 rw [take_nx hi, List.foldl_append]
 show max _ _ = _
 rw [Int.max_def]
 split <;> split <;> omega
theorem not_false {t : T} {lv : List (Int × Value)} {F : Snap} (h : MR Value.bool F t.ns t.vs lv) {seen : Array Nat} (hs : ∀ p, p ∈ seen → t.vs[p]? ≠ some (some false)) (ha : ∀ p, p < lv.length → p ∈ seen) : some false ∉ t.vs := by
 intro hm
 obtain ⟨p, hp⟩ := List.getElem?_of_mem hm
 have hl := h.len
 have : p < t.vs.length := (List.getElem?_eq_some_iff.1 hp).1
 exact hs p (ha p (by omega)) hp
theorem max_c (w : World) {ad : Addr} {cap : Nat} (a : Int) (l : List Int) (h : St W F cs w) (hrd : ∀ i x, (a :: l)[i]? = some x → cellF F (ad.add i) = some (Vi x)) (hn : (a :: l).length ≤ 100000) : Calls prog 162 #[.slice (some ad) (a :: l).length cap] w fun e w' => e = .returned (Vi (l.foldl max a)) ∧ St W F cs w'  := by
 refine enter (args := [.slice (some ad) (a :: l).length cap]) func162 rfl rfl rfl<|Wi<|C0 1 rfl<|Wh<|C0 1 rfl<|I0 (Y0 underlying33 rfl rfl) rfl<|I0 (Bf (Q1 rfl rfl) (by rw [decide_eq_false_iff_not, List.length_cons]; omega)) rfl<|Wa<|E1 rfl (rfl)<|Wk<|C0 1 rfl<|I0 (W0 underlying33 inf3 rfl rfl (n := 0) rfl (by rw [List.length_cons]; omega)) rfl<|I0 (R0 (n := a) (I1 (f := Vi) (0 : Int) h hrd (n := 0) (by rw [List.length_cons]; omega) underlying3 rfl rfl) rfl) rfl<|C0 1 rfl<|Wh<|C0 1 rfl<|Wj<|B3 (σ := Nat) (fun q_ => [(0, .slice (some ad) (a :: l).length cap), (3, Vi ((l.take q_).foldl max a)), (4, .int .i64 ((q_ + 1 : Nat) : Int))]) (fun q_ w => q_ ≤ l.length ∧ St W F cs w) (fun q_ => l.length - q_) (0) (⟨by omega, h⟩) ?_
 rintro i w1 ⟨hi, hL⟩
 try dsimp only at hi hL
 refine W2 [(0, .slice (some ad) (a :: l).length cap), (3, Vi ((l.take i).foldl max a)), (4, .int .i64 ((i + 1 : Nat) : Int))] ?_
 have hll : (a :: l).length = l.length + 1 := rfl
 refine N0<|Wi<|C0 2 rfl<|I0 (Y0 underlying33 rfl rfl) rfl<|C0 1 rfl<|Wa<|Z0 rfl (fun c2 => ?_) (fun c2 => ?_)
 ·try simp only [DD] at c2
  refine U0<|H0<|N0<|M1<|L0<|C0 3 rfl<|I0 (W0 underlying33 inf3 rfl rfl (n := i + 1) rfl (by omega)) rfl<|I0 (R0 (n := l.getD i 0) (I1 (f := Vi) (0 : Int) hL hrd (n := i + 1) (by omega) underlying3 rfl rfl) (by simp)) rfl<|I0 (Runs.max rfl rfl) rfl<|C0 1 rfl<|J0<|N1<|H0<|L0<|C0 1 rfl<|I0 (V0 rfl rfl (by omega)) rfl<|C0 1 rfl<|J0<|F1 (i + 1) (by omega) ⟨rfl, ?_, rfl, trivial⟩ ⟨by omega, hL⟩
  show _ = some (Vi ((l.take (i + 1)).foldl max a))
  rw [max_step _ _ _ (by omega)]
  rfl
 try simp only [DD] at c2
 refine U1<|B2<|WX.cut<|E2<|H0<|Wi<|C0 2 rfl<|J0 (H0 (O1 ?_))
 obtain rfl : i = l.length := by omega
 refine ret1 rfl rfl ⟨?_, hL⟩
 rw [List.take_of_length_le (Nat.le_refl _)]
theorem worst_1 (w : World) {A : Option Addr} {cap : Nat} (a : Int) (l : List Int) (h : St W F cs w) (hR : RdS (Kd.one Vi) F A (a :: l)) (hn : (a :: l).length ≤ 100000) : Calls prog 140 #[.slice A (a :: l).length cap] w fun e w' => e = .returned (Vi (worst (a :: l))) ∧ St W F cs w'  := by
 refine enter (args := [.slice A (a :: l).length cap]) func140 rfl rfl rfl ?_
 obtain ⟨ad, rfl, hrd⟩ := rd1 hR (by rw [List.length_cons]; omega)
 refine Wi<|C0 1 rfl<|Wh<|C0 1 rfl<|I0 (Y0 underlying33 rfl rfl) rfl<|I0 (Bf (L1 rfl rfl) (by rw [decide_eq_false_iff_not, List.length_cons]; omega)) rfl<|Wa<|E1 rfl (rfl)<|Wk<|C0 1 rfl<|C1 (cn func162) rfl rfl (max_c _ a l h hrd hn) fun w1 h1 =>C0 1 rfl<|Wg<|ret1 rfl rfl ⟨rfl, h1⟩
theorem worst_0 (w : World) {A : Option Addr} {cap : Nat} (h : St W F cs w) : Calls prog 140 #[.slice A 0 cap] w fun e w' => e = .returned (Vi (worst [])) ∧ St W F cs w'  := by
 refine enter (args := [.slice A 0 cap]) func140 rfl rfl rfl<|Wi<|C0 1 rfl<|Wh<|C0 1 rfl<|I0 (Y0 underlying33 rfl rfl) rfl<|C0 1 rfl<|Wa<|J1 rfl (rfl)<|Wi<|C0 1 rfl<|Wg<|ret1 rfl rfl ⟨rfl, h⟩
theorem worst_c (w : World) {A : Option Addr} {cap : Nat} (xs : List Int) (h : St W F cs w) (hR : RdS (Kd.one Vi) F A xs) (hn : xs.length ≤ 100000) : Calls prog 140 #[.slice A xs.length cap] w fun e w' => e = .returned (Vi (worst xs)) ∧ St W F cs w' := by
 cases xs with
 |nil => exact worst_0 w h
 |cons a l => exact worst_1 w a l h hR hn
theorem state_c (w : World) {bt i j mv mc : Nat} {lv lc : List (Int × Value)} {t : T} (h : St W F cs w) (ht : TR F cs bt i j mv mc lv lc t) : Calls prog 45 #[pz bt] w fun e w' => e = .returned (Vi t.state) ∧ St W F cs w'  := by
 refine enter (args := [pz bt]) func45 rfl rfl rfl ?_
 obtain ⟨A, cap, hs0, hR⟩ := ht.s0
 have hpos := ht.pos
 have hsmall := ht.small
 refine Wi<|C0 1 rfl<|Wh<|C0 1 rfl<|I0 (L2 underlying97 rfl rfl) rfl<|Wa<|E1 rfl (rfl)<|U0<|H0<|N0<|Wi<|C0 3 rfl<|I0 (K0 underlying136 rfl rfl (h.cell ht.s1)) rfl<|WL.range h i ht.iv underlying136 rfl rfl ?_
 intro it w1 h1
 try simp only [ZZ] at h1
 refine Wj<|B3 (σ := Array Nat) (fun q_ => [(0, pz bt), (11, pz it)]) (fun q_ w => (∀ p, p ∈ q_ → t.vs[p]? ≠ some (some false)) ∧ St W F ([(it, .mapIter (some mv) lv.length q_ lv.length)] :: cs) w) (fun q_ => togo lv.length q_) (#[]) (⟨by simp, h1⟩) ?_
 rintro seen w2 ⟨hq, hL⟩
 try dsimp only at hq hL
 refine W2 [(0, pz bt), (11, pz it)]<|Wi<|WL.next1 hL 0 (i + 1) rfl ht.iv rfl rfl fun on wn hnx=>I0 (Runs.extract rfl (nxa0 on)) rfl<|Wb<|Z0 rfl (fun c3 => ?_) (fun c3 => ?_)
 ·try simp only [DD] at c3
  refine U0 (H0 (M1 (N0 (L0 ?_))))
  obtain ⟨p, kv, rfl, hp, hps, hS⟩ : ∃ p kv, on = some kv ∧ lv[p]? = some kv ∧ p ∉ seen ∧ St W F ([(it, .mapIter (some mv) lv.length (seen.push p) lv.length)] :: cs) wn := by
   rcases hnx with ⟨rfl, _⟩ | hnx
   ·simp_all
   exact hnx
  obtain ⟨ov, hov, hpo⟩ := ht.rv.at_ hp
  refine I0 (Runs.entry hS 0 (i + 1) rfl ht.iv hp rfl) rfl<|C0 2 rfl<|J0 (H0 (N0 ?_))
  cases hov2 : ov
  ·rw [hov2] at hpo hov
   obtain ⟨k0, kx⟩ := kv
   obtain rfl : kx = .pointer none := hpo
   refine L0<|C0 1 rfl<|I0 (U3 underlying140 rfl rfl) rfl<|C0 6 rfl<|Wa<|E1 rfl (rfl)<|U0<|N1<|F1 (seen.push p) (togo_push (List.getElem?_eq_some_iff.1 hp).1 hps) ⟨rfl, rfl, trivial⟩ ⟨?_, hS⟩
   intro p' hp'
   rcases Array.mem_push.1 hp' with hp' | rfl
   ·exact hq p' hp'
   rw [hov]; simp_all
  rename_i bv
  rw [hov2] at hpo hov
  obtain ⟨k0, kx⟩ := kv
  obtain ⟨ap, rfl, hpb⟩ : ∃ a, kx = .pointer (some a) ∧ cellF F a = some (.bool bv) := hpo
  refine L0<|C0 1 rfl<|I0 (U3 underlying140 rfl rfl) rfl<|C0 3 rfl<|Q0 rfl<|I0 (K0 underlying4 rfl rfl (hS.cell hpb)) rfl<|C0 2 rfl<|Wa<|Z0 rfl (fun c4 => ?_) (fun c4 => ?_)
  ·try simp only [DD] at c4
   refine Wi<|C0 1 rfl<|Wg<|ret1 rfl rfl ⟨?_, hS.drop 0⟩
   have : some false ∈ t.vs := mG (i := p) (by rw [hov]; simp_all)
   simp [T.state, this]
  try simp only [DD] at c4
  refine U0<|N1<|F1 (seen.push p) (togo_push (List.getElem?_eq_some_iff.1 hp).1 hps) ⟨rfl, rfl, trivial⟩ ⟨?_, hS⟩
  intro p' hp'
  rcases Array.mem_push.1 hp' with hp' | rfl
  ·exact hq p' hp'
  rw [hov]; simp_all
 try simp only [DD] at c3
 refine U1<|B2<|WX.cut<|E2<|H0<|N0<|M1 (N0 ?_)
 obtain ⟨rfl, hall, hS2⟩ : on = none ∧ (∀ p, p < lv.length → p ∈ seen) ∧ St W F ([(it, .mapIter (some mv) lv.length seen lv.length)] :: cs) wn := by
  rcases hnx with hnx | ⟨_, _, rfl, _⟩
  ·exact hnx
  simp_all
 have hnf := not_false ht.rv hq hall
 refine Q4 (fun w_ => St W _ _ w_) (fun k => Nat.beq k 8) mixed (by kernel_rfl) (hS2.drew)<|fun hx =>K4 hx 3 rfl<|W3 12 hx (by rfl) rfl (by kernel_rfl) (fun w_ hC_ => K0 underlying33 rfl rfl (hC_.cell hs0)) rfl<|K4 hx 3 rfl<|W3 12 hx (by rfl) rfl (by kernel_rfl) (fun w_ hC_ => K0 underlying136 rfl rfl (hC_.cell ht.s1)) rfl<|Z4 hx rfl (by decide) (by kernel_rfl) fun w5 h5=>F5 (by rfl) rfl (by kernel_rfl)<|V1 (cn func89) rfl rfl (silent_bool _ (i + 1) h5 ht.iv ht.rv hR ht.pos ht.nd (by omega)) ?_
 rintro _ w6 ⟨G7, A7, cap7, hle7, rfl, hc7, hrd7, h6⟩
 refine ⟨_, rfl,J0<|I4<|X3 hx (by rfl) (fun w_ => Y0 underlying33 rfl rfl) rfl<|X3 hx (by rfl) (fun w_ => Y1 rfl rfl) rfl<|X3 hx (by rfl) (fun w_ => Runs.assign rfl) rfl<|B5 rfl (by kernel_rfl)<|H0<|Z0 rfl (fun c8 => ?_) (fun c8 => ?_)⟩
 ·try simp only [DD] at c8
  refine Wi<|C0 1 rfl<|Wg<|ret1 rfl rfl ⟨?_, (h6.drop 0).weak hle7⟩
  simp only [T.state, hnf, if_false]
  rw [if_pos (by omega)]
 try simp only [DD] at c8
 refine N0<|Q4 (fun w_ => St W _ _ w_) (fun k => Nat.beq k 8) mixed (by kernel_rfl) (h6.drew)<|fun hx =>K4 hx 3 rfl<|W3 12 hx (by rfl) rfl (by kernel_rfl) (fun w_ hC_ => K0 underlying33 rfl rfl (hC_.cell (cellF_le hle7 hs0))) rfl<|K4 hx 3 rfl<|W3 12 hx (by rfl) rfl (by kernel_rfl) (fun w_ hC_ => K0 underlying137 rfl rfl (hC_.cell (cellF_le hle7 ht.s2))) rfl<|Z4 hx rfl (by decide) (by kernel_rfl) fun w9 h9=>F5 (by rfl) rfl (by kernel_rfl)<|V1 (cn func90) rfl rfl (silent_int _ (j + 1) h9 ht.ic (ht.rc.mono hle7) (hR.mono hle7) ht.pos ht.nd (by omega)) ?_
 rintro _ w10 ⟨G11, A11, cap11, hle11, rfl, hc11, hrd11, h10⟩
 refine ⟨_, rfl,J0<|I4<|X3 hx (by rfl) (fun w_ => Y0 underlying33 rfl rfl) rfl<|X3 hx (by rfl) (fun w_ => Y1 rfl rfl) rfl<|X3 hx (by rfl) (fun w_ => Runs.assign rfl) rfl<|B5 rfl (by kernel_rfl)<|H0<|Z0 rfl (fun c12 => ?_) (fun c12 => ?_)⟩
 ·try simp only [DD] at c12
  refine Wi<|C0 1 rfl<|Wg<|ret1 rfl rfl ⟨?_, (h10.drop 0).weak (Le.trans hle7 hle11)⟩
  simp only [T.state, hnf, if_false]
  rw [if_neg (by omega), if_pos (by omega)]
 try simp only [DD] at c12
 refine U0<|N1<|H0<|Wi<|C0 1 rfl<|Wg<|ret1 rfl rfl ⟨?_, (h10.drop 0).weak (Le.trans hle7 hle11)⟩
 simp only [T.state, hnf, if_false]
 rw [if_neg (by omega), if_neg (by omega)]
theorem TR.mono {F G : Snap} {cs : List Res} {bt i j mv mc : Nat} {lv lc : List (Int × Value)} {t : T} (hle : Le F G) (h : TR F cs bt i j mv mc lv lc t) : TR G cs bt i j mv mc lv lc t := by
 obtain ⟨⟨A, cap, h1, h2⟩, h3, h4, h5, h6, h7, h8, h9, h10, h11, h12⟩ := h
 exact ⟨⟨A, cap, cellF_le hle h1, h2.mono hle⟩, cellF_le hle h3, cellF_le hle h4, h5, h6, h7.mono hle, h8.mono hle, h9, h10, h11, h12⟩
theorem TR.vote {F G : Snap} {cs : List Res} {bt i j mv mc : Nat} {lv lc : List (Int × Value)} {t : T} {l1 : List (Int × Value)} {vs' : List (Option Bool)} (h : TR F cs bt i j mv mc lv lc t) (hle : Le F G) (hm : MR Value.bool G t.ns vs' l1) : TR G (cs.set i [(mv, mobj l1)]) bt i j mv mc l1 lc { t with vs := vs' } := by
 obtain ⟨⟨A, cap, h1, h2⟩, h3, h4, h5, h6, h7, h8, h9, h10, h11, h12⟩ := h
 exact ⟨⟨A, cap, cellF_le hle h1, h2.mono hle⟩, cellF_le hle h3, cellF_le hle h4, by rw [List.getElem?_set_self (List.getElem?_eq_some_iff.1 h5).1], by rw [List.getElem?_set_ne h12]; exact h6, hm, h8.mono hle, h9, h10, h11, h12⟩
theorem TR.exit {F G : Snap} {cs : List Res} {bt i j mv mc : Nat} {lv lc : List (Int × Value)} {t : T} {l1 : List (Int × Value)} {cs' : List (Option Int)} (h : TR F cs bt i j mv mc lv lc t) (hle : Le F G) (hm : MR Vi G t.ns cs' l1) : TR G (cs.set j [(mc, mobj l1)]) bt i j mv mc lv l1 { t with cs := cs' } := by
 obtain ⟨⟨A, cap, h1, h2⟩, h3, h4, h5, h6, h7, h8, h9, h10, h11, h12⟩ := h
 exact ⟨⟨A, cap, cellF_le hle h1, h2.mono hle⟩, cellF_le hle h3, cellF_le hle h4, by rw [List.getElem?_set_ne (Ne.symm h12)]; exact h5, by rw [List.getElem?_set_self (List.getElem?_eq_some_iff.1 h6).1], h7.mono hle, hm, h9, h10, h11, h12⟩
theorem exit_no {t : T} {n c : Int} (h : c < 0 ∨ 255 < c) : t.exit n c = (1, t) := if_pos h
theorem exit_yes {t : T} {n c : Int} (h : ¬ (c < 0 ∨ 255 < c)) : t.exit n c = ((say t.ns t.cs n c (decide (t.state = 1))).1, { t with cs := (say t.ns t.cs n c (decide (t.state = 1))).2 }) := if_neg h
theorem vote_c (w : World) (n : Int) (b : Bool) {bt i j mv mc : Nat} {lv lc : List (Int × Value)} {t : T} (h : St W F cs w) (ht : TR F cs bt i j mv mc lv lc t) : Calls prog 87 #[pz bt, Vi n, .bool b] w fun e w' => ∃ G lv', Le F G ∧ e = .returned (Vi (t.vote n b).1) ∧ St W G (cs.set i [(mv, mobj lv')]) w' ∧ TR G (cs.set i [(mv, mobj lv')]) bt i j mv mc lv' lc (t.vote n b).2  := by
 refine enter (args := [pz bt, Vi n, .bool b]) func87 rfl rfl rfl ?_
 obtain ⟨A, cap, hs0, hR⟩ := ht.s0
 have hpos := ht.pos
 have hsmall := ht.small
 refine Wi<|C0 1 rfl<|Wh<|C0 1 rfl<|I0 (L2 underlying97 rfl rfl) rfl<|Wa<|E1 rfl (rfl)<|U0<|H0<|N0<|Q4 (fun w_ => St W _ _ w_) (fun k => Nat.beq k 9) mixed (by kernel_rfl) (h.drew)<|fun hx =>K4 hx 3 rfl<|W3 12 hx (by rfl) rfl (by kernel_rfl) (fun w_ hC_ => K0 underlying136 rfl rfl (hC_.cell ht.s1)) rfl<|K4 hx 3 rfl<|W5 12 hx (by rfl) rfl (by kernel_rfl) (cn func45) rfl rfl (fun w_ hC_ => state_c _ hC_ ht)<|K4 hx 1 rfl<|Z4 hx rfl (by decide) (by kernel_rfl) fun w1 h1=>F5 (by rfl) rfl (by kernel_rfl)<|V1 (cn func129) rfl rfl (say_bool _ i n b _ h1 ht.iv ht.rv) ?_
 rintro _ w2 ⟨G, l1, hle, rfl, hm1, h2⟩
 refine ⟨_, rfl,J0<|I4<|X3 hx (by rfl) (fun w_ => Runs.assign rfl) rfl<|B5 rfl (by kernel_rfl)<|H0<|O1<|ret1 rfl rfl ⟨G, l1, hle, rfl, h2, ht.vote hle hm1⟩⟩
theorem exit_1 (w : World) (n c : Int) {bt i j mv mc : Nat} {lv lc : List (Int × Value)} {t : T} (h : St W F cs w) (ht : TR F cs bt i j mv mc lv lc t) (hc : c < 0) : Calls prog 88 #[pz bt, Vi n, Vi c] w fun e w' => ∃ G lc', Le F G ∧ e = .returned (Vi (t.exit n c).1) ∧ St W G (cs.set j [(mc, mobj lc')]) w' ∧ TR G (cs.set j [(mc, mobj lc')]) bt i j mv mc lv lc' (t.exit n c).2  := by
 refine enter (args := [pz bt, Vi n, Vi c]) func88 rfl rfl rfl ?_
 obtain ⟨A, cap, hs0, hR⟩ := ht.s0
 have hpos := ht.pos
 have hsmall := ht.small
 have hbad : c < 0 ∨ 255 < c := by omega
 refine Wi<|C0 1 rfl<|Wh<|C0 1 rfl<|I0 (L2 underlying97 rfl rfl) rfl<|C0 2 rfl<|Q0 rfl<|I0 (Bt (Q1 rfl rfl) (dA (by omega))) rfl<|C0 5 rfl<|Wa<|J1 rfl (rfl)<|Wi<|C0 1 rfl<|Wg<|ret1 rfl rfl ⟨F, lc, Le.refl _, ?_, by rw [set_self ht.ic]; exact h, by rw [set_self ht.ic, exit_no hbad]; exact ht⟩
 rw [exit_no hbad]
theorem exit_2 (w : World) (n c : Int) {bt i j mv mc : Nat} {lv lc : List (Int × Value)} {t : T} (h : St W F cs w) (ht : TR F cs bt i j mv mc lv lc t) (h0 : 0 ≤ c) (hc : 255 < c) : Calls prog 88 #[pz bt, Vi n, Vi c] w fun e w' => ∃ G lc', Le F G ∧ e = .returned (Vi (t.exit n c).1) ∧ St W G (cs.set j [(mc, mobj lc')]) w' ∧ TR G (cs.set j [(mc, mobj lc')]) bt i j mv mc lv lc' (t.exit n c).2  := by
 refine enter (args := [pz bt, Vi n, Vi c]) func88 rfl rfl rfl ?_
 obtain ⟨A, cap, hs0, hR⟩ := ht.s0
 have hpos := ht.pos
 have hsmall := ht.small
 have hbad : c < 0 ∨ 255 < c := by omega
 refine Wi<|C0 1 rfl<|Wh<|C0 1 rfl<|I0 (L2 underlying97 rfl rfl) rfl<|C0 2 rfl<|Q0 rfl<|I0 (Bf (Q1 rfl rfl) (dN (by omega))) rfl<|C0 3 rfl<|Q0 rfl<|I0 (Bt (Y1 rfl rfl) (dA (by omega))) rfl<|C0 1 rfl<|Wa<|J1 rfl (rfl)<|Wi<|C0 1 rfl<|Wg<|ret1 rfl rfl ⟨F, lc, Le.refl _, ?_, by rw [set_self ht.ic]; exact h, by rw [set_self ht.ic, exit_no hbad]; exact ht⟩
 rw [exit_no hbad]
theorem exit_3 (w : World) (n c : Int) {bt i j mv mc : Nat} {lv lc : List (Int × Value)} {t : T} (h : St W F cs w) (ht : TR F cs bt i j mv mc lv lc t) (h0 : 0 ≤ c) (hc : c ≤ 255) : Calls prog 88 #[pz bt, Vi n, Vi c] w fun e w' => ∃ G lc', Le F G ∧ e = .returned (Vi (t.exit n c).1) ∧ St W G (cs.set j [(mc, mobj lc')]) w' ∧ TR G (cs.set j [(mc, mobj lc')]) bt i j mv mc lv lc' (t.exit n c).2  := by
 refine enter (args := [pz bt, Vi n, Vi c]) func88 rfl rfl rfl ?_
 obtain ⟨A, cap, hs0, hR⟩ := ht.s0
 have hpos := ht.pos
 have hsmall := ht.small
 have hbad : ¬ (c < 0 ∨ 255 < c) := by omega
 refine Wi<|C0 1 rfl<|Wh<|C0 1 rfl<|I0 (L2 underlying97 rfl rfl) rfl<|C0 2 rfl<|Q0 rfl<|I0 (Bf (Q1 rfl rfl) (dN (by omega))) rfl<|C0 3 rfl<|Q0 rfl<|I0 (Bf (Y1 rfl rfl) (dN (by omega))) rfl<|C0 1 rfl<|Wa<|E1 rfl (rfl)<|U0<|H0<|N0<|Q4 (fun w_ => St W _ _ w_) (fun k => Nat.beq k 9) mixed (by kernel_rfl) (h.drew)<|fun hx =>K4 hx 3 rfl<|W3 12 hx (by rfl) rfl (by kernel_rfl) (fun w_ hC_ => K0 underlying137 rfl rfl (hC_.cell ht.s2)) rfl<|K4 hx 3 rfl<|W5 12 hx (by rfl) rfl (by kernel_rfl) (cn func45) rfl rfl (fun w_ hC_ => state_c _ hC_ ht)<|K4 hx 1 rfl<|Z4 hx rfl (by decide) (by kernel_rfl) fun w1 h1=>F5 (by rfl) rfl (by kernel_rfl)<|V1 (cn func130) rfl rfl (say_int _ j n c _ h1 ht.ic ht.rc) ?_
 rintro _ w2 ⟨G, l1, hle, rfl, hm1, h2⟩
 refine ⟨_, rfl,J0<|I4<|X3 hx (by rfl) (fun w_ => Runs.assign rfl) rfl<|B5 rfl (by kernel_rfl)<|H0<|O1<|ret1 rfl rfl ⟨G, l1, hle, ?_, h2, ?_⟩⟩
 ·rw [exit_yes hbad]
 rw [exit_yes hbad]; exact ht.exit hle hm1
theorem exit_c (w : World) (n c : Int) {bt i j mv mc : Nat} {lv lc : List (Int × Value)} {t : T} (h : St W F cs w) (ht : TR F cs bt i j mv mc lv lc t) : Calls prog 88 #[pz bt, Vi n, Vi c] w fun e w' => ∃ G lc', Le F G ∧ e = .returned (Vi (t.exit n c).1) ∧ St W G (cs.set j [(mc, mobj lc')]) w' ∧ TR G (cs.set j [(mc, mobj lc')]) bt i j mv mc lv lc' (t.exit n c).2 := by
 by_cases h1 : c < 0
 ·exact exit_1 w n c h ht h1
 by_cases h2 : 255 < c
 ·exact exit_2 w n c h ht (by omega) h2
 exact exit_3 w n c h ht (by omega) (by omega)
theorem codes_all {t : T} (hl : t.cs.length = t.ns.length) (h : t.state = 3) : ∀ o ∈ t.cs, o.isSome = true := by
 unfold T.state at h
 split at h
 ·cases h
 split at h
 ·cases h
 split at h
 ·cases h
 rename_i h3
 exact (miss_none hl).1 (List.eq_nil_of_length_eq_zero (by omega))
theorem look_at {ns : List Int} {os : List (Option Int)} : ∀ {k : Nat}, ns.Nodup → os.length = ns.length → k < ns.length → look (ns.getD k 0) ns os = some (os.getD k none) := by
 induction ns generalizing os with
 |nil => intro k _ _ h; simp at h
 |cons m ns ih =>
  intro k hd hl hk
  cases os with
  |nil => simp at hl
  |cons o os =>
   have hd' := List.nodup_cons.1 hd
   cases k with
   |zero => simp [look]
   |succ k =>
    simp only [List.length_cons, Nat.add_lt_add_iff_right] at hk hl
    have hne : ns.getD k 0 ≠ m := fun e => hd'.1 (e ▸ mem_at hk)
    have := ih (os := os) hd'.2 (by simpa using hl) hk
    unfold look
    simp only [List.getD_cons_succ]
    rw [if_neg hne]
    exact this
theorem code_at {F : Snap} {ns : List Int} {os : List (Option Int)} {l : List (Int × Value)} {k : Nat} (hm : MR Vi F ns os l) (hd : ns.Nodup) (hk : k < ns.length) (ha : ∀ o ∈ os, o.isSome = true) : ∃ a, ((mfind (ns.getD k 0) l 0).map (·.2)).getD (.pointer none) = .pointer (some a) ∧ cellF F a = some (Vi ((os.map (·.getD 0)).getD k 0)) := by
 have hl := hm.len
 have h1 := look_at hd hl.1 hk
 rcases hm.find (ns.getD k 0) 0 with ⟨h2, _⟩ | ⟨o, i', v, h2, h3, h4⟩
 ·rw [h1] at h2; cases h2
 rw [h1] at h2
 simp only [Option.some.injEq] at h2
 have hk' : k < os.length := by omega
 have e : os.getD k none = os[k] := by rw [gD, gE hk']; rfl
 have hs := ha os[k] (List.getElem_mem hk')
 rw [e] at h2
 subst h2
 have e2 : (os.map (·.getD 0)).getD k 0 = (os[k]).getD 0 := by simp [gD, gE hk']
 rw [h3, e2]
 cases h5 : os[k] with
 |none => rw [h5] at hs; cases hs
 |some x =>
  rw [h5] at h4
  obtain ⟨a, h6, h7⟩ := h4
  exact ⟨a, by rw [← h6]; rfl, h7⟩
theorem code_c (w : World) {bt i j mv mc : Nat} {lv lc : List (Int × Value)} {t : T} (h : St W F cs w) (ht : TR F cs bt i j mv mc lv lc t) : Calls prog 100 #[pz bt] w fun e w' => e = .returned (Vi t.code) ∧ St W F cs w'  := by
 refine enter (args := [pz bt]) func100 rfl rfl rfl ?_
 obtain ⟨A, cap, hs0, hR⟩ := ht.s0
 have hpos := ht.pos
 have hsmall := ht.small
 refine Wi<|C0 1 rfl<|Wh<|C0 1 rfl<|C1 (cn func45) rfl rfl (state_c _ h ht) fun w1 h1 =>C0 1 rfl<|Wa<|Z0 rfl (fun c2 => ?_) (fun c2 => ?_)
 ·try simp only [DD] at c2
  refine Wi<|C0 1 rfl<|Wg<|ret1 rfl rfl ⟨?_, h1⟩
  have : t.state ≠ 3 := by simp_all
  simp [T.code, this]
 try simp only [DD] at c2
 refine U0 (H0 (N0 (L0 ?_)))
 have hst : t.state = 3 := by simp_all
 have hall := codes_all ht.rc.len.1 hst
 have hcl := ht.rc.len.1
 obtain ⟨ad, rfl, hrd⟩ := rd1 hR hpos
 have hN0 := h1.nilRes
 refine C0 1 rfl<|Wh<|C0 3 rfl<|I0 (K0 underlying33 rfl rfl (hN0.cell hs0)) rfl<|I0 (Y0 underlying33 rfl rfl) rfl<|C0 1 rfl<|Wj<|B3 (σ := Nat × Res × Value) (fun q_ => [(0, pz bt), (3, q_.2.2), (12, .slice (some ad) t.ns.length cap), (13, .int .i64 (t.ns.length : Int)), (14, .int .i64 (q_.1 : Int))]) (fun q_ w => q_.1 ≤ t.ns.length ∧ Row 3 Vi q_.2.1 q_.2.2 ((t.cs.map (·.getD 0)).take q_.1) ∧ St W F (q_.2.1 :: cs) w) (fun q_ => t.ns.length - q_.1) (⟨0, [], .slice none 0 0⟩) (⟨by omega, Row.nil _ _, hN0⟩) ?_
 rintro ⟨k, r, v⟩ w3 ⟨hk, hro, hL⟩
 try dsimp only at hk hro hL
 refine W2 [(0, pz bt), (3, v), (12, .slice (some ad) t.ns.length cap), (13, .int .i64 (t.ns.length : Int)), (14, .int .i64 (k : Int))] ?_
 obtain ⟨A1, cap1, rfl, hcap⟩ := hro.val
 have hlen : ((t.cs.map (·.getD 0)).take k).length = k := by rw [List.length_take, List.length_map]; omega
 have hac := fun h => code_at (k := k) ht.rc ht.nd h hall
 refine Wi<|C0 1 rfl<|Wb<|Z0 rfl (fun c4 => ?_) (fun c4 => ?_)
 ·try simp only [DD] at c4
  refine U0 (H0 (N0 (M1 (N0 ?_))))
  obtain ⟨ac, hac1, hac2⟩ := hac (by omega)
  refine L0<|I0 (W0 underlying33 inf3 rfl rfl (n := k) rfl (by omega)) rfl<|I0 (I1 (f := Vi) (0 : Int) hL hrd (n := k) (by omega) underlying3 rfl rfl) rfl<|C0 1 rfl<|Wf<|C0 4 rfl<|I0 (K0 underlying137 rfl rfl (hL.cell ht.s2)) rfl<|C0 1 rfl<|I0 (X1 (u := .pointer (some ac)) (N6 hL (j + 1) ht.ic underlying137 underlying3 inf167 rfl rfl) hac1) rfl<|C0 1 rfl<|I0 (K0 underlying3 rfl rfl (hL.cell hac2)) rfl<|X2 (vs := (([(t.cs.map (·.getD 0)).getD k 0] : List Int)).map Vi) hL rfl underlying33 inf3 rfl rfl rfl rfl rfl fun lit27 w5 h5=>I3 (ys := ([(t.cs.map (·.getD 0)).getD k 0] : List Int)) 1 h5 rfl rfl rfl rfl underlying33 underlying33 (.inr ⟨_, rfl⟩) inf3 rfl hro (Src.lit h5 0 rfl rfl rfl) rfl rfl (by first | omega | (simp []; done) | (simp []; omega)) (by first | omega | (simp []; done) | (simp []; omega)) ?_
  intro r6 v6 w7 hr6 h7
  simp only [lz, ls] at h7
  replace h7 := h7.drop 0
  simp only [ez, es'] at h7
  refine C0 1 rfl<|J0<|N1<|H0<|L0<|I0 (V0 rfl rfl (by omega)) rfl<|C0 1 rfl<|J0<|F1 (⟨k + 1, r6, v6⟩ : Nat × Res × Value) (by show t.ns.length - (k + 1) < t.ns.length - k; omega) ⟨rfl, rfl, rfl, rfl, rfl, trivial⟩ ⟨by show k + 1 ≤ _; omega, ?_, h7⟩
  have := hr6
  rwa [← take_nx (by simp; omega)] at this
 try simp only [DD] at c4
 refine U1<|B2<|WX.cut<|E2<|H0<|N0<|L0 ?_
 obtain rfl : k = t.ns.length := by omega
 obtain ⟨G, A2, cap2, hle, e2, hc2, hR2, hF⟩ := Row.gives hro hL
 injection e2 with e2
 obtain ⟨rfl, _, rfl⟩ := Value.slice.inj e2
 refine C0 1 rfl<|C1 (cn func140) rfl rfl (worst_c _ _ hF hR2 (by rw [hlen]; omega)) fun w8 h8 =>C0 1 rfl<|Wg<|ret1 rfl rfl ⟨?_, h8.weak hle⟩
 rw [List.take_of_length_le (by simp; omega)]
 simp [T.code, hst]
theorem missing_c (w : World) {bt i j mv mc : Nat} {lv lc : List (Int × Value)} {t : T} (h : St W F cs w) (ht : TR F cs bt i j mv mc lv lc t) : Calls prog 117 #[pz bt] w (Gives W F cs Vi t.missing)  := by
 refine enter (args := [pz bt]) func117 rfl rfl rfl ?_
 obtain ⟨A, cap, hs0, hR⟩ := ht.s0
 have hpos := ht.pos
 have hsmall := ht.small
 refine Wi<|C0 1 rfl<|Wb<|M1<|Wi<|C0 1 rfl<|I0 (L2 underlying97 rfl rfl) rfl<|C0 1 rfl<|Wa<|E1 rfl (rfl)<|Wi<|C0 1 rfl<|C1 (cn func45) rfl rfl (state_c _ h ht) fun w1 h1 =>C0 2 rfl<|Wa<|Z0 rfl (fun c2 => ?_) (fun c2 => ?_)
 ·try simp only [DD] at c2
  refine N0<|Q4 (fun w_ => St W _ _ w_) (fun k => Nat.beq k 8) mixed (by kernel_rfl) (h1.drew)<|fun hx =>K4 hx 3 rfl<|W3 12 hx (by rfl) rfl (by kernel_rfl) (fun w_ hC_ => K0 underlying33 rfl rfl (hC_.cell hs0)) rfl<|K4 hx 3 rfl<|W3 12 hx (by rfl) rfl (by kernel_rfl) (fun w_ hC_ => K0 underlying136 rfl rfl (hC_.cell ht.s1)) rfl<|Z4 hx rfl (by decide) (by kernel_rfl) fun w3 h3=>F5 (by rfl) rfl (by kernel_rfl)<|V1 (cn func89) rfl rfl (silent_bool _ i h3 ht.iv ht.rv hR ht.pos ht.nd (by omega)) ?_
  rintro _ w4 ⟨G5, A5, cap5, hle5, rfl, hc5, hrd5, h4⟩
  refine ⟨_, rfl,J0<|I4<|X3 hx (by rfl) (fun w_ => Runs.assign rfl) rfl<|B5 rfl (by kernel_rfl)<|H0 (O1 ?_)⟩
  have hst : t.state = 0 := by simp_all
  refine ret1 rfl rfl ?_
  have e : t.missing = miss t.ns t.vs := by simp [T.missing, hst]
  rw [e]
  exact ⟨_, _, _, hle5, rfl, hc5, hrd5, h4⟩
 try simp only [DD] at c2
 refine Wi<|C0 1 rfl<|C1 (cn func45) rfl rfl (state_c _ h1 ht) fun w6 h6 =>C0 2 rfl<|Wa<|Z0 rfl (fun c7 => ?_) (fun c7 => ?_)
 ·try simp only [DD] at c7
  refine N0<|Q4 (fun w_ => St W _ _ w_) (fun k => Nat.beq k 8) mixed (by kernel_rfl) (h6.drew)<|fun hx =>K4 hx 3 rfl<|W3 12 hx (by rfl) rfl (by kernel_rfl) (fun w_ hC_ => K0 underlying33 rfl rfl (hC_.cell hs0)) rfl<|K4 hx 3 rfl<|W3 12 hx (by rfl) rfl (by kernel_rfl) (fun w_ hC_ => K0 underlying137 rfl rfl (hC_.cell ht.s2)) rfl<|Z4 hx rfl (by decide) (by kernel_rfl) fun w8 h8=>F5 (by rfl) rfl (by kernel_rfl)<|V1 (cn func90) rfl rfl (silent_int _ j h8 ht.ic ht.rc hR ht.pos ht.nd (by omega)) ?_
  rintro _ w9 ⟨G10, A10, cap10, hle10, rfl, hc10, hrd10, h9⟩
  refine ⟨_, rfl,J0<|I4<|X3 hx (by rfl) (fun w_ => Runs.assign rfl) rfl<|B5 rfl (by kernel_rfl)<|H0 (O1 ?_)⟩
  have hst : t.state = 1 := by simp_all
  refine ret1 rfl rfl ?_
  have e : t.missing = miss t.ns t.cs := by simp [T.missing, hst]
  rw [e]
  exact ⟨_, _, _, hle10, rfl, hc10, hrd10, h9⟩
 try simp only [DD] at c7
 refine U0<|N1<|H0<|Wi<|C0 1 rfl<|J0 (H0 (O1 ?_))
 have hst : t.state ≠ 0 := by simp_all
 have hst1 : t.state ≠ 1 := by simp_all
 refine ret1 rfl rfl ?_
 have e : t.missing = [] := by simp [T.missing, hst, hst1]
 rw [e]
 exact ⟨_, _, _, Le.refl _, rfl, Nat.le_refl _, .inl rfl, h6⟩
def oks (ns : List Int) : Prop := (∀ k, k < ns.length → 0 ≤ ns.getD k 0 ∧ ns.getD k 0 < 16) ∧ ∀ k, k + 1 < ns.length → ns.getD k 0 < ns.getD (k + 1) 0
theorem oks_lt {ns : List Int} (h : oks ns) : ∀ {i j : Nat}, i < j → j < ns.length → ns.getD i 0 < ns.getD j 0 := by
 intro i j hij hj
 induction j with
 |zero => omega
 |succ j ih =>
  have h1 := h.2 j hj
  by_cases e : i = j
  ·rw [e]; exact h1
  have := ih (by omega) (by omega)
  omega
theorem oks_nodup {ns : List Int} (h : oks ns) : ns.Nodup := by
 rw [List.Nodup, List.pairwise_iff_getElem]
 intro i j hi hj hij
 have := oks_lt h hij hj
 rw [gD, gD, gE hi, gE hj] at this
 simp only [Option.getD_some] at this
 omega
theorem oks_len {ns : List Int} (h : oks ns) : ns.length ≤ 16 := by
 have : ∀ k, k < ns.length → (k : Int) ≤ ns.getD k 0 := by
  intro k
  induction k with
  |zero => intro hk; exact (h.1 0 hk).1
  |succ k ih => intro hk; have := h.2 k hk; have := ih (by omega); omega
 by_cases hl : ns.length ≤ 16
 ·exact hl
 have h1 := this 16 (by omega); have h2 := (h.1 16 (by omega)).2; omega
def last_ (ns : List Int) (k : Nat) : Int := if k = 0 then -1 else ns.getD (k - 1) 0
theorem new_c (w : World) {A : Option Addr} {cap : Nat} {ns : List Int} (h : St W F cs w) (hR : RdS (Kd.one Vi) F A ns) (hn : ns.length ≤ 100000) (hk : oks ns) (h0 : 0 < ns.length) : Calls prog 97 #[.slice A ns.length cap] w fun e w' => ∃ G bt mv mc lv lc, e = .returned (pz bt) ∧ Le F G ∧ St W G ([(mv, mobj lv)] :: [(mc, mobj lc)] :: cs) w' ∧ TR G ([(mv, mobj lv)] :: [(mc, mobj lc)] :: cs) bt 0 1 mv mc lv lc ⟨ns, ns.map fun _ => none, ns.map fun _ => none⟩  := by
 refine enter (args := [.slice A ns.length cap]) func97 rfl rfl rfl ?_
 obtain ⟨ad, rfl, hrd⟩ := rd1 hR h0
 refine Wi<|C0 1 rfl<|We<|C0 1 rfl<|Wh<|C0 1 rfl<|I0 (Y0 underlying33 rfl rfl) rfl<|C0 1 rfl<|Wj<|B3 (σ := Nat) (fun q_ => [(0, .slice (some ad) ns.length cap), (3, Vi (last_ ns q_)), (6, .slice (some ad) ns.length cap), (7, .int .i64 (ns.length : Int)), (8, .int .i64 (q_ : Int))]) (fun q_ w => q_ ≤ ns.length ∧ St W F cs w) (fun q_ => ns.length - q_) (0) (⟨by omega, h⟩) ?_
 rintro k w1 ⟨hk1, hL⟩
 try dsimp only at hk1 hL
 refine W2 [(0, .slice (some ad) ns.length cap), (3, Vi (last_ ns k)), (6, .slice (some ad) ns.length cap), (7, .int .i64 (ns.length : Int)), (8, .int .i64 (k : Int))] ?_
 have hk3 : k < ns.length → ¬ ns.getD k 0 ≤ last_ ns k := by
  intro hk2
  unfold last_
  split
  ·have := (hk.1 k hk2).1; omega
  have := hk.2 (k - 1) (by omega); rw [show k - 1 + 1 = k by omega] at this; omega
 refine Wi<|C0 1 rfl<|Wb<|Z0 rfl (fun c2 => ?_) (fun c2 => ?_)
 ·try simp only [DD] at c2
  refine U0<|H0<|N0<|M1<|Wi<|I0 (W0 underlying33 inf3 rfl rfl (n := k) rfl (by omega)) rfl<|I0 (I1 (f := Vi) (0 : Int) hL hrd (n := k) (by omega) underlying3 rfl rfl) rfl<|C0 1 rfl<|Wh<|C0 2 rfl<|I0 (Bf (Z1 rfl rfl) (by rw [decide_eq_false_iff_not]; exact hk3 (by omega))) rfl<|C0 2 rfl<|Q0 rfl<|I0 (Bf (T1 rfl rfl) (by rw [decide_eq_false_iff_not]; have := (hk.1 k (by omega)).2; omega)) rfl<|C0 1 rfl<|Wa<|E1 rfl (rfl)<|U0<|H0<|L0<|C0 2 rfl<|J0<|N1<|H0<|L0<|I0 (V0 rfl rfl (by omega)) rfl<|C0 1 rfl<|J0<|F1 (k + 1) (by omega) ⟨rfl, rfl, rfl, rfl, rfl, trivial⟩ ⟨by omega, hL⟩
 try simp only [DD] at c2
 refine U1<|B2<|WX.cut<|E2<|H0<|N0<|Wi<|C0 1 rfl<|I0 (Y0 underlying33 rfl rfl) rfl<|I0 (Bf (L1 rfl rfl) (dN (by omega))) rfl<|Wa<|E1 rfl (rfl)<|Wk<|C0 1 rfl<|V1 (cn func44) rfl rfl (clone_c _ hL hR h0 hn) ?_
 rintro _ w3 ⟨r1, v1, rfl, hr1, h3⟩
 refine ⟨_, rfl, ?_⟩
 obtain ⟨G1, A1, cap1, hG, e1, hc1, hR1, hS1⟩ := Row.gives hr1 h3
 injection e1 with e1
 subst e1
 refine C0 1 rfl<|We<|C0 2 rfl<|V1 (cn func137) rfl rfl (empty_bool _ hS1 hR1 h0 (oks_nodup hk) hn) ?_
 rintro _ w4 ⟨mv, lv, rfl, hmv, h4⟩
 refine ⟨_, rfl,C0 1 rfl<|V1 (cn func138) rfl rfl (empty_int _ h4 hR1 h0 (oks_nodup hk) hn) ?_⟩
 rintro _ w5 ⟨mc, lc, rfl, hmc, h5⟩
 refine ⟨_, rfl, ?_⟩
 have hle2 := Le.refl G1
 replace h5 := h5.perm (List.Perm.swap _ _ _)
 refine I0 (R2 (cells := #[.slice A1 ns.length cap1, .map (some mv), .map (some mc)]) rfl (by kernel_rfl)) rfl<|J3 rfl h5 rfl fun b32 w6 h6=>C0 1 rfl<|J0 (H0 (O1 ?_))
 obtain ⟨G2, g1, g2, g3⟩ := h6.freeze (i := 0) rfl
 have hbx := g2 _ (List.mem_cons_self)
 refine ret1 rfl rfl ⟨G2, b32, mv, mc, lv, lc, rfl, Le.trans hG g1, g3,⟨⟨A1, cap1, ?_, hR1.mono g1⟩, ?_, ?_, rfl, rfl, hmv.mono (Le.trans hle2 g1), hmc.mono g1, h0, oks_len hk, oks_nodup hk, by decide⟩⟩
 ·unfold cellF; simp only [hbx]; rfl
 ·unfold cellF; simp only [hbx]; rfl
 unfold cellF; simp only [hbx]; rfl
theorem state_nil (w : World) (h : St W F cs w) : Calls prog 45 #[.pointer none] w fun e w' => e = .returned (Vi 0) ∧ St W F cs w'  := by
 refine enter (args := [.pointer none]) func45 rfl rfl rfl<|Wi<|C0 1 rfl<|Wh<|C0 1 rfl<|I0 (L2 underlying97 rfl rfl) rfl<|Wa<|J1 rfl (rfl)<|Wi<|C0 1 rfl<|Wg<|ret1 rfl rfl ⟨rfl, h⟩
theorem inf33 : Inf prog 33 (.slice none 0 0) 1 24 := by unfold Inf; kernel_rfl
def okp (ns : List Int) (m : Nat) : Prop := (∀ k, k < m → 0 ≤ ns.getD k 0 ∧ ns.getD k 0 < 16) ∧ ∀ k, k + 1 < m → ns.getD k 0 < ns.getD (k + 1) 0
theorem okp_succ {ns : List Int} {k : Nat} (h : okp ns k) (h1 : 0 ≤ ns.getD k 0 ∧ ns.getD k 0 ≤ 15) (h2 : 0 < k → ns.getD (k - 1) 0 < ns.getD k 0) : okp ns (k + 1) := by
 refine ⟨fun j hj => ?_, fun j hj => ?_⟩
 ·by_cases e : j = k
  ·subst e; omega
  exact h.1 j (by omega)
 by_cases e : j + 1 = k
 ·have := h2 (by omega)
  rw [show k - 1 = j by omega] at this
  rw [e]; exact this
 exact h.2 j (by omega)
theorem rnew_c (w : World) {A : Option Addr} {cap : Nat} {ns : List Int} (h : St W F cs w) (hR : RdS (Kd.one Vi) F A ns) (h0 : 0 < ns.length) (hn : ns.length ≤ 16) : Calls prog 63 #[.slice A ns.length cap] w fun e w' => (¬ oks ns ∧ e = .returned (.pointer none) ∧ St W F cs w') ∨ (oks ns ∧ ∃ b rN vN rV vV rC vC, e = .returned (pz b) ∧ Row 3 Vi rN vN ns ∧ Row 3 Vi rV vV (ns.map fun _ => 0) ∧ Row 3 Vi rC vC (ns.map fun _ => -1) ∧ St W F ([(b, .cells #[vN, vV, vC] 155 (0, 0))] :: rN :: rV :: rC :: cs) w')  := by
 refine enter (args := [.slice A ns.length cap]) func63 rfl rfl rfl ?_
 obtain ⟨ad, rfl, hrd⟩ := rd1 hR h0
 refine Wi<|C0 1 rfl<|Wh<|C0 1 rfl<|I0 (Y0 underlying33 rfl rfl) rfl<|I0 (Bf (Q1 rfl rfl) (dN (by omega))) rfl<|C0 2 rfl<|Q0 rfl<|I0 (Y0 underlying33 rfl rfl) rfl<|Q0 rfl<|I0 (Bf (Y1 rfl rfl) (dN (by omega))) rfl<|C0 1 rfl<|Wa<|E1 rfl (rfl)<|Wk<|I0 (R2 (vs := []) (cells := #[.slice none 0 0, .slice none 0 0, .slice none 0 0]) rfl (by kernel_rfl)) rfl<|J3 rfl h rfl fun b14 w1 h1=>C0 1 rfl<|J0 (H0 (N0 (N0 ?_)))
 have hS := (((h1.nilRes).nilRes).nilRes)
 replace hS : St W F ([(b14, .cells #[.slice none 0 0, .slice none 0 0, .slice none 0 0] 155 (0, 0))] :: [] :: [] :: [] :: cs) w1 := by
  refine hS.perm<|(List.perm_append_comm (l₁ := [_]) (l₂ := [[], [], []])).append_right cs
 refine L0<|C0 1 rfl<|Wj<|B3 (σ := Nat × Res × Value × Res × Value × Res × Value) (fun q_ => [(0, .slice (some ad) ns.length cap), (3, pz b14), (4, .int .i64 (q_.1 : Int))]) (fun q_ w => q_.1 ≤ ns.length ∧ okp ns q_.1 ∧ Row 3 Vi q_.2.1 q_.2.2.1 (ns.take q_.1) ∧ Row 3 Vi q_.2.2.2.1 q_.2.2.2.2.1 ((ns.take q_.1).map fun _ => 0) ∧ Row 3 Vi q_.2.2.2.2.2.1 q_.2.2.2.2.2.2 ((ns.take q_.1).map fun _ => -1) ∧ St W F ([(b14, .cells #[q_.2.2.1, q_.2.2.2.2.1, q_.2.2.2.2.2.2] 155 (0, 0))] :: q_.2.1 :: q_.2.2.2.1 :: q_.2.2.2.2.2.1 :: cs) w) (fun q_ => ns.length - q_.1) (⟨0, [], .slice none 0 0, [], .slice none 0 0, [], .slice none 0 0⟩) (⟨by omega, ⟨fun j hj => absurd hj (Nat.not_lt_zero _), fun j hj => absurd hj (Nat.not_lt_zero _)⟩, Row.nil _ _, Row.nil _ _, Row.nil _ _, hS⟩) ?_
 rintro ⟨k, rN, vN, rV, vV, rC, vC⟩ w2 ⟨hk, hok, hrN, hrV, hrC, hL⟩
 try dsimp only at hk hok hrN hrV hrC hL
 refine W2 [(0, .slice (some ad) ns.length cap), (3, pz b14), (4, .int .i64 (k : Int))] ?_
 obtain ⟨AN, cN, rfl, hcN⟩ := hrN.val
 obtain ⟨AV, cV, rfl, hcV⟩ := hrV.val
 obtain ⟨AC, cC, rfl, hcC⟩ := hrC.val
 have hlk : (ns.take k).length = k := by rw [List.length_take]; omega
 refine N0<|Wi<|C0 2 rfl<|I0 (Y0 underlying33 rfl rfl) rfl<|C0 1 rfl<|Wa<|Z0 rfl (fun c3 => ?_) (fun c3 => ?_)
 ·try simp only [DD] at c3
  refine U0 (H0 (N0 (M1 (N0 (N0 ?_)))))
  have hcase : ns.getD k 0 < 0 ∨ (0 ≤ ns.getD k 0 ∧ 15 < ns.getD k 0) ∨ (0 ≤ ns.getD k 0 ∧ ns.getD k 0 ≤ 15 ∧ k = 0) ∨ (0 ≤ ns.getD k 0 ∧ ns.getD k 0 ≤ 15 ∧ 0 < k ∧ ns.getD k 0 ≤ ns.getD (k - 1) 0) ∨ (0 ≤ ns.getD k 0 ∧ ns.getD k 0 ≤ 15 ∧ 0 < k ∧ ns.getD (k - 1) 0 < ns.getD k 0) := by omega
  rcases hcase with hA | hB | hC | hD | hE
  ·refine T2 (C := fun w_ => St W _ _ w_) mixed (by kernel_rfl) (hL.drew)<|M2 2 rfl<|X0 (fun w_ hC_ => W0 underlying33 inf3 rfl rfl (n := k) rfl (by omega)) rfl<|X0 (fun w_ hC_ => I1 (f := Vi) (0 : Int) hC_ hrd (n := k) (by omega) underlying3 rfl rfl) rfl<|X0 (fun w_ hC_ => Bt (Q1 rfl rfl) (dA (by omega))) rfl<|M2 11 rfl<|Q2 rfl rfl rfl<|Q2 rfl rfl rfl<|Q2 rfl rfl rfl<|Q2 rfl rfl rfl<|Q2 rfl rfl rfl<|Q2 rfl rfl rfl<|Q2 rfl rfl rfl<|Q2 rfl rfl rfl<|Q2 rfl rfl rfl<|Q2 rfl rfl rfl<|M2 2 rfl<|K3 fun w4 h4=>H0<|J1 rfl (rfl)<|Wi<|C0 1 rfl<|Wg<|ret1 rfl rfl (.inl ⟨fun hh => by have := (hh.1 k (by omega)).1; omega, rfl, ((((h4.drop 0).drop 0).drop 0).drop 0)⟩)
  ·refine T2 (C := fun w_ => St W _ _ w_) mixed (by kernel_rfl) (hL.drew)<|M2 2 rfl<|X0 (fun w_ hC_ => W0 underlying33 inf3 rfl rfl (n := k) rfl (by omega)) rfl<|X0 (fun w_ hC_ => I1 (f := Vi) (0 : Int) hC_ hrd (n := k) (by omega) underlying3 rfl rfl) rfl<|X0 (fun w_ hC_ => Bf (Q1 rfl rfl) (dN (by omega))) rfl<|M2 3 rfl<|Y2 rfl<|X0 (fun w_ hC_ => W0 underlying33 inf3 rfl rfl (n := k) rfl (by omega)) rfl<|Y2 rfl<|X0 (fun w_ hC_ => I1 (f := Vi) (0 : Int) hC_ hrd (n := k) (by omega) underlying3 rfl rfl) rfl<|Y2 rfl<|X0 (fun w_ hC_ => Bt (Y1 rfl rfl) (dA (by omega))) rfl<|M2 5 rfl<|Q2 rfl rfl rfl<|Q2 rfl rfl rfl<|Q2 rfl rfl rfl<|Q2 rfl rfl rfl<|Q2 rfl rfl rfl<|Q2 rfl rfl rfl<|Q2 rfl rfl rfl<|Q2 rfl rfl rfl<|Q2 rfl rfl rfl<|Q2 rfl rfl rfl<|M2 2 rfl<|K3 fun w5 h5=>H0<|J1 rfl (rfl)<|Wi<|C0 1 rfl<|Wg<|ret1 rfl rfl (.inl ⟨fun hh => by have := (hh.1 k (by omega)).2; omega, rfl, ((((h5.drop 0).drop 0).drop 0).drop 0)⟩)
  ·refine T2 (C := fun w_ => St W _ _ w_) mixed (by kernel_rfl) (hL.drew)<|M2 2 rfl<|X0 (fun w_ hC_ => W0 underlying33 inf3 rfl rfl (n := k) rfl (by omega)) rfl<|X0 (fun w_ hC_ => I1 (f := Vi) (0 : Int) hC_ hrd (n := k) (by omega) underlying3 rfl rfl) rfl<|X0 (fun w_ hC_ => Bf (Q1 rfl rfl) (dN (by omega))) rfl<|M2 3 rfl<|Y2 rfl<|X0 (fun w_ hC_ => W0 underlying33 inf3 rfl rfl (n := k) rfl (by omega)) rfl<|Y2 rfl<|X0 (fun w_ hC_ => I1 (f := Vi) (0 : Int) hC_ hrd (n := k) (by omega) underlying3 rfl rfl) rfl<|Y2 rfl<|X0 (fun w_ hC_ => Bf (Y1 rfl rfl) (dN (by omega))) rfl<|M2 3 rfl<|Y2 rfl<|X0 (fun w_ hC_ => Bf (Y1 rfl rfl) (dN (by omega))) rfl<|M2 13 rfl<|K3 fun w6 h6=>H0<|E1 rfl (rfl)<|U0<|H0<|N0<|T5 h6 (fun s_ => ([10, 13] : List Nat).any (Nat.beq s_)) mixed (by kernel_rfl)<|fun hx =>fun w7 h7=>L3 hx [0, 1, 2, 3, 5, 6] rfl<|Z2 hx 7 (by rfl) (fun w_ => W0 underlying33 inf3 rfl rfl (n := k) rfl (by omega)) rfl<|J4 hx 12 [4] [4] [0] rfl<|V3 12 hx 8 (by rfl) (fun w_ hE_ => I1 (f := Vi) (0 : Int) hE_ hrd (n := k) (by omega) underlying3 rfl rfl) rfl<|F3 9 h7 (by rfl)<|X2 (vs := (([ns.getD k 0] : List Int)).map Vi) h7 rfl underlying33 inf3 rfl rfl rfl rfl rfl fun lit58 w8 h8=>J0<|H2<|F3 10 (h8.drop 0) (by rfl)<|I3 (ys := ([ns.getD k 0] : List Int)) 2 h8 rfl rfl rfl rfl underlying33 underlying33 (.inr ⟨_, rfl⟩) inf3 rfl hrN (Src.lit h8 0 rfl rfl rfl) rfl rfl (by first | omega | (simp []; done) | (simp []; omega)) (by first | omega | (simp []; done) | (simp []; omega)) ?_
   intro r9 v9 w10 hr9 h10
   simp only [lz, ls] at h10
   replace h10 := h10.drop 0
   simp only [ez, es'] at h10
   refine J0 (H2 ?_)
   obtain ⟨A11, c11, rfl, hc11⟩ := (hr9).val
   refine L3 hx [11, 12] rfl<|WE.op (.inl ⟨10, rfl, by kernel_rfl⟩) (i := 13) (by rfl) (by kernel_rfl)<|O3 h10 0 rfl rfl rfl inf33 rfl rfl ?_
   intro  w12 h12
   try simp only [ZZ] at h12
   refine J0<|H2<|H3 (.inl ⟨10, rfl, by kernel_rfl⟩) (by kernel_rfl)<|H0<|Wi<|H1 h12 [0] 5 rfl<|X2 (vs := (([0] : List Int)).map Vi) h12 rfl underlying33 inf3 rfl rfl rfl rfl rfl fun lit67 w13 h13=>I3 (ys := ([0] : List Int)) 3 h13 rfl rfl rfl rfl underlying33 underlying33 (.inr ⟨_, rfl⟩) inf3 rfl hrV (Src.lit h13 0 rfl rfl rfl) rfl rfl (by first | omega | (simp []; done) | (simp []; omega)) (by first | omega | (simp []; done) | (simp []; omega)) ?_
   intro r14 v14 w15 hr14 h15
   simp only [lz, ls] at h15
   replace h15 := h15.drop 0
   simp only [ez, es'] at h15
   obtain ⟨A16, c16, rfl, hc16⟩ := (hr14).val
   refine C0 2 rfl<|O3 h15 0 rfl rfl rfl inf33 rfl rfl ?_
   intro  w17 h17
   try simp only [ZZ] at h17
   refine Wf<|H1 h17 [0] 5 rfl<|X2 (vs := (([-1] : List Int)).map Vi) h17 rfl underlying33 inf3 rfl rfl rfl rfl rfl fun lit76 w18 h18=>I3 (ys := ([-1] : List Int)) 4 h18 rfl rfl rfl rfl underlying33 underlying33 (.inr ⟨_, rfl⟩) inf3 rfl hrC (Src.lit h18 0 rfl rfl rfl) rfl rfl (by first | omega | (simp []; done) | (simp []; omega)) (by first | omega | (simp []; done) | (simp []; omega)) ?_
   intro r19 v19 w20 hr19 h20
   simp only [lz, ls] at h20
   replace h20 := h20.drop 0
   simp only [ez, es'] at h20
   obtain ⟨A21, c21, rfl, hc21⟩ := (hr19).val
   refine C0 2 rfl<|O3 h20 0 rfl rfl rfl inf33 rfl rfl ?_
   intro  w22 h22
   try simp only [ZZ] at h22
   refine J0<|N1<|H0<|L0<|C0 1 rfl<|I0 (V0 rfl rfl (by omega)) rfl<|C0 1 rfl<|J0<|F1 (⟨k + 1, r9, _, r14, _, r19, _⟩ : Nat × Res × Value × Res × Value × Res × Value) (by show ns.length - (k + 1) < ns.length - k; omega) ⟨rfl, rfl, rfl, trivial⟩ ⟨by show k + 1 ≤ _; omega, okp_succ hok (by omega) (by omega), ?_, ?_, ?_, h22⟩
   ·have := hr9
    show Row _ _ _ _ (ns.take (k + 1))
    rw [take_nx (by omega)]
    exact this
   ·have := hr14
    show Row _ _ _ _ ((ns.take (k + 1)).map fun _ => 0)
    rw [take_nx (by omega), List.map_append]
    exact this
   have := hr19
   show Row _ _ _ _ ((ns.take (k + 1)).map fun _ => -1)
   rw [take_nx (by omega), List.map_append]
   exact this
  ·refine T2 (C := fun w_ => St W _ _ w_) mixed (by kernel_rfl) (hL.drew)<|M2 2 rfl<|X0 (fun w_ hC_ => W0 underlying33 inf3 rfl rfl (n := k) rfl (by omega)) rfl<|X0 (fun w_ hC_ => I1 (f := Vi) (0 : Int) hC_ hrd (n := k) (by omega) underlying3 rfl rfl) rfl<|X0 (fun w_ hC_ => Bf (Q1 rfl rfl) (dN (by omega))) rfl<|M2 3 rfl<|Y2 rfl<|X0 (fun w_ hC_ => W0 underlying33 inf3 rfl rfl (n := k) rfl (by omega)) rfl<|Y2 rfl<|X0 (fun w_ hC_ => I1 (f := Vi) (0 : Int) hC_ hrd (n := k) (by omega) underlying3 rfl rfl) rfl<|Y2 rfl<|X0 (fun w_ hC_ => Bf (Y1 rfl rfl) (dN (by omega))) rfl<|M2 3 rfl<|Y2 rfl<|X0 (fun w_ hC_ => Bt (Y1 rfl rfl) (dA (by omega))) rfl<|M2 3 rfl<|Y2 rfl<|X0 (fun w_ hC_ => W0 underlying33 inf3 rfl rfl (n := k) rfl (by omega)) rfl<|Y2 rfl<|X0 (fun w_ hC_ => I1 (f := Vi) (0 : Int) hC_ hrd (n := k) (by omega) underlying3 rfl rfl) rfl<|M2 2 rfl<|Y2 rfl<|X0 (fun w_ hC_ => N3 rfl rfl (by omega)) rfl<|Y2 rfl<|X0 (fun w_ hC_ => W0 underlying33 inf3 rfl rfl (n := k - 1) (by omega) (by omega)) rfl<|Y2 rfl<|X0 (fun w_ hC_ => I1 (f := Vi) (0 : Int) hC_ hrd (n := k - 1) (by omega) underlying3 rfl rfl) rfl<|Y2 rfl<|X0 (fun w_ hC_ => Bt (Z1 rfl rfl) (dA (by omega))) rfl<|M2 2 rfl<|K3 fun w23 h23=>H0<|J1 rfl (rfl)<|Wi<|C0 1 rfl<|Wg<|ret1 rfl rfl (.inl ⟨fun hh => by have := hh.2 (k - 1) (by omega); rw [show k - 1 + 1 = k by omega] at this; omega, rfl, ((((h23.drop 0).drop 0).drop 0).drop 0)⟩)
  refine T2 (C := fun w_ => St W _ _ w_) mixed (by kernel_rfl) (hL.drew)<|M2 2 rfl<|X0 (fun w_ hC_ => W0 underlying33 inf3 rfl rfl (n := k) rfl (by omega)) rfl<|X0 (fun w_ hC_ => I1 (f := Vi) (0 : Int) hC_ hrd (n := k) (by omega) underlying3 rfl rfl) rfl<|X0 (fun w_ hC_ => Bf (Q1 rfl rfl) (dN (by omega))) rfl<|M2 3 rfl<|Y2 rfl<|X0 (fun w_ hC_ => W0 underlying33 inf3 rfl rfl (n := k) rfl (by omega)) rfl<|Y2 rfl<|X0 (fun w_ hC_ => I1 (f := Vi) (0 : Int) hC_ hrd (n := k) (by omega) underlying3 rfl rfl) rfl<|Y2 rfl<|X0 (fun w_ hC_ => Bf (Y1 rfl rfl) (dN (by omega))) rfl<|M2 3 rfl<|Y2 rfl<|X0 (fun w_ hC_ => Bt (Y1 rfl rfl) (dA (by omega))) rfl<|M2 3 rfl<|Y2 rfl<|X0 (fun w_ hC_ => W0 underlying33 inf3 rfl rfl (n := k) rfl (by omega)) rfl<|Y2 rfl<|X0 (fun w_ hC_ => I1 (f := Vi) (0 : Int) hC_ hrd (n := k) (by omega) underlying3 rfl rfl) rfl<|M2 2 rfl<|Y2 rfl<|X0 (fun w_ hC_ => N3 rfl rfl (by omega)) rfl<|Y2 rfl<|X0 (fun w_ hC_ => W0 underlying33 inf3 rfl rfl (n := k - 1) (by omega) (by omega)) rfl<|Y2 rfl<|X0 (fun w_ hC_ => I1 (f := Vi) (0 : Int) hC_ hrd (n := k - 1) (by omega) underlying3 rfl rfl) rfl<|Y2 rfl<|X0 (fun w_ hC_ => Bf (Z1 rfl rfl) (dN (by omega))) rfl<|M2 2 rfl<|K3 fun w24 h24=>H0<|E1 rfl (rfl)<|U0<|H0<|N0<|T5 h24 (fun s_ => ([10, 13] : List Nat).any (Nat.beq s_)) mixed (by kernel_rfl)<|fun hx =>fun w25 h25=>L3 hx [0, 1, 2, 3, 5, 6] rfl<|Z2 hx 7 (by rfl) (fun w_ => W0 underlying33 inf3 rfl rfl (n := k) rfl (by omega)) rfl<|J4 hx 12 [4] [4] [0] rfl<|V3 12 hx 8 (by rfl) (fun w_ hE_ => I1 (f := Vi) (0 : Int) hE_ hrd (n := k) (by omega) underlying3 rfl rfl) rfl<|F3 9 h25 (by rfl)<|X2 (vs := (([ns.getD k 0] : List Int)).map Vi) h25 rfl underlying33 inf3 rfl rfl rfl rfl rfl fun lit58 w26 h26=>J0<|H2<|F3 10 (h26.drop 0) (by rfl)<|I3 (ys := ([ns.getD k 0] : List Int)) 2 h26 rfl rfl rfl rfl underlying33 underlying33 (.inr ⟨_, rfl⟩) inf3 rfl hrN (Src.lit h26 0 rfl rfl rfl) rfl rfl (by first | omega | (simp []; done) | (simp []; omega)) (by first | omega | (simp []; done) | (simp []; omega)) ?_
  intro r27 v27 w28 hr27 h28
  simp only [lz, ls] at h28
  replace h28 := h28.drop 0
  simp only [ez, es'] at h28
  refine J0 (H2 ?_)
  obtain ⟨A29, c29, rfl, hc29⟩ := (hr27).val
  refine L3 hx [11, 12] rfl<|WE.op (.inl ⟨10, rfl, by kernel_rfl⟩) (i := 13) (by rfl) (by kernel_rfl)<|O3 h28 0 rfl rfl rfl inf33 rfl rfl ?_
  intro  w30 h30
  try simp only [ZZ] at h30
  refine J0<|H2<|H3 (.inl ⟨10, rfl, by kernel_rfl⟩) (by kernel_rfl)<|H0<|Wi<|H1 h30 [0] 5 rfl<|X2 (vs := (([0] : List Int)).map Vi) h30 rfl underlying33 inf3 rfl rfl rfl rfl rfl fun lit67 w31 h31=>I3 (ys := ([0] : List Int)) 3 h31 rfl rfl rfl rfl underlying33 underlying33 (.inr ⟨_, rfl⟩) inf3 rfl hrV (Src.lit h31 0 rfl rfl rfl) rfl rfl (by first | omega | (simp []; done) | (simp []; omega)) (by first | omega | (simp []; done) | (simp []; omega)) ?_
  intro r32 v32 w33 hr32 h33
  simp only [lz, ls] at h33
  replace h33 := h33.drop 0
  simp only [ez, es'] at h33
  obtain ⟨A34, c34, rfl, hc34⟩ := (hr32).val
  refine C0 2 rfl<|O3 h33 0 rfl rfl rfl inf33 rfl rfl ?_
  intro  w35 h35
  try simp only [ZZ] at h35
  refine Wf<|H1 h35 [0] 5 rfl<|X2 (vs := (([-1] : List Int)).map Vi) h35 rfl underlying33 inf3 rfl rfl rfl rfl rfl fun lit76 w36 h36=>I3 (ys := ([-1] : List Int)) 4 h36 rfl rfl rfl rfl underlying33 underlying33 (.inr ⟨_, rfl⟩) inf3 rfl hrC (Src.lit h36 0 rfl rfl rfl) rfl rfl (by first | omega | (simp []; done) | (simp []; omega)) (by first | omega | (simp []; done) | (simp []; omega)) ?_
  intro r37 v37 w38 hr37 h38
  simp only [lz, ls] at h38
  replace h38 := h38.drop 0
  simp only [ez, es'] at h38
  obtain ⟨A39, c39, rfl, hc39⟩ := (hr37).val
  refine C0 2 rfl<|O3 h38 0 rfl rfl rfl inf33 rfl rfl ?_
  intro  w40 h40
  try simp only [ZZ] at h40
  refine J0<|N1<|H0<|L0<|C0 1 rfl<|I0 (V0 rfl rfl (by omega)) rfl<|C0 1 rfl<|J0<|F1 (⟨k + 1, r27, _, r32, _, r37, _⟩ : Nat × Res × Value × Res × Value × Res × Value) (by show ns.length - (k + 1) < ns.length - k; omega) ⟨rfl, rfl, rfl, trivial⟩ ⟨by show k + 1 ≤ _; omega, okp_succ hok (by omega) (by omega), ?_, ?_, ?_, h40⟩
  ·have := hr27
   show Row _ _ _ _ (ns.take (k + 1))
   rw [take_nx (by omega)]
   exact this
  ·have := hr32
   show Row _ _ _ _ ((ns.take (k + 1)).map fun _ => 0)
   rw [take_nx (by omega), List.map_append]
   exact this
  have := hr37
  show Row _ _ _ _ ((ns.take (k + 1)).map fun _ => -1)
  rw [take_nx (by omega), List.map_append]
  exact this
 try simp only [DD] at c3
 refine U1<|B2<|WX.cut<|E2<|H0<|Wi<|C0 2 rfl<|J0 (H0 (O1 ?_))
 obtain rfl : k = ns.length := by omega
 rw [List.take_of_length_le (Nat.le_refl _)] at hrN hrV hrC hL
 exact ret1 rfl rfl (.inr ⟨hok, _, _, _, _, _, _, _, rfl, hrN, hrV, hrC, hL⟩)
def eV : Option Bool → Int
 |none => 0
 |some true => 1
 |some false => 2
def eC (o : Option Int) : Int := o.getD (-1)
theorem eV_inj {a b : Option Bool} (h : eV a = eV b) : a = b := by
 rcases a with _ | _ | _ <;> rcases b with _ | _ | _ <;> first | rfl | (revert h; decide)
structure RZ (F : Snap) (b : Nat) (t : T) : Prop where
 s0 : ∃ A cap, cellF F ⟨b, 0, none⟩ = some (.slice A t.ns.length cap) ∧ RdS (Kd.one Vi) F A t.ns
 s1 : ∃ A cap, cellF F ⟨b, 1, none⟩ = some (.slice A (t.vs.map eV).length cap) ∧ RdS (Kd.one Vi) F A (t.vs.map eV)
 s2 : ∃ A cap, cellF F ⟨b, 2, none⟩ = some (.slice A (t.cs.map eC).length cap) ∧ RdS (Kd.one Vi) F A (t.cs.map eC)
 lv : t.vs.length = t.ns.length
 lc : t.cs.length = t.ns.length
 pos : 0 < t.ns.length
 small : t.ns.length ≤ 16
 nd : t.ns.Nodup
 ok : ∀ c, some c ∈ t.cs → 0 ≤ c
structure RR (F : Snap) (cs : List Res) (b i j bv bc : Nat) (zv zc : List Value) (fv fc : Nat × Nat) (t : T) : Prop where
 s0 : ∃ A cap, cellF F ⟨b, 0, none⟩ = some (.slice A t.ns.length cap) ∧ RdS (Kd.one Vi) F A t.ns
 s1 : cellF F ⟨b, 1, none⟩ = some (.slice (some ⟨bv, 0, none⟩) (t.vs.map eV).length ((t.vs.map eV).length + zv.length))
 s2 : cellF F ⟨b, 2, none⟩ = some (.slice (some ⟨bc, 0, none⟩) (t.cs.map eC).length ((t.cs.map eC).length + zc.length))
 iv : cs[i]? = some [(bv, .cells ((t.vs.map eV).map Vi ++ zv).toArray 3 fv)]
 ic : cs[j]? = some [(bc, .cells ((t.cs.map eC).map Vi ++ zc).toArray 3 fc)]
 hv : Free fv ((t.vs.map eV).length + zv.length)
 hc : Free fc ((t.cs.map eC).length + zc.length)
 lv : t.vs.length = t.ns.length
 lc : t.cs.length = t.ns.length
 pos : 0 < t.ns.length
 small : t.ns.length ≤ 16
 nd : t.ns.Nodup
 ok : ∀ c, some c ∈ t.cs → 0 ≤ c
 ne : i ≠ j
theorem erase_at {cs : List Res} {i j : Nat} {r : Res} (hne : i ≠ j) (h : cs[j]? = some r) : ∃ k : Nat, (cs.eraseIdx i)[k]? = some r := by
 by_cases hj : j < i
 ·exact ⟨j, by rw [List.getElem?_eraseIdx, if_pos hj]; exact h⟩
 exact ⟨j - 1, by rw [List.getElem?_eraseIdx, if_neg (by omega), show j - 1 + 1 = j by omega]; exact h⟩
theorem blk_read {G : Snap} {bb tt : Nat} {xs : List Int} {zs : List Value} {fz : Nat × Nat} (h : G bb = some (.cells (xs.map Vi ++ zs).toArray tt fz)) : RdS (Kd.one Vi) G (some ⟨bb, 0, none⟩) xs := by
 refine .inr ⟨_, rfl, fun i x hx => ⟨[Vi x], rfl, fun j v hv => ?_⟩⟩
 have hj : j = 0 := by
  rcases j with _ | j
  ·rfl
  simp at hv
 subst hj
 simp only [List.getElem?_cons_zero, Option.some.injEq] at hv
 subst hv
 show cellF G ((⟨bb, 0, none⟩ : Addr).add (i * 1 + 0)) = some (Vi x)
 rw [add_mk, Nat.mul_one, Nat.add_zero, Nat.zero_add]
 unfold cellF
 simp only [h]
 have hi : i < xs.length := (List.getElem?_eq_some_iff.1 hx).1
 simp [List.getElem?_append_left (show i < (xs.map Vi).length by simpa using hi), hx]
theorem RR.use {W w : World} {F : Snap} {cs : List Res} {b i j bv bc : Nat} {zv zc : List Value} {fv fc : Nat × Nat} {t : T} (h : St W F cs w) (hr : RR F cs b i j bv bc zv zc fv fc t) : ∃ G cs', Le F G ∧ RZ G b t ∧ St W G cs' w ∧ ∀ new w', St W G (new ++ cs') w' → St W F (new ++ cs) w' := by
 obtain ⟨G1, l1, g1, S1⟩ := h.freeze hr.iv
 obtain ⟨j', hj'⟩ := erase_at hr.ne hr.ic
 obtain ⟨G2, l2, g2, S2⟩ := S1.freeze hj'
 obtain ⟨A, cap, h1, h2⟩ := hr.s0
 have hle := Le.trans l1 l2
 refine ⟨G2, _, hle, ⟨⟨A, cap, cellF_le hle h1, h2.mono hle⟩, ⟨_, _, cellF_le hle hr.s1, blk_read (l2 _ _ (g1 _ List.mem_cons_self))⟩, ⟨_, _, cellF_le hle hr.s2, blk_read (g2 _ List.mem_cons_self)⟩, hr.lv, hr.lc, hr.pos, hr.small, hr.nd, hr.ok⟩, S2, fun new w' h' =>h.thaw hr.iv g1 l1 (S1.thaw hj' g2 l2 h')⟩
theorem RR.mono {F G : Snap} {cs : List Res} {b i j bv bc : Nat} {zv zc : List Value} {fv fc : Nat × Nat} {t : T} (hle : Le F G) (h : RR F cs b i j bv bc zv zc fv fc t) : RR G cs b i j bv bc zv zc fv fc t := by
 obtain ⟨⟨A, cap, h1, h2⟩, h3, h4, h5, h6, h7, h8, h9, h10, h11, h12, h13, h14, h15⟩ := h
 exact ⟨⟨A, cap, cellF_le hle h1, h2.mono hle⟩, cellF_le hle h3, cellF_le hle h4, h5, h6, h7, h8, h9, h10, h11, h12, h13, h14, h15⟩
theorem getD_set_map {α β : Type} (f : α → β) (l : List α) (k : Nat) (x : α) : (l.map f).set k (f x) = (l.set k x).map f := by rw [List.map_set]
theorem RR.vote {F : Snap} {cs : List Res} {b i j bv bc : Nat} {zv zc : List Value} {fv fc : Nat × Nat} {t : T} {vs' : List (Option Bool)} (h : RR F cs b i j bv bc zv zc fv fc t) (hl : vs'.length = t.vs.length) : RR F (cs.set i [(bv, .cells ((vs'.map eV).map Vi ++ zv).toArray 3 fv)]) b i j bv bc zv zc fv fc { t with vs := vs' } := by
 obtain ⟨h1, h3, h4, h5, h6, h7, h8, h9, h10, h11, h12, h13, h14, h15⟩ := h
 refine ⟨h1, ?_, h4, by rw [List.getElem?_set_self (List.getElem?_eq_some_iff.1 h5).1], by rw [List.getElem?_set_ne h15]; exact h6, ?_, h8, hl.trans h9, h10, h11, h12, h13, h14, h15⟩
 ·simp only [List.length_map] at h3 ⊢; rw [hl]; exact h3
 simp only [List.length_map] at h7 ⊢; rw [hl]; exact h7
theorem RR.exit {F : Snap} {cs : List Res} {b i j bv bc : Nat} {zv zc : List Value} {fv fc : Nat × Nat} {t : T} {cs' : List (Option Int)} (h : RR F cs b i j bv bc zv zc fv fc t) (hl : cs'.length = t.cs.length) (hok : ∀ c, some c ∈ cs' → 0 ≤ c) : RR F (cs.set j [(bc, .cells ((cs'.map eC).map Vi ++ zc).toArray 3 fc)]) b i j bv bc zv zc fv fc { t with cs := cs' } := by
 obtain ⟨h1, h3, h4, h5, h6, h7, h8, h9, h10, h11, h12, h13, h14, h15⟩ := h
 refine ⟨h1, h3, ?_, by rw [List.getElem?_set_ne (Ne.symm h15)]; exact h5, by rw [List.getElem?_set_self (List.getElem?_eq_some_iff.1 h6).1], h7, ?_, h9, hl.trans h10, h11, h12, h13, hok, h15⟩
 ·simp only [List.length_map] at h4 ⊢; rw [hl]; exact h4
 simp only [List.length_map] at h8 ⊢; rw [hl]; exact h8
def isAt (ns : List Int) (n v : Int) : Prop := (v = -1 ∧ n ∉ ns) ∨ ∃ k : Nat, v = (k : Int) ∧ k < ns.length ∧ ns.getD k 0 = n
theorem not_in {xs : List Int} {x : Int} (h : ∀ k, k < xs.length → xs.getD k 0 ≠ x) : x ∉ xs := fun hm => by
 obtain ⟨k, hk, e⟩ := List.getElem_of_mem hm
 exact h k hk (by rw [gD, gE hk]; exact e)
theorem miss_pos {α : Type} : ∀ {ns : List Int} {os : List (Option α)}, os.length = ns.length → (0 < (miss ns os).length ↔ none ∈ os)
 |[], [], _ => by simp [miss]
 |n :: ns, o :: os, hl => by
  unfold miss
  have := miss_pos (ns := ns) (os := os) (by simpa using hl)
  cases o <;> simp [this]
theorem in_eV {os : List (Option Bool)} {o : Option Bool} : eV o ∈ os.map eV ↔ o ∈ os := by
 rw [List.mem_map]
 exact ⟨fun ⟨a, ha, e⟩ => eV_inj e ▸ ha, fun h => ⟨o, h, rfl⟩⟩
theorem in_eC {os : List (Option Int)} (hok : ∀ c, some c ∈ os → 0 ≤ c) : (-1 : Int) ∈ os.map eC ↔ none ∈ os := by
 rw [List.mem_map]
 refine ⟨fun ⟨a, ha, e⟩ => ?_, fun h => ⟨none, h, rfl⟩⟩
 cases a with
 |none => exact ha
 |some c => have := hok c ha; simp only [eC, Option.getD_some] at e; omega
theorem state_eq {F : Snap} {b : Nat} {t : T} (h : RZ F b t) : t.state = if 2 ∈ t.vs.map eV then 2 else if 0 ∈ t.vs.map eV then 0 else if -1 ∈ t.cs.map eC then 1 else 3 := by
 have e1 : ((2 : Int) ∈ t.vs.map eV) = (some false ∈ t.vs) := propext (in_eV (o := some false))
 have e2 : ((0 : Int) ∈ t.vs.map eV) = (none ∈ t.vs) := propext (in_eV (o := none))
 have e3 : ((-1 : Int) ∈ t.cs.map eC) = (none ∈ t.cs) := propext (in_eC h.ok)
 have e4 : ((miss t.ns t.vs).length > 0) = (none ∈ t.vs) := propext (miss_pos h.lv)
 have e5 : ((miss t.ns t.cs).length > 0) = (none ∈ t.cs) := propext (miss_pos h.lc)
 unfold T.state
 simp only [e1, e2, e3, e4, e5]
theorem worst_step (xs : List Int) (i : Nat) (hi : i < xs.length) : worst (xs.take (i + 1)) = if i = 0 ∨ worst (xs.take i) < xs.getD i 0 then xs.getD i 0 else worst (xs.take i) := by
 cases xs with
 |nil => simp at hi
 |cons a l =>
  cases i with
  |zero => simp [worst]
  |succ i =>
   show (l.take (i + 1)).foldl max a = _
   rw [max_step l i a (by simpa using hi)]
   simp [worst]
theorem code_eq {F : Snap} {b : Nat} {t : T} (h : RZ F b t) (h3 : t.state = 3) : t.code = worst (t.cs.map eC) := by
 have hall := codes_all h.lc h3
 unfold T.code
 rw [if_neg (by simp [h3])]
 congr 1
 refine List.map_congr_left fun o ho => ?_
 have := hall o ho
 cases o with
 |none => cases this
 |some c => rfl
theorem miss_take {α : Type} : ∀ (ns : List Int) (os : List (Option α)) (k : Nat), k < ns.length → os.length = ns.length → miss (ns.take (k + 1)) (os.take (k + 1)) = miss (ns.take k) (os.take k) ++ (if (os.getD k none).isNone then [ns.getD k 0] else [])
 |n :: ns, o :: os, 0, _, _ => by cases o <;> simp [miss]
 |n :: ns, o :: os, k + 1, hk, hl => by
  have := miss_take ns os k (by simpa using hk) (by simpa using hl)
  simp only [List.take_succ_cons, miss, List.getD_cons_succ]
  cases o <;> simp [this]
def missK (t : T) (k : Nat) : List Int := if t.state = 0 then miss (t.ns.take k) (t.vs.take k) else if t.state = 1 then miss (t.ns.take k) (t.cs.take k) else []
theorem missK_len (t : T) (k : Nat) : (missK t k).length ≤ k := by
 have : ∀ {α : Type} (ns : List Int) (os : List (Option α)), (miss ns os).length ≤ ns.length := by
  intro α ns
  induction ns with
  |nil => intro os; simp [miss]
  |cons n ns ih =>
   intro os
   cases os with
   |nil => simp [miss]
   |cons o os => unfold miss; have := ih os; split <;> simp <;> omega
 have h1 := this (t.ns.take k) (t.vs.take k)
 have h2 := this (t.ns.take k) (t.cs.take k)
 rw [List.length_take] at h1 h2
 unfold missK
 split
 ·omega
 split
 ·omega
 simp
theorem rowI_at {α : Type} (f : α → Int) (os : List α) (d : α) (zs : List Value) {k : Nat} (hk : k < os.length) : ((os.map f).map Vi ++ zs).toArray[k]? = some (Vi (f (os.getD k d))) := by
 rw [List.getElem?_toArray, List.getElem?_append_left (by simpa using hk)]
 simp [gD, gE hk]
theorem eV_at (os : List (Option Bool)) (k : Nat) : (os.map eV).getD k 0 = eV (os.getD k none) := by
 rw [gD, gD, List.getElem?_map]
 cases os[k]? <;> rfl
theorem eC_at {os : List (Option Int)} {k : Nat} (hk : k < os.length) : (os.map eC).getD k 0 = eC (os.getD k none) := by
 rw [gD, gD, List.getElem?_map, gE hk]
 rfl
theorem look_at2 {α : Type} {ns : List Int} {os : List (Option α)} : ∀ {k : Nat}, ns.Nodup → os.length = ns.length → k < ns.length → look (ns.getD k 0) ns os = some (os.getD k none) ∧ ∀ x, put (ns.getD k 0) x ns os = os.set k (some x) := by
 induction ns generalizing os with
 |nil => intro k _ _ h; simp at h
 |cons m ns ih =>
  intro k hd hl hk
  cases os with
  |nil => simp at hl
  |cons o os =>
   have hd' := List.nodup_cons.1 hd
   cases k with
   |zero => simp [look, put]
   |succ k =>
    simp only [List.length_cons, Nat.add_lt_add_iff_right] at hk hl
    have hne : ns.getD k 0 ≠ m := fun e => hd'.1 (e ▸ mem_at hk)
    have := ih (os := os) hd'.2 (by simpa using hl) hk
    unfold look put
    simp only [List.getD_cons_succ]
    rw [if_neg hne]
    refine ⟨this.1, fun x => ?_⟩
    rw [if_neg hne, this.2 x]
    rfl
theorem look_no {α : Type} {n : Int} : ∀ {ns : List Int} {os : List (Option α)}, n ∉ ns → look n ns os = none
 |[], [], _ => rfl
 |[], _ :: _, _ => rfl
 |_ :: _, [], _ => rfl
 |m :: ns, o :: os, h => by
  simp only [List.mem_cons, not_or] at h
  unfold look
  rw [if_neg h.1]
  exact look_no h.2
theorem vote_none {t : T} {n : Int} {y : Bool} (h : n ∉ t.ns) : t.vote n y = (1, t) := by simp [T.vote, say, look_no h]
theorem vote_same {t : T} {k : Nat} {y : Bool} (hd : t.ns.Nodup) (hl : t.vs.length = t.ns.length) (hk : k < t.ns.length) (ho : t.vs.getD k none = some y) : t.vote (t.ns.getD k 0) y = (0, t) := by
 unfold T.vote say
 rw [(look_at2 hd hl hk).1, ho]
 simp
theorem vote_bad {t : T} {k : Nat} {y : Bool} (hd : t.ns.Nodup) (hl : t.vs.length = t.ns.length) (hk : k < t.ns.length) (ho : t.vs.getD k none ≠ some y) (h2 : t.vs.getD k none ≠ none ∨ t.state ≠ 0) : t.vote (t.ns.getD k 0) y = (14, t) := by
 unfold T.vote say
 rw [(look_at2 hd hl hk).1]
 cases e : t.vs.getD k none with
 |none =>
  have h3 : t.state ≠ 0 := by
   rcases h2 with h2 | h2
   ·exact absurd e h2
   exact h2
  simp [h3]
 |some z =>
  have hz : z ≠ y := fun e' => ho (by rw [e, e'])
  simp [hz]
theorem vote_ok {t : T} {k : Nat} {y : Bool} (hd : t.ns.Nodup) (hl : t.vs.length = t.ns.length) (hk : k < t.ns.length) (ho : t.vs.getD k none = none) (h2 : t.state = 0) : t.vote (t.ns.getD k 0) y = (0, { t with vs := t.vs.set k (some y) }) := by
 unfold T.vote say
 rw [(look_at2 hd hl hk).1, ho]
 simp only [h2, decide_true, if_true]
 rw [(look_at2 hd hl hk).2]
theorem exit_none {t : T} {n c : Int} (h : n ∉ t.ns) : t.exit n c = (1, t) := by
 unfold T.exit
 split
 ·rfl
 simp [say, look_no h]
theorem exit_same {t : T} {k : Nat} {c : Int} (hb : ¬ (c < 0 ∨ 255 < c)) (hd : t.ns.Nodup) (hl : t.cs.length = t.ns.length) (hk : k < t.ns.length) (ho : t.cs.getD k none = some c) : t.exit (t.ns.getD k 0) c = (0, t) := by
 rw [exit_yes hb]
 unfold say
 rw [(look_at2 hd hl hk).1, ho]
 simp
theorem exit_bad {t : T} {k : Nat} {c : Int} (hb : ¬ (c < 0 ∨ 255 < c)) (hd : t.ns.Nodup) (hl : t.cs.length = t.ns.length) (hk : k < t.ns.length) (ho : t.cs.getD k none ≠ some c) (h2 : t.cs.getD k none ≠ none ∨ t.state ≠ 1) : t.exit (t.ns.getD k 0) c = (14, t) := by
 rw [exit_yes hb]
 unfold say
 rw [(look_at2 hd hl hk).1]
 cases e : t.cs.getD k none with
 |none =>
  have h3 : t.state ≠ 1 := by
   rcases h2 with h2 | h2
   ·exact absurd e h2
   exact h2
  simp [h3]
 |some z =>
  have hz : z ≠ c := fun e' => ho (by rw [e, e'])
  simp [hz]
theorem exit_ok {t : T} {k : Nat} {c : Int} (hb : ¬ (c < 0 ∨ 255 < c)) (hd : t.ns.Nodup) (hl : t.cs.length = t.ns.length) (hk : k < t.ns.length) (ho : t.cs.getD k none = none) (h2 : t.state = 1) : t.exit (t.ns.getD k 0) c = (0, { t with cs := t.cs.set k (some c) }) := by
 rw [exit_yes hb]
 unfold say
 rw [(look_at2 hd hl hk).1, ho]
 simp only [h2, decide_true, if_true]
 rw [(look_at2 hd hl hk).2]
theorem has_c (w : World) (x : Int) {A : Option Addr} {cap : Nat} {xs : List Int} (h : St W F cs w) (hR : RdS (Kd.one Vi) F A xs) (hn : xs.length ≤ 100000) : Calls prog 134 #[.slice A xs.length cap, Vi x] w fun e w' => e = .returned (.bool (decide (x ∈ xs))) ∧ St W F cs w'  := by
 refine enter (args := [.slice A xs.length cap, Vi x]) func134 rfl rfl rfl<|Wi<|C0 1 rfl<|Wh<|C0 1 rfl<|Wj<|B3 (σ := Nat) (fun q_ => [(0, .slice A xs.length cap), (1, Vi x), (5, .int .i64 (q_ : Int))]) (fun q_ w => q_ ≤ xs.length ∧ (∀ j, j < q_ → xs.getD j 0 ≠ x) ∧ St W F cs w) (fun q_ => xs.length - q_) (0) (⟨by omega, fun j hj => absurd hj (Nat.not_lt_zero _), h⟩) ?_
 rintro k w1 ⟨hk, hno, hL⟩
 try dsimp only at hk hno hL
 refine W2 [(0, .slice A xs.length cap), (1, Vi x), (5, .int .i64 (k : Int))]<|N0<|Wi<|C0 2 rfl<|I0 (Y0 underlying33 rfl rfl) rfl<|C0 1 rfl<|Wa<|Z0 rfl (fun c2 => ?_) (fun c2 => ?_)
 ·try simp only [DD] at c2
  refine U0 (H0 (N0 (M1 (N0 ?_))))
  obtain ⟨ad, rfl, hrd⟩ := rd1 hR (by omega)
  refine L0<|C0 2 rfl<|I0 (W0 underlying33 inf3 rfl rfl (n := k) rfl (by omega)) rfl<|I0 (I1 (f := Vi) (0 : Int) hL hrd (n := k) (by omega) underlying3 rfl rfl) rfl<|C0 2 rfl<|Wa<|Z0 rfl (fun c3 => ?_) (fun c3 => ?_)
  ·try simp only [DD] at c3
   refine Wi<|C0 1 rfl<|Wg<|ret1 rfl rfl ⟨?_, hL⟩
   have hm : x ∈ xs := by
    have := mem_at (xs := xs) (j := k) (by omega)
    simp_all
   simp [hm]
  try simp only [DD] at c3
  refine U0<|N1<|H0<|L0<|C0 1 rfl<|I0 (V0 rfl rfl (by omega)) rfl<|C0 1 rfl<|J0<|F1 (k + 1) (by omega) ⟨rfl, rfl, rfl, trivial⟩ ⟨by omega, fun j hj => ?_, hL⟩
  by_cases e : j = k
  ·subst e; assumption
  exact hno j (by omega)
 try simp only [DD] at c2
 refine U1<|B2<|WX.cut<|E2<|H0<|Wi<|C0 1 rfl<|Wg<|ret1 rfl rfl ⟨?_, hL⟩
 obtain rfl : k = xs.length := by omega
 have hm := not_in hno
 simp [hm]
theorem at_c (w : World) (n : Int) {b : Nat} {A : Option Addr} {cap : Nat} {ns : List Int} (h : St W F cs w) (hs0 : cellF F ⟨b, 0, none⟩ = some (.slice A ns.length cap)) (hR : RdS (Kd.one Vi) F A ns) (hn : ns.length ≤ 100000) : Calls prog 149 #[pz b, Vi n] w fun e w' => ∃ v, e = .returned (Vi v) ∧ isAt ns n v ∧ St W F cs w'  := by
 refine enter (args := [pz b, Vi n]) func149 rfl rfl rfl<|Wi<|C0 1 rfl<|Wh<|C0 1 rfl<|Wj<|B3 (σ := Nat) (fun q_ => [(0, pz b), (1, Vi n), (5, .int .i64 (q_ : Int))]) (fun q_ w => q_ ≤ ns.length ∧ (∀ j, j < q_ → ns.getD j 0 ≠ n) ∧ St W F cs w) (fun q_ => ns.length - q_) (0) (⟨by omega, fun j hj => absurd hj (Nat.not_lt_zero _), h⟩) ?_
 rintro k w1 ⟨hk, hno, hL⟩
 try dsimp only at hk hno hL
 refine W2 [(0, pz b), (1, Vi n), (5, .int .i64 (k : Int))]<|N0<|Wi<|C0 4 rfl<|I0 (K0 underlying33 rfl rfl (hL.cell hs0)) rfl<|I0 (Y0 underlying33 rfl rfl) rfl<|C0 1 rfl<|Wa<|Z0 rfl (fun c2 => ?_) (fun c2 => ?_)
 ·try simp only [DD] at c2
  refine U0 (H0 (N0 (M1 (N0 ?_))))
  obtain ⟨ad, rfl, hrd⟩ := rd1 hR (by omega)
  refine L0<|C0 3 rfl<|I0 (K0 underlying33 rfl rfl (hL.cell hs0)) rfl<|C0 1 rfl<|I0 (W0 underlying33 inf3 rfl rfl (n := k) rfl (by omega)) rfl<|I0 (I1 (f := Vi) (0 : Int) hL hrd (n := k) (by omega) underlying3 rfl rfl) rfl<|C0 2 rfl<|Wa<|Z0 rfl (fun c3 => ?_) (fun c3 => ?_)
  ·try simp only [DD] at c3
   refine Wi<|C0 2 rfl<|Wg<|ret1 rfl rfl ⟨_, rfl, .inr ⟨k, rfl, by omega, by assumption⟩, hL⟩
  try simp only [DD] at c3
  refine U0<|N1<|H0<|L0<|C0 1 rfl<|I0 (V0 rfl rfl (by omega)) rfl<|C0 1 rfl<|J0<|F1 (k + 1) (by omega) ⟨rfl, rfl, rfl, trivial⟩ ⟨by omega, fun j hj => ?_, hL⟩
  by_cases e : j = k
  ·subst e; assumption
  exact hno j (by omega)
 try simp only [DD] at c2
 refine U1<|B2<|WX.cut<|E2<|H0<|Wi<|C0 1 rfl<|J0 (H0 (O1 ?_))
 obtain rfl : k = ns.length := by omega
 exact ret1 rfl rfl ⟨_, rfl, .inl ⟨rfl, not_in hno⟩, hL⟩
theorem rstate_z (w : World) {b : Nat} {t : T} (h : St W F cs w) (hz : RZ F b t) : Calls prog 92 #[pz b] w fun e w' => e = .returned (Vi t.state) ∧ St W F cs w'  := by
 refine enter (args := [pz b]) func92 rfl rfl rfl ?_
 obtain ⟨A1, cap1, hs1, hR1⟩ := hz.s1
 obtain ⟨A2, cap2, hs2, hR2⟩ := hz.s2
 have hlv := hz.lv
 have hlc := hz.lc
 have hsm := hz.small
 have hq := state_eq hz
 refine Wi<|C0 1 rfl<|Wh<|C0 3 rfl<|I0 (K0 underlying33 rfl rfl (h.cell hs1)) rfl<|C1 (cn func134) rfl rfl (has_c _ 2 h hR1 (by rw [List.length_map]; omega)) fun w1 h1 =>Wa<|Z0 rfl (fun c2 => ?_) (fun c2 => ?_)
 ·try simp only [DD] at c2
  refine Wi<|C0 1 rfl<|Wg<|ret1 rfl rfl ⟨?_, h1⟩
  rw [hq]
  simp only [*, if_true, if_false]
 try simp only [DD] at c2
 refine U0<|H0<|N0<|Wi<|C0 3 rfl<|I0 (K0 underlying33 rfl rfl (h1.cell hs1)) rfl<|C1 (cn func134) rfl rfl (has_c _ 0 h1 hR1 (by rw [List.length_map]; omega)) fun w3 h3 =>Wa<|Z0 rfl (fun c4 => ?_) (fun c4 => ?_)
 ·try simp only [DD] at c4
  refine Wi<|C0 1 rfl<|Wg<|ret1 rfl rfl ⟨?_, h3⟩
  rw [hq]
  simp only [*, if_true, if_false]
 try simp only [DD] at c4
 refine U0<|H0<|N0<|Wi<|C0 3 rfl<|I0 (K0 underlying33 rfl rfl (h3.cell hs2)) rfl<|C1 (cn func134) rfl rfl (has_c _ (-1) h3 hR2 (by rw [List.length_map]; omega)) fun w5 h5 =>Wa<|Z0 rfl (fun c6 => ?_) (fun c6 => ?_)
 ·try simp only [DD] at c6
  refine Wi<|C0 1 rfl<|Wg<|ret1 rfl rfl ⟨?_, h5⟩
  rw [hq]
  simp only [*, if_true, if_false]
 try simp only [DD] at c6
 refine Wk<|C0 1 rfl<|Wg<|ret1 rfl rfl ⟨?_, h5⟩
 rw [hq]
 simp only [*, if_true, if_false]
theorem rworst_c (w : World) {A : Option Addr} {cap : Nat} {xs : List Int} (h : St W F cs w) (hR : RdS (Kd.one Vi) F A xs) (hn : xs.length ≤ 100000) : Calls prog 166 #[.slice A xs.length cap] w fun e w' => e = .returned (Vi (worst xs)) ∧ St W F cs w'  := by
 refine enter (args := [.slice A xs.length cap]) func166 rfl rfl rfl<|Wi<|C0 1 rfl<|We<|C0 1 rfl<|Wh<|C0 1 rfl<|Wj<|B3 (σ := Nat) (fun q_ => [(0, .slice A xs.length cap), (3, Vi (worst (xs.take q_))), (4, .int .i64 (q_ : Int))]) (fun q_ w => q_ ≤ xs.length ∧ St W F cs w) (fun q_ => xs.length - q_) (0) (⟨by omega, h⟩) ?_
 rintro k w1 ⟨hk, hL⟩
 try dsimp only at hk hL
 refine W2 [(0, .slice A xs.length cap), (3, Vi (worst (xs.take k))), (4, .int .i64 (k : Int))]<|N0<|Wi<|C0 2 rfl<|I0 (Y0 underlying33 rfl rfl) rfl<|C0 1 rfl<|Wa<|Z0 rfl (fun c2 => ?_) (fun c2 => ?_)
 ·try simp only [DD] at c2
  refine U0 (H0 (N0 (M1 (N0 ?_))))
  obtain ⟨ad, rfl, hrd⟩ := rd1 hR (by omega)
  have hcase : k = 0 ∨ 0 < k := by omega
  rcases hcase with hz0 | hz1
  ·refine L0<|C0 1 rfl<|I0 (Bt (L1 rfl rfl) (dA (by omega))) rfl<|C0 8 rfl<|Wa<|J1 rfl (rfl)<|L0<|C0 2 rfl<|I0 (W0 underlying33 inf3 rfl rfl (n := k) rfl (by omega)) rfl<|I0 (I1 (f := Vi) (0 : Int) hL hrd (n := k) (by omega) underlying3 rfl rfl) rfl<|C0 1 rfl<|J0<|N1<|H0<|L0<|C0 1 rfl<|I0 (V0 rfl rfl (by omega)) rfl<|C0 1 rfl<|J0<|F1 (k + 1) (by omega) ⟨rfl, ?_, rfl, trivial⟩ ⟨by omega, hL⟩
   show _ = some (Vi (worst (xs.take (k + 1))))
   rw [worst_step xs k (by omega), if_pos (show k = 0 ∨ worst (xs.take k) < xs.getD k 0 by omega)]
   rfl
  refine L0<|C0 1 rfl<|I0 (Bf (L1 rfl rfl) (dN (by omega))) rfl<|C0 3 rfl<|Q0 rfl<|I0 (W0 underlying33 inf3 rfl rfl (n := k) rfl (by omega)) rfl<|Q0 rfl<|I0 (I1 (f := Vi) (0 : Int) hL hrd (n := k) (by omega) underlying3 rfl rfl) rfl<|C0 3 rfl<|Wa<|Z0 rfl (fun c3 => ?_) (fun c3 => ?_)
  ·try simp only [DD] at c3
   refine L0<|C0 2 rfl<|I0 (W0 underlying33 inf3 rfl rfl (n := k) rfl (by omega)) rfl<|I0 (I1 (f := Vi) (0 : Int) hL hrd (n := k) (by omega) underlying3 rfl rfl) rfl<|C0 1 rfl<|J0<|N1<|H0<|L0<|C0 1 rfl<|I0 (V0 rfl rfl (by omega)) rfl<|C0 1 rfl<|J0<|F1 (k + 1) (by omega) ⟨rfl, ?_, rfl, trivial⟩ ⟨by omega, hL⟩
   show _ = some (Vi (worst (xs.take (k + 1))))
   rw [worst_step xs k (by omega), if_pos (show k = 0 ∨ worst (xs.take k) < xs.getD k 0 by omega)]
   rfl
  try simp only [DD] at c3
  refine U0<|N1<|H0<|L0<|C0 1 rfl<|I0 (V0 rfl rfl (by omega)) rfl<|C0 1 rfl<|J0<|F1 (k + 1) (by omega) ⟨rfl, ?_, rfl, trivial⟩ ⟨by omega, hL⟩
  show _ = some (Vi (worst (xs.take (k + 1))))
  rw [worst_step xs k (by omega), if_neg (show ¬ (k = 0 ∨ worst (xs.take k) < xs.getD k 0) by omega)]
  rfl
 try simp only [DD] at c2
 refine U1<|B2<|WX.cut<|E2<|H0<|Wi<|C0 2 rfl<|J0 (H0 (O1 ?_))
 obtain rfl : k = xs.length := by omega
 refine ret1 rfl rfl ⟨?_, hL⟩
 rw [List.take_of_length_le (Nat.le_refl _)]
theorem rcode_z (w : World) {b : Nat} {t : T} (h : St W F cs w) (hz : RZ F b t) : Calls prog 145 #[pz b] w fun e w' => e = .returned (Vi t.code) ∧ St W F cs w'  := by
 refine enter (args := [pz b]) func145 rfl rfl rfl ?_
 obtain ⟨A2, cap2, hs2, hR2⟩ := hz.s2
 have hlc := hz.lc
 have hsm := hz.small
 refine Wi<|C0 1 rfl<|Wh<|C0 1 rfl<|C1 (cn func92) rfl rfl (rstate_z _ h hz) fun w1 h1 =>C0 1 rfl<|Wa<|Z0 rfl (fun c2 => ?_) (fun c2 => ?_)
 ·try simp only [DD] at c2
  refine Wi<|C0 1 rfl<|Wg<|ret1 rfl rfl ⟨?_, h1⟩
  have : t.state ≠ 3 := by simp_all
  simp [T.code, this]
 try simp only [DD] at c2
 refine Wk<|C0 3 rfl<|I0 (K0 underlying33 rfl rfl (h1.cell hs2)) rfl<|C1 (cn func166) rfl rfl (rworst_c _ h1 hR2 (by rw [List.length_map]; omega)) fun w3 h3 =>C0 1 rfl<|Wg<|ret1 rfl rfl ⟨?_, h3⟩
 have : t.state = 3 := by simp_all
 rw [code_eq hz this]
theorem eV_ne {o : Option Bool} (h : o ≠ none) : eV o ≠ 0 := fun e => h (eV_inj e)
theorem eC_ne {os : List (Option Int)} {k : Nat} (hok : ∀ c, some c ∈ os → 0 ≤ c) (hk : k < os.length) (h : os.getD k none ≠ none) : eC (os.getD k none) ≠ -1 := fun e => by
 rw [gD, gE hk] at h e
 cases h2 : os[k] with
 |none => rw [h2] at h; exact h rfl
 |some c =>
  rw [h2] at e
  have := hok c (h2 ▸ List.getElem_mem hk)
  simp only [eC, Option.getD_some] at e
  omega
theorem mK {t : T} {k : Nat} (hk : k < t.ns.length) (hlv : t.vs.length = t.ns.length) (hlc : t.cs.length = t.ns.length) :
  (t.state = 0 → t.vs.getD k none = none → missK t (k + 1) = missK t k ++ [t.ns.getD k 0]) ∧ (t.state = 0 → t.vs.getD k none ≠ none → missK t (k + 1) = missK t k) ∧
  (t.state = 1 → t.cs.getD k none = none → missK t (k + 1) = missK t k ++ [t.ns.getD k 0]) ∧ (t.state = 1 → t.cs.getD k none ≠ none → missK t (k + 1) = missK t k) ∧
  (t.state ≠ 0 → t.state ≠ 1 → missK t (k + 1) = missK t k) := by
 unfold missK
 refine ⟨fun h0 h => ?_, fun h0 h => ?_, fun h0 h => ?_, fun h0 h => ?_, fun h0 h => ?_⟩
 ·rw [if_pos h0, if_pos h0, miss_take _ _ k hk hlv, h]; rfl
 ·rw [if_pos h0, if_pos h0, miss_take _ _ k hk hlv]
  cases e : t.vs.getD k none with
  |none => exact absurd e h
  |some x => simp
 ·have h1 : t.state ≠ 0 := by rw [h0]; decide
  rw [if_neg h1, if_neg h1, if_pos h0, if_pos h0, miss_take _ _ k hk hlc, h]; rfl
 ·have h1 : t.state ≠ 0 := by rw [h0]; decide
  rw [if_neg h1, if_neg h1, if_pos h0, if_pos h0, miss_take _ _ k hk hlc]
  cases e : t.cs.getD k none with
  |none => exact absurd e h
  |some x => simp
 rw [if_neg h0, if_neg h0, if_neg h, if_neg h]
theorem rstate_r (w : World) {b i j bv bc : Nat} {zv zc : List Value} {fv fc : Nat × Nat} {t : T} (h : St W F cs w) (hr : RR F cs b i j bv bc zv zc fv fc t) : Calls prog 92 #[pz b] w fun e w' => e = .returned (Vi t.state) ∧ St W F cs w' := by
 obtain ⟨G, cs', hle, hz, hs, back⟩ := hr.use h
 exact (rstate_z w hs hz).mono fun e w' ⟨h1, h2⟩ => ⟨h1, back [] w' h2⟩
theorem rcode_r (w : World) {b i j bv bc : Nat} {zv zc : List Value} {fv fc : Nat × Nat} {t : T} (h : St W F cs w) (hr : RR F cs b i j bv bc zv zc fv fc t) : Calls prog 145 #[pz b] w fun e w' => e = .returned (Vi t.code) ∧ St W F cs w' := by
 obtain ⟨G, cs', hle, hz, hs, back⟩ := hr.use h
 exact (rcode_z w hs hz).mono fun e w' ⟨h1, h2⟩ => ⟨h1, back [] w' h2⟩
theorem rmiss_z (w : World) {b : Nat} {t : T} (h : St W F cs w) (hz : RZ F b t) : Calls prog 91 #[pz b] w fun e w' => ∃ r v, e = .returned v ∧ Row 3 Vi r v t.missing ∧ St W F (r :: cs) w'  := by
 refine enter (args := [pz b]) func91 rfl rfl rfl ?_
 obtain ⟨A0, cap0, hs0, hR0⟩ := hz.s0
 obtain ⟨A1, cap1, hs1, hR1⟩ := hz.s1
 obtain ⟨A2, cap2, hs2, hR2⟩ := hz.s2
 have hlv := hz.lv
 have hlc := hz.lc
 have hsm := hz.small
 have hpos := hz.pos
 obtain ⟨a0, rfl, hrd0⟩ := rd1 hR0 hpos
 obtain ⟨a1, rfl, hrd1⟩ := rd1 hR1 (by rw [List.length_map]; omega)
 obtain ⟨a2, rfl, hrd2⟩ := rd1 hR2 (by rw [List.length_map]; omega)
 refine Wi<|C0 1 rfl<|We<|C0 1 rfl<|Wh<|C0 1 rfl<|Wj<|B3 (σ := Nat × Res × Value) (fun q_ => [(0, pz b), (3, q_.2.2), (4, .int .i64 (q_.1 : Int))]) (fun q_ w => q_.1 ≤ t.ns.length ∧ Row 3 Vi q_.2.1 q_.2.2 (missK t q_.1) ∧ St W F (q_.2.1 :: cs) w) (fun q_ => t.ns.length - q_.1) (⟨0, [], .slice none 0 0⟩) (⟨by omega, by have e : missK t 0 = [] := (by simp [missK, miss]); rw [e]; exact Row.nil _ _, h.nilRes⟩) ?_
 rintro ⟨k, r, v⟩ w1 ⟨hk, hro, hL⟩
 try dsimp only at hk hro hL
 refine W2 [(0, pz b), (3, v), (4, .int .i64 (k : Int))] ?_
 obtain ⟨Ao, co, rfl, hcap⟩ := hro.val
 have hmk := missK_len t k
 refine N0<|Wi<|C0 4 rfl<|I0 (K0 underlying33 rfl rfl (hL.cell hs0)) rfl<|I0 (Y0 underlying33 rfl rfl) rfl<|C0 1 rfl<|Wa<|Z0 rfl (fun c2 => ?_) (fun c2 => ?_)
 ·try simp only [DD] at c2
  refine U0 (H0 (N0 (M1 (N0 ?_))))
  have hkv : k < (t.vs.map eV).length := by rw [List.length_map]; omega
  have hkc : k < (t.cs.map eC).length := by rw [List.length_map]; omega
  have hkc2 : k < t.cs.length := by omega
  have hkv2 : k < t.vs.length := by omega
  have hcase : (t.state = 0 ∧ t.vs.getD k none = none) ∨ (t.state = 0 ∧ t.vs.getD k none ≠ none) ∨ (t.state = 1 ∧ t.cs.getD k none = none) ∨ (t.state = 1 ∧ t.cs.getD k none ≠ none) ∨ (t.state ≠ 0 ∧ t.state ≠ 1) := by
   by_cases h0 : t.state = 0 <;> by_cases h1 : t.state = 1 <;> by_cases h2 : t.vs.getD k none = none <;> by_cases h3 : t.cs.getD k none = none <;> simp_all
  rcases hcase with ⟨hA1, hA2⟩ | ⟨hB1, hB2⟩ | ⟨hC1, hC2⟩ | ⟨hD1, hD2⟩ | ⟨hE1, hE2⟩
  ·refine L0<|C0 1 rfl<|C1 (cn func92) rfl rfl (rstate_z _ hL hz) fun w3 h3 =>I0 (Bt (L1 rfl rfl) (dA hA1)) rfl<|C0 4 rfl<|Q0 rfl<|I0 (K0 underlying33 rfl rfl (h3.cell hs1)) rfl<|C0 1 rfl<|Q0 rfl<|I0 (W0 underlying33 inf3 rfl rfl (n := k) rfl hkv) rfl<|Q0 rfl<|I0 (R0 (n := eV (t.vs.getD k none)) (I1 (f := Vi) (0 : Int) h3 hrd1 (n := k) hkv underlying3 rfl rfl) (eV_at _ _)) rfl<|Q0 rfl<|I0 (Bt (L1 rfl rfl) (by rw [hA2]; rfl)) rfl<|C0 6 rfl<|E5 rfl rfl rfl<|E5 rfl rfl rfl<|E5 rfl rfl rfl<|E5 rfl rfl rfl<|E5 rfl rfl rfl<|E5 rfl rfl rfl<|E5 rfl rfl rfl<|E5 rfl rfl rfl<|C0 2 rfl<|Wa<|J1 rfl (rfl)<|L0<|C0 4 rfl<|I0 (K0 underlying33 rfl rfl (h3.cell hs0)) rfl<|C0 1 rfl<|I0 (W0 underlying33 inf3 rfl rfl (n := k) rfl (by omega)) rfl<|I0 (I1 (f := Vi) (0 : Int) h3 hrd0 (n := k) (by omega) underlying3 rfl rfl) rfl<|X2 (vs := (([t.ns.getD k 0] : List Int)).map Vi) h3 rfl underlying33 inf3 rfl rfl rfl rfl rfl fun lit50 w4 h4=>I3 (ys := ([t.ns.getD k 0] : List Int)) 1 h4 rfl rfl rfl rfl underlying33 underlying33 (.inr ⟨_, rfl⟩) inf3 rfl hro (Src.lit h4 0 rfl rfl rfl) rfl rfl (by first | omega | (simp [missK, List.length_take]; done) | (simp [missK, List.length_take]; omega)) (by first | omega | (simp [missK, List.length_take]; done) | (simp [missK, List.length_take]; omega)) ?_
   intro r5 v5 w6 hr5 h6
   simp only [lz, ls] at h6
   replace h6 := h6.drop 0
   simp only [ez, es'] at h6
   refine C0 1 rfl<|J0<|N1<|H0<|L0<|C0 1 rfl<|I0 (V0 rfl rfl (by omega)) rfl<|C0 1 rfl<|J0<|F1 (⟨k + 1, r5, _⟩ : Nat × Res × Value) (by show t.ns.length - (k + 1) < t.ns.length - k; omega) ⟨rfl, rfl, rfl, trivial⟩ ⟨by show k + 1 ≤ _; omega, ?_, h6⟩
   have e := (mK (k := k) (by omega) hlv hlc).1 hA1 hA2
   show Row _ _ _ _ (missK t (k + 1))
   rw [e]
   exact hr5
  ·have hB3 := eV_ne hB2
   refine L0<|C0 1 rfl<|C1 (cn func92) rfl rfl (rstate_z _ hL hz) fun w7 h7 =>I0 (Bt (L1 rfl rfl) (dA hB1)) rfl<|C0 4 rfl<|Q0 rfl<|I0 (K0 underlying33 rfl rfl (h7.cell hs1)) rfl<|C0 1 rfl<|Q0 rfl<|I0 (W0 underlying33 inf3 rfl rfl (n := k) rfl hkv) rfl<|Q0 rfl<|I0 (R0 (n := eV (t.vs.getD k none)) (I1 (f := Vi) (0 : Int) h7 hrd1 (n := k) hkv underlying3 rfl rfl) (eV_at _ _)) rfl<|Q0 rfl<|I0 (Bf (L1 rfl rfl) (dN hB3)) rfl<|C0 3 rfl<|Q0 rfl<|C1 (cn func92) rfl rfl (rstate_z _ h7 hz) fun w8 h8 =>Q0 rfl<|I0 (Bf (L1 rfl rfl) (by rw [hB1]; rfl)) rfl<|C0 11 rfl<|Wa<|E1 rfl (rfl)<|U0<|N1<|H0<|L0<|C0 1 rfl<|I0 (V0 rfl rfl (by omega)) rfl<|C0 1 rfl<|J0<|F1 (⟨k + 1, r, _⟩ : Nat × Res × Value) (by show t.ns.length - (k + 1) < t.ns.length - k; omega) ⟨rfl, rfl, rfl, trivial⟩ ⟨by show k + 1 ≤ _; omega, ?_, h8⟩
   have e := (mK (k := k) (by omega) hlv hlc).2.1 hB1 hB2
   show Row _ _ _ _ (missK t (k + 1))
   rw [e]
   exact hro
  ·refine L0<|C0 1 rfl<|C1 (cn func92) rfl rfl (rstate_z _ hL hz) fun w9 h9 =>I0 (Bf (L1 rfl rfl) (by rw [hC1]; rfl)) rfl<|C0 12 rfl<|Q0 rfl<|C1 (cn func92) rfl rfl (rstate_z _ h9 hz) fun w10 h10 =>Q0 rfl<|I0 (Bt (L1 rfl rfl) (dA hC1)) rfl<|C0 4 rfl<|Q0 rfl<|I0 (K0 underlying33 rfl rfl (h10.cell hs2)) rfl<|C0 1 rfl<|Q0 rfl<|I0 (W0 underlying33 inf3 rfl rfl (n := k) rfl hkc) rfl<|Q0 rfl<|I0 (R0 (n := eC (t.cs.getD k none)) (I1 (f := Vi) (0 : Int) h10 hrd2 (n := k) hkc underlying3 rfl rfl) (eC_at hkc2)) rfl<|Q0 rfl<|I0 (Bt (L1 rfl rfl) (by rw [hC2]; rfl)) rfl<|C0 2 rfl<|Wa<|J1 rfl (rfl)<|L0<|C0 4 rfl<|I0 (K0 underlying33 rfl rfl (h10.cell hs0)) rfl<|C0 1 rfl<|I0 (W0 underlying33 inf3 rfl rfl (n := k) rfl (by omega)) rfl<|I0 (I1 (f := Vi) (0 : Int) h10 hrd0 (n := k) (by omega) underlying3 rfl rfl) rfl<|X2 (vs := (([t.ns.getD k 0] : List Int)).map Vi) h10 rfl underlying33 inf3 rfl rfl rfl rfl rfl fun lit50 w11 h11=>I3 (ys := ([t.ns.getD k 0] : List Int)) 1 h11 rfl rfl rfl rfl underlying33 underlying33 (.inr ⟨_, rfl⟩) inf3 rfl hro (Src.lit h11 0 rfl rfl rfl) rfl rfl (by first | omega | (simp [missK, List.length_take]; done) | (simp [missK, List.length_take]; omega)) (by first | omega | (simp [missK, List.length_take]; done) | (simp [missK, List.length_take]; omega)) ?_
   intro r12 v12 w13 hr12 h13
   simp only [lz, ls] at h13
   replace h13 := h13.drop 0
   simp only [ez, es'] at h13
   refine C0 1 rfl<|J0<|N1<|H0<|L0<|C0 1 rfl<|I0 (V0 rfl rfl (by omega)) rfl<|C0 1 rfl<|J0<|F1 (⟨k + 1, r12, _⟩ : Nat × Res × Value) (by show t.ns.length - (k + 1) < t.ns.length - k; omega) ⟨rfl, rfl, rfl, trivial⟩ ⟨by show k + 1 ≤ _; omega, ?_, h13⟩
   have e := (mK (k := k) (by omega) hlv hlc).2.2.1 hC1 hC2
   show Row _ _ _ _ (missK t (k + 1))
   rw [e]
   exact hr12
  ·have hD3 := eC_ne hz.ok hkc2 hD2
   refine L0<|C0 1 rfl<|C1 (cn func92) rfl rfl (rstate_z _ hL hz) fun w14 h14 =>I0 (Bf (L1 rfl rfl) (by rw [hD1]; rfl)) rfl<|C0 12 rfl<|Q0 rfl<|C1 (cn func92) rfl rfl (rstate_z _ h14 hz) fun w15 h15 =>Q0 rfl<|I0 (Bt (L1 rfl rfl) (dA hD1)) rfl<|C0 4 rfl<|Q0 rfl<|I0 (K0 underlying33 rfl rfl (h15.cell hs2)) rfl<|C0 1 rfl<|Q0 rfl<|I0 (W0 underlying33 inf3 rfl rfl (n := k) rfl hkc) rfl<|Q0 rfl<|I0 (R0 (n := eC (t.cs.getD k none)) (I1 (f := Vi) (0 : Int) h15 hrd2 (n := k) hkc underlying3 rfl rfl) (eC_at hkc2)) rfl<|Q0 rfl<|I0 (Bf (L1 rfl rfl) (dN hD3)) rfl<|C0 2 rfl<|Wa<|E1 rfl (rfl)<|U0<|N1<|H0<|L0<|C0 1 rfl<|I0 (V0 rfl rfl (by omega)) rfl<|C0 1 rfl<|J0<|F1 (⟨k + 1, r, _⟩ : Nat × Res × Value) (by show t.ns.length - (k + 1) < t.ns.length - k; omega) ⟨rfl, rfl, rfl, trivial⟩ ⟨by show k + 1 ≤ _; omega, ?_, h15⟩
   have e := (mK (k := k) (by omega) hlv hlc).2.2.2.1 hD1 hD2
   show Row _ _ _ _ (missK t (k + 1))
   rw [e]
   exact hro
  refine L0<|C0 1 rfl<|C1 (cn func92) rfl rfl (rstate_z _ hL hz) fun w16 h16 =>I0 (Bf (L1 rfl rfl) (dN hE1)) rfl<|C0 12 rfl<|Q0 rfl<|C1 (cn func92) rfl rfl (rstate_z _ h16 hz) fun w17 h17 =>Q0 rfl<|I0 (Bf (L1 rfl rfl) (dN hE2)) rfl<|C0 11 rfl<|Wa<|E1 rfl (rfl)<|U0<|N1<|H0<|L0<|C0 1 rfl<|I0 (V0 rfl rfl (by omega)) rfl<|C0 1 rfl<|J0<|F1 (⟨k + 1, r, _⟩ : Nat × Res × Value) (by show t.ns.length - (k + 1) < t.ns.length - k; omega) ⟨rfl, rfl, rfl, trivial⟩ ⟨by show k + 1 ≤ _; omega, ?_, h17⟩
  have e := (mK (k := k) (by omega) hlv hlc).2.2.2.2 hE1 hE2
  show Row _ _ _ _ (missK t (k + 1))
  rw [e]
  exact hro
 try simp only [DD] at c2
 refine U1<|B2<|WX.cut<|E2<|H0<|Wi<|C0 2 rfl<|J0 (H0 (O1 ?_))
 obtain rfl : k = t.ns.length := by omega
 have e : missK t t.ns.length = t.missing := by
  unfold missK T.missing
  rw [List.take_of_length_le (Nat.le_refl _), List.take_of_length_le (by omega), List.take_of_length_le (by omega)]
 exact ret1 rfl rfl ⟨_, _, rfl, by rw [← e]; exact hro, hL⟩
theorem rmiss_r (w : World) {b i j bv bc : Nat} {zv zc : List Value} {fv fc : Nat × Nat} {t : T} (h : St W F cs w) (hr : RR F cs b i j bv bc zv zc fv fc t) : Calls prog 91 #[pz b] w (Gives W F cs Vi t.missing) := by
 obtain ⟨G, cs', hle, hz, hs, back⟩ := hr.use h
 exact (rmiss_z w hs hz).mono fun e w' ⟨r, v, h1, h2, h3⟩ => by subst h1; exact h2.gives (back [r] w' h3)
theorem rvote_r (w : World) (n : Int) (y : Bool) {b i j bv bc : Nat} {zv zc : List Value} {fv fc : Nat × Nat} {t : T} (h : St W F cs w) (hr : RR F cs b i j bv bc zv zc fv fc t) : Calls prog 113 #[pz b, Vi n, .bool y] w fun e w' => e = .returned (Vi (t.vote n y).1) ∧ RR F (cs.set i [(bv, .cells (((t.vote n y).2.vs.map eV).map Vi ++ zv).toArray 3 fv)]) b i j bv bc zv zc fv fc (t.vote n y).2 ∧ St W F (cs.set i [(bv, .cells (((t.vote n y).2.vs.map eV).map Vi ++ zv).toArray 3 fv)]) w'  := by
 refine enter (args := [pz b, Vi n, .bool y]) func113 rfl rfl rfl ?_
 obtain ⟨A0, cap0, hs0, hR0⟩ := hr.s0
 have hlv := hr.lv
 have hlc := hr.lc
 have hsm := hr.small
 refine Wi<|C0 1 rfl<|We<|C0 2 rfl<|V1 (cn func149) rfl rfl (at_c _ n h hs0 hR0 (by omega)) ?_
 rintro _ w1 ⟨v, rfl, hat, h1⟩
 refine ⟨_, rfl,C0 1 rfl<|Wh<|C0 2 rfl<|Wa<|Z0 rfl (fun c2 => ?_) (fun c2 => ?_)⟩
 ·try simp only [DD] at c2
  refine Wi<|C0 1 rfl<|J0 (H0 (O1 ?_))
  have hno : n ∉ t.ns := by
   rcases hat with ⟨_, h⟩ | ⟨k, rfl, _⟩
   ·exact h
   omega
  rw [vote_none hno]
  refine ret1 rfl rfl ⟨rfl, ?_, ?_⟩
  ·rw [set_self hr.iv]; exact hr
  rw [set_self hr.iv]; exact h1
 try simp only [DD] at c2
 refine U0 (H0 (N0 ?_))
 obtain ⟨k, rfl, hk, rfl⟩ : ∃ k : Nat, v = (k : Int) ∧ k < t.ns.length ∧ t.ns.getD k 0 = n := by
  rcases hat with ⟨rfl, _⟩ | hat
  ·omega
  exact hat
 have hkv : k < (t.vs.map eV).length := by rw [List.length_map]; omega
 have hkc : k < (t.cs.map eC).length := by rw [List.length_map]; omega
 have hkv2 : k < t.vs.length := by omega
 have hkc2 : k < t.cs.length := by omega
 refine L0<|C0 1 rfl<|Wh<|C0 1 rfl<|Wa<|Z0 rfl (fun c3 => ?_) (fun c3 => ?_)
 ·try simp only [DD] at c3
  refine L0<|C0 1 rfl<|Wh<|C0 3 rfl<|I0 (K0 underlying33 rfl rfl (h1.cell hr.s1)) rfl<|C0 1 rfl<|I0 (X1 (u := .pointer (some ⟨bv, k, none⟩)) (O4 underlying33 inf3 rfl rfl ⟨by omega, by omega⟩) (by rw [add_mk, Nat.mul_one, Nat.zero_add]; rfl)) rfl<|I0 (R0 (n := eV (t.vs.getD k none)) (K0 underlying3 rfl rfl (h1.ocell hr.iv (rowI_at eV t.vs none zv hkv2))) rfl) rfl<|C0 2 rfl<|Wa<|Z0 rfl (fun c4 => ?_) (fun c4 => ?_)
  ·try simp only [DD] at c4
   refine Wi<|C0 1 rfl<|J0 (H0 (O1 ?_))
   have hy : y = true := c3
   have ho1 : t.vs.getD k none = some y := eV_inj (by rw [hy]; exact c4)
   rw [vote_same hr.nd hlv hk ho1]
   refine ret1 rfl rfl ⟨rfl, ?_, ?_⟩
   ·rw [set_self hr.iv]; exact hr
   rw [set_self hr.iv]; exact h1
  try simp only [DD] at c4
  refine U0 (H0 (N0 (N0 ?_)))
  by_cases ho : t.vs.getD k none = none
  ·refine L0<|C0 3 rfl<|I0 (K0 underlying33 rfl rfl (h1.cell hr.s1)) rfl<|C0 1 rfl<|I0 (X1 (u := .pointer (some ⟨bv, k, none⟩)) (O4 underlying33 inf3 rfl rfl ⟨by omega, by omega⟩) (by rw [add_mk, Nat.mul_one, Nat.zero_add]; rfl)) rfl<|I0 (R0 (n := eV (t.vs.getD k none)) (K0 underlying3 rfl rfl (h1.ocell hr.iv (rowI_at eV t.vs none zv hkv2))) rfl) rfl<|I0 (Bf (J2 rfl rfl) (by rw [ho]; rfl)) rfl<|C0 2 rfl<|Q0 rfl<|C1 (cn func92) rfl rfl (rstate_r _ h1 hr) fun w5 h5 =>C0 2 rfl<|Wa<|Z0 rfl (fun c6 => ?_) (fun c6 => ?_)
   ·try simp only [DD] at c6
    refine Wi<|C0 1 rfl<|J0 (H0 (O1 ?_))
    have hy : y = true := c3
    have ho1 : t.vs.getD k none ≠ some y := fun e => c4 (by rw [e, hy]; rfl)
    have hbad := vote_bad (y := y) hr.nd hlv hk ho1 (.inr c6)
    rw [hbad]
    refine ret1 rfl rfl ⟨rfl, ?_, ?_⟩
    ·rw [set_self hr.iv]; exact hr
    rw [set_self hr.iv]; exact h5
   try simp only [DD] at c6
   refine Wk<|C0 3 rfl<|I0 (K0 underlying33 rfl rfl (h5.cell hr.s1)) rfl<|C0 2 rfl<|I0 (X1 (u := .pointer (some ⟨bv, k, none⟩)) (O4 underlying33 inf3 rfl rfl ⟨by omega, by omega⟩) (by rw [add_mk, Nat.mul_one, Nat.zero_add]; rfl)) rfl<|E4 h5 i (f := Vi) (xs := t.vs.map eV) (u := eV (some y)) (zs := zv) hr.iv rfl (by rw [show y = true from c3]; rfl) inf3 rfl hr.hv hkv ?_
   intro  w7 h7
   try simp only [ZZ] at h7
   refine We<|C0 1 rfl<|J0 (H0 (O1 ?_))
   have h0 : t.state = 0 := c6
   have hok := vote_ok (y := y) hr.nd hlv hk ho h0
   rw [hok]
   have hS := h7
   rw [getD_set_map eV] at hS
   exact ret1 rfl rfl ⟨rfl, hr.vote (by simp), hS⟩
  have ho3 := eV_ne ho
  refine L0<|C0 3 rfl<|I0 (K0 underlying33 rfl rfl (h1.cell hr.s1)) rfl<|C0 1 rfl<|I0 (X1 (u := .pointer (some ⟨bv, k, none⟩)) (O4 underlying33 inf3 rfl rfl ⟨by omega, by omega⟩) (by rw [add_mk, Nat.mul_one, Nat.zero_add]; rfl)) rfl<|I0 (R0 (n := eV (t.vs.getD k none)) (K0 underlying3 rfl rfl (h1.ocell hr.iv (rowI_at eV t.vs none zv hkv2))) rfl) rfl<|I0 (Bt (J2 rfl rfl) (by rw [dN ho3]; rfl)) rfl<|C0 5 rfl<|Wa<|J1 rfl (rfl)<|Wi<|C0 1 rfl<|J0 (H0 (O1 ?_))
  have hy : y = true := c3
  have ho1 : t.vs.getD k none ≠ some y := fun e => c4 (by rw [e, hy]; rfl)
  have hbad := vote_bad (y := y) hr.nd hlv hk ho1 (.inl ho)
  rw [hbad]
  refine ret1 rfl rfl ⟨rfl, ?_, ?_⟩
  ·rw [set_self hr.iv]; exact hr
  rw [set_self hr.iv]; exact h1
 try simp only [DD] at c3
 refine U0<|H0<|N0<|Wi<|C0 3 rfl<|I0 (K0 underlying33 rfl rfl (h1.cell hr.s1)) rfl<|C0 1 rfl<|I0 (X1 (u := .pointer (some ⟨bv, k, none⟩)) (O4 underlying33 inf3 rfl rfl ⟨by omega, by omega⟩) (by rw [add_mk, Nat.mul_one, Nat.zero_add]; rfl)) rfl<|I0 (R0 (n := eV (t.vs.getD k none)) (K0 underlying3 rfl rfl (h1.ocell hr.iv (rowI_at eV t.vs none zv hkv2))) rfl) rfl<|C0 2 rfl<|Wa<|Z0 rfl (fun c8 => ?_) (fun c8 => ?_)
 ·try simp only [DD] at c8
  refine Wi<|C0 1 rfl<|J0 (H0 (O1 ?_))
  have hy : y = false := c3
  have ho1 : t.vs.getD k none = some y := eV_inj (by rw [hy]; exact c8)
  rw [vote_same hr.nd hlv hk ho1]
  refine ret1 rfl rfl ⟨rfl, ?_, ?_⟩
  ·rw [set_self hr.iv]; exact hr
  rw [set_self hr.iv]; exact h1
 try simp only [DD] at c8
 refine U0 (H0 (N0 (N0 ?_)))
 by_cases ho : t.vs.getD k none = none
 ·refine L0<|C0 3 rfl<|I0 (K0 underlying33 rfl rfl (h1.cell hr.s1)) rfl<|C0 1 rfl<|I0 (X1 (u := .pointer (some ⟨bv, k, none⟩)) (O4 underlying33 inf3 rfl rfl ⟨by omega, by omega⟩) (by rw [add_mk, Nat.mul_one, Nat.zero_add]; rfl)) rfl<|I0 (R0 (n := eV (t.vs.getD k none)) (K0 underlying3 rfl rfl (h1.ocell hr.iv (rowI_at eV t.vs none zv hkv2))) rfl) rfl<|I0 (Bf (J2 rfl rfl) (by rw [ho]; rfl)) rfl<|C0 2 rfl<|Q0 rfl<|C1 (cn func92) rfl rfl (rstate_r _ h1 hr) fun w9 h9 =>C0 2 rfl<|Wa<|Z0 rfl (fun c10 => ?_) (fun c10 => ?_)
  ·try simp only [DD] at c10
   refine Wi<|C0 1 rfl<|J0 (H0 (O1 ?_))
   have hy : y = false := c3
   have ho1 : t.vs.getD k none ≠ some y := fun e => c8 (by rw [e, hy]; rfl)
   have hbad := vote_bad (y := y) hr.nd hlv hk ho1 (.inr c10)
   rw [hbad]
   refine ret1 rfl rfl ⟨rfl, ?_, ?_⟩
   ·rw [set_self hr.iv]; exact hr
   rw [set_self hr.iv]; exact h9
  try simp only [DD] at c10
  refine Wk<|C0 3 rfl<|I0 (K0 underlying33 rfl rfl (h9.cell hr.s1)) rfl<|C0 2 rfl<|I0 (X1 (u := .pointer (some ⟨bv, k, none⟩)) (O4 underlying33 inf3 rfl rfl ⟨by omega, by omega⟩) (by rw [add_mk, Nat.mul_one, Nat.zero_add]; rfl)) rfl<|E4 h9 i (f := Vi) (xs := t.vs.map eV) (u := eV (some y)) (zs := zv) hr.iv rfl (by rw [show y = false from c3]; rfl) inf3 rfl hr.hv hkv ?_
  intro  w11 h11
  try simp only [ZZ] at h11
  refine We<|C0 1 rfl<|J0 (H0 (O1 ?_))
  have h0 : t.state = 0 := c10
  have hok := vote_ok (y := y) hr.nd hlv hk ho h0
  rw [hok]
  have hS := h11
  rw [getD_set_map eV] at hS
  exact ret1 rfl rfl ⟨rfl, hr.vote (by simp), hS⟩
 have ho3 := eV_ne ho
 refine L0<|C0 3 rfl<|I0 (K0 underlying33 rfl rfl (h1.cell hr.s1)) rfl<|C0 1 rfl<|I0 (X1 (u := .pointer (some ⟨bv, k, none⟩)) (O4 underlying33 inf3 rfl rfl ⟨by omega, by omega⟩) (by rw [add_mk, Nat.mul_one, Nat.zero_add]; rfl)) rfl<|I0 (R0 (n := eV (t.vs.getD k none)) (K0 underlying3 rfl rfl (h1.ocell hr.iv (rowI_at eV t.vs none zv hkv2))) rfl) rfl<|I0 (Bt (J2 rfl rfl) (by rw [dN ho3]; rfl)) rfl<|C0 5 rfl<|Wa<|J1 rfl (rfl)<|Wi<|C0 1 rfl<|J0 (H0 (O1 ?_))
 have hy : y = false := c3
 have ho1 : t.vs.getD k none ≠ some y := fun e => c8 (by rw [e, hy]; rfl)
 have hbad := vote_bad (y := y) hr.nd hlv hk ho1 (.inl ho)
 rw [hbad]
 refine ret1 rfl rfl ⟨rfl, ?_, ?_⟩
 ·rw [set_self hr.iv]; exact hr
 rw [set_self hr.iv]; exact h1
theorem eC_some {o : Option Int} {c : Int} (hc : c ≠ -1) (h : eC o = c) : o = some c := by
 cases o with
 |none => exact absurd h.symm hc
 |some x => exact congrArg some h
theorem rexit_b (w : World) (n c : Int) {b i j bv bc : Nat} {zv zc : List Value} {fv fc : Nat × Nat} {t : T} (h : St W F cs w) (hr : RR F cs b i j bv bc zv zc fv fc t) (hb : c < 0 ∨ 255 < c) : Calls prog 114 #[pz b, Vi n, Vi c] w fun e w' => e = .returned (Vi (t.exit n c).1) ∧ RR F (cs.set j [(bc, .cells (((t.exit n c).2.cs.map eC).map Vi ++ zc).toArray 3 fc)]) b i j bv bc zv zc fv fc (t.exit n c).2 ∧ St W F (cs.set j [(bc, .cells (((t.exit n c).2.cs.map eC).map Vi ++ zc).toArray 3 fc)]) w'  := by
 refine enter (args := [pz b, Vi n, Vi c]) func114 rfl rfl rfl ?_
 obtain ⟨A0, cap0, hs0, hR0⟩ := hr.s0
 have hlv := hr.lv
 have hlc := hr.lc
 have hsm := hr.small
 refine Wi<|C0 1 rfl<|We<|C0 2 rfl<|V1 (cn func149) rfl rfl (at_c _ n h hs0 hR0 (by omega)) ?_
 rintro _ w1 ⟨v, rfl, hat, h1⟩
 refine ⟨_, rfl,C0 1 rfl<|J0 (H0 (N0 (N0 ?_)))⟩
 have hcase : v < 0 ∨ (0 ≤ v ∧ c < 0) ∨ (0 ≤ v ∧ 0 ≤ c ∧ 255 < c) := by omega
 rcases hcase with hA | hB | hC
 ·refine L0<|C0 1 rfl<|I0 (Bt (Q1 rfl rfl) (dA (by omega))) rfl<|C0 8 rfl<|Wa<|J1 rfl (rfl)<|Wi<|C0 1 rfl<|J0 (H0 (O1 ?_))
  rw [exit_no hb]
  refine ret1 rfl rfl ⟨rfl, ?_, ?_⟩
  ·rw [set_self hr.ic]; exact hr
  rw [set_self hr.ic]; exact h1
 ·refine L0<|C0 1 rfl<|I0 (Bf (Q1 rfl rfl) (dN (by omega))) rfl<|C0 2 rfl<|Q0 rfl<|I0 (Bt (Q1 rfl rfl) (dA (by omega))) rfl<|C0 5 rfl<|Wa<|J1 rfl (rfl)<|Wi<|C0 1 rfl<|J0 (H0 (O1 ?_))
  rw [exit_no hb]
  refine ret1 rfl rfl ⟨rfl, ?_, ?_⟩
  ·rw [set_self hr.ic]; exact hr
  rw [set_self hr.ic]; exact h1
 refine L0<|C0 1 rfl<|I0 (Bf (Q1 rfl rfl) (dN (by omega))) rfl<|C0 2 rfl<|Q0 rfl<|I0 (Bf (Q1 rfl rfl) (dN (by omega))) rfl<|C0 3 rfl<|Q0 rfl<|I0 (Bt (Y1 rfl rfl) (dA (by omega))) rfl<|C0 1 rfl<|Wa<|J1 rfl (rfl)<|Wi<|C0 1 rfl<|J0 (H0 (O1 ?_))
 rw [exit_no hb]
 refine ret1 rfl rfl ⟨rfl, ?_, ?_⟩
 ·rw [set_self hr.ic]; exact hr
 rw [set_self hr.ic]; exact h1
theorem rexit_g (w : World) (n c : Int) {b i j bv bc : Nat} {zv zc : List Value} {fv fc : Nat × Nat} {t : T} (h : St W F cs w) (hr : RR F cs b i j bv bc zv zc fv fc t) (h0 : 0 ≤ c) (h1 : c ≤ 255) : Calls prog 114 #[pz b, Vi n, Vi c] w fun e w' => e = .returned (Vi (t.exit n c).1) ∧ RR F (cs.set j [(bc, .cells (((t.exit n c).2.cs.map eC).map Vi ++ zc).toArray 3 fc)]) b i j bv bc zv zc fv fc (t.exit n c).2 ∧ St W F (cs.set j [(bc, .cells (((t.exit n c).2.cs.map eC).map Vi ++ zc).toArray 3 fc)]) w'  := by
 refine enter (args := [pz b, Vi n, Vi c]) func114 rfl rfl rfl ?_
 obtain ⟨A0, cap0, hs0, hR0⟩ := hr.s0
 have hlv := hr.lv
 have hlc := hr.lc
 have hsm := hr.small
 refine Wi<|C0 1 rfl<|We<|C0 2 rfl<|V1 (cn func149) rfl rfl (at_c _ n h hs0 hR0 (by omega)) ?_
 rintro _ w1 ⟨v, rfl, hat, h1⟩
 refine ⟨_, rfl,C0 1 rfl<|J0 (H0 (N0 (N0 ?_)))⟩
 have hb : ¬ (c < 0 ∨ 255 < c) := by omega
 have hcase : v < 0 ∨ 0 ≤ v := by omega
 rcases hcase with hA | hB
 ·refine L0<|C0 1 rfl<|I0 (Bt (Q1 rfl rfl) (dA (by omega))) rfl<|C0 8 rfl<|Wa<|J1 rfl (rfl)<|Wi<|C0 1 rfl<|J0 (H0 (O1 ?_))
  have hno : n ∉ t.ns := by
   rcases hat with ⟨_, h⟩ | ⟨k, rfl, _⟩
   ·exact h
   omega
  rw [exit_none hno]
  refine ret1 rfl rfl ⟨rfl, ?_, ?_⟩
  ·rw [set_self hr.ic]; exact hr
  rw [set_self hr.ic]; exact h1
 refine L0<|C0 1 rfl<|I0 (Bf (Q1 rfl rfl) (dN (by omega))) rfl<|C0 2 rfl<|Q0 rfl<|I0 (Bf (Q1 rfl rfl) (dN (by omega))) rfl<|C0 3 rfl<|Q0 rfl<|I0 (Bf (Y1 rfl rfl) (dN (by omega))) rfl<|C0 1 rfl<|Wa<|E1 rfl (rfl)<|U0 (H0 (N0 (N0 ?_)))
 obtain ⟨k, rfl, hk, rfl⟩ : ∃ k : Nat, v = (k : Int) ∧ k < t.ns.length ∧ t.ns.getD k 0 = n := by
  rcases hat with ⟨rfl, _⟩ | hat
  ·omega
  exact hat
 have hkv : k < (t.vs.map eV).length := by rw [List.length_map]; omega
 have hkc : k < (t.cs.map eC).length := by rw [List.length_map]; omega
 have hkv2 : k < t.vs.length := by omega
 have hkc2 : k < t.cs.length := by omega
 refine L0<|C0 3 rfl<|I0 (K0 underlying33 rfl rfl (h1.cell hr.s2)) rfl<|C0 1 rfl<|I0 (X1 (u := .pointer (some ⟨bc, k, none⟩)) (O4 underlying33 inf3 rfl rfl ⟨by omega, by omega⟩) (by rw [add_mk, Nat.mul_one, Nat.zero_add]; rfl)) rfl<|I0 (R0 (n := eC (t.cs.getD k none)) (K0 underlying3 rfl rfl (h1.ocell hr.ic (rowI_at eC t.cs none zc hkc2))) rfl) rfl<|C0 2 rfl<|Wa<|Z0 rfl (fun c2 => ?_) (fun c2 => ?_)
 ·try simp only [DD] at c2
  refine Wi<|C0 1 rfl<|J0 (H0 (O1 ?_))
  have ho1 : t.cs.getD k none = some c := eC_some (by omega) c2
  rw [exit_same hb hr.nd hlc hk ho1]
  refine ret1 rfl rfl ⟨rfl, ?_, ?_⟩
  ·rw [set_self hr.ic]; exact hr
  rw [set_self hr.ic]; exact h1
 try simp only [DD] at c2
 refine U0 (H0 (N0 (N0 ?_)))
 by_cases ho : t.cs.getD k none = none
 ·refine L0<|C0 3 rfl<|I0 (K0 underlying33 rfl rfl (h1.cell hr.s2)) rfl<|C0 1 rfl<|I0 (X1 (u := .pointer (some ⟨bc, k, none⟩)) (O4 underlying33 inf3 rfl rfl ⟨by omega, by omega⟩) (by rw [add_mk, Nat.mul_one, Nat.zero_add]; rfl)) rfl<|I0 (R0 (n := eC (t.cs.getD k none)) (K0 underlying3 rfl rfl (h1.ocell hr.ic (rowI_at eC t.cs none zc hkc2))) rfl) rfl<|I0 (Bf (J2 rfl rfl) (by rw [ho]; rfl)) rfl<|C0 2 rfl<|Q0 rfl<|C1 (cn func92) rfl rfl (rstate_r _ h1 hr) fun w3 h3 =>C0 2 rfl<|Wa<|Z0 rfl (fun c4 => ?_) (fun c4 => ?_)
  ·try simp only [DD] at c4
   refine Wi<|C0 1 rfl<|J0 (H0 (O1 ?_))
   have ho1 : t.cs.getD k none ≠ some c := fun e => c2 (by rw [e]; rfl)
   have hbad := exit_bad (c := c) hb hr.nd hlc hk ho1 (.inr c4)
   rw [hbad]
   refine ret1 rfl rfl ⟨rfl, ?_, ?_⟩
   ·rw [set_self hr.ic]; exact hr
   rw [set_self hr.ic]; exact h3
  try simp only [DD] at c4
  refine Wk<|C0 3 rfl<|I0 (K0 underlying33 rfl rfl (h3.cell hr.s2)) rfl<|C0 2 rfl<|I0 (X1 (u := .pointer (some ⟨bc, k, none⟩)) (O4 underlying33 inf3 rfl rfl ⟨by omega, by omega⟩) (by rw [add_mk, Nat.mul_one, Nat.zero_add]; rfl)) rfl<|E4 h3 j (f := Vi) (xs := t.cs.map eC) (u := eC (some c)) (zs := zc) hr.ic rfl rfl inf3 rfl hr.hc hkc ?_
  intro  w5 h5
  try simp only [ZZ] at h5
  refine We<|C0 1 rfl<|J0 (H0 (O1 ?_))
  have hok := exit_ok (c := c) hb hr.nd hlc hk ho c4
  rw [hok]
  have hS := h5
  rw [getD_set_map eC] at hS
  refine ret1 rfl rfl ⟨rfl, hr.exit (by simp) (fun c' hc' => ?_), hS⟩
  rcases List.mem_or_eq_of_mem_set hc' with h' | h'
  ·exact hr.ok c' h'
  injection h' with h'; omega
 have ho3 := eC_ne hr.ok hkc2 ho
 refine L0<|C0 3 rfl<|I0 (K0 underlying33 rfl rfl (h1.cell hr.s2)) rfl<|C0 1 rfl<|I0 (X1 (u := .pointer (some ⟨bc, k, none⟩)) (O4 underlying33 inf3 rfl rfl ⟨by omega, by omega⟩) (by rw [add_mk, Nat.mul_one, Nat.zero_add]; rfl)) rfl<|I0 (R0 (n := eC (t.cs.getD k none)) (K0 underlying3 rfl rfl (h1.ocell hr.ic (rowI_at eC t.cs none zc hkc2))) rfl) rfl<|I0 (Bt (J2 rfl rfl) (by rw [dN ho3]; rfl)) rfl<|C0 5 rfl<|Wa<|J1 rfl (rfl)<|Wi<|C0 1 rfl<|J0 (H0 (O1 ?_))
 have ho1 : t.cs.getD k none ≠ some c := fun e => c2 (by rw [e]; rfl)
 have hbad := exit_bad (c := c) hb hr.nd hlc hk ho1 (.inl ho)
 rw [hbad]
 refine ret1 rfl rfl ⟨rfl, ?_, ?_⟩
 ·rw [set_self hr.ic]; exact hr
 rw [set_self hr.ic]; exact h1
theorem rexit_r (w : World) (n c : Int) {b i j bv bc : Nat} {zv zc : List Value} {fv fc : Nat × Nat} {t : T} (h : St W F cs w) (hr : RR F cs b i j bv bc zv zc fv fc t) : Calls prog 114 #[pz b, Vi n, Vi c] w fun e w' => e = .returned (Vi (t.exit n c).1) ∧ RR F (cs.set j [(bc, .cells (((t.exit n c).2.cs.map eC).map Vi ++ zc).toArray 3 fc)]) b i j bv bc zv zc fv fc (t.exit n c).2 ∧ St W F (cs.set j [(bc, .cells (((t.exit n c).2.cs.map eC).map Vi ++ zc).toArray 3 fc)]) w' := by
 by_cases hb : c < 0 ∨ 255 < c
 ·exact rexit_b w n c h hr hb
 exact rexit_g w n c h hr (by omega) (by omega)
structure Op' where
 v : Bool
 n : Int
 y : Bool
 c : Int
def T.does (t : T) (o : Op') : T := if o.v then (t.vote o.n o.y).2 else (t.exit o.n o.c).2
def okN (ns : List Int) : Prop := 0 < ns.length ∧ oks ns
theorem okp_all {ns : List Int} (h : okp ns ns.length) : oks ns := h
theorem last_step {ns : List Int} {k : Nat} (h : okp ns k) (h1 : ¬ ns.getD k 0 ≤ last_ ns k) (h2 : ¬ 16 ≤ ns.getD k 0) : okp ns (k + 1) := by
 unfold last_ at h1
 by_cases e : k = 0
 ·subst e
  rw [if_pos rfl] at h1
  exact okp_succ h (by omega) (by omega)
 rw [if_neg e] at h1
 have := (h.1 (k - 1) (by omega)).1
 exact okp_succ h (by omega) (by omega)
theorem new_no (w : World) {A : Option Addr} {cap : Nat} {ns : List Int} (h : St W F cs w) (hR : RdS (Kd.one Vi) F A ns) (hn : ns.length ≤ 100000) (hno : ¬ okN ns) : Calls prog 97 #[.slice A ns.length cap] w fun e w' => e = .returned (.pointer none) ∧ St W F cs w'  := by
 refine enter (args := [.slice A ns.length cap]) func97 rfl rfl rfl<|Wi<|C0 1 rfl<|We<|C0 1 rfl<|Wh<|C0 1 rfl<|I0 (Y0 underlying33 rfl rfl) rfl<|C0 1 rfl<|Wj<|B3 (σ := Nat) (fun q_ => [(0, .slice A ns.length cap), (3, Vi (last_ ns q_)), (6, .slice A ns.length cap), (7, .int .i64 (ns.length : Int)), (8, .int .i64 (q_ : Int))]) (fun q_ w => q_ ≤ ns.length ∧ okp ns q_ ∧ St W F cs w) (fun q_ => ns.length - q_) (0) (⟨by omega, ⟨fun j hj => absurd hj (Nat.not_lt_zero _), fun j hj => absurd hj (Nat.not_lt_zero _)⟩, h⟩) ?_
 rintro k w1 ⟨hk1, hok, hL⟩
 try dsimp only at hk1 hok hL
 refine W2 [(0, .slice A ns.length cap), (3, Vi (last_ ns k)), (6, .slice A ns.length cap), (7, .int .i64 (ns.length : Int)), (8, .int .i64 (k : Int))]<|Wi<|C0 1 rfl<|Wb<|Z0 rfl (fun c2 => ?_) (fun c2 => ?_)
 ·try simp only [DD] at c2
  refine U0 (H0 (N0 (M1 (N0 ?_))))
  obtain ⟨ad, rfl, hrd⟩ := rd1 hR (by omega)
  refine L0<|I0 (W0 underlying33 inf3 rfl rfl (n := k) rfl (by omega)) rfl<|I0 (I1 (f := Vi) (0 : Int) hL hrd (n := k) (by omega) underlying3 rfl rfl) rfl<|C0 1 rfl<|J0 (H0 (N0 (N0 ?_)))
  have hcase : ns.getD k 0 ≤ last_ ns k ∨ (¬ ns.getD k 0 ≤ last_ ns k ∧ 16 ≤ ns.getD k 0) ∨ (¬ ns.getD k 0 ≤ last_ ns k ∧ ¬ 16 ≤ ns.getD k 0) := by omega
  rcases hcase with hA | hB | hC
  ·refine L0<|C0 2 rfl<|I0 (Bt (Z1 rfl rfl) (dA hA)) rfl<|C0 4 rfl<|Wa<|J1 rfl (rfl)<|Wi<|C0 1 rfl<|Wg<|ret1 rfl rfl ⟨rfl, hL⟩
  ·refine L0<|C0 2 rfl<|I0 (Bf (Z1 rfl rfl) (dN hB.1)) rfl<|C0 2 rfl<|Q0 rfl<|I0 (Bt (T1 rfl rfl) (dA hB.2)) rfl<|C0 1 rfl<|Wa<|J1 rfl (rfl)<|Wi<|C0 1 rfl<|Wg<|ret1 rfl rfl ⟨rfl, hL⟩
  refine L0<|C0 2 rfl<|I0 (Bf (Z1 rfl rfl) (dN hC.1)) rfl<|C0 2 rfl<|Q0 rfl<|I0 (Bf (T1 rfl rfl) (dN hC.2)) rfl<|C0 1 rfl<|Wa<|E1 rfl (rfl)<|U0<|H0<|L0<|C0 2 rfl<|J0<|N1<|H0<|L0<|I0 (V0 rfl rfl (by omega)) rfl<|C0 1 rfl<|J0<|F1 (k + 1) (by omega) ⟨rfl, rfl, rfl, rfl, rfl, trivial⟩ ⟨by omega, last_step hok hC.1 hC.2, hL⟩
 try simp only [DD] at c2
 refine U1<|B2<|WX.cut<|E2<|H0<|N0<|N0 ?_
 obtain rfl : k = ns.length := by omega
 have h0 : ns.length = 0 := by
  by_cases h0 : 0 < ns.length
  ·exact absurd ⟨h0, okp_all hok⟩ hno
  omega
 refine L0<|C0 1 rfl<|I0 (Y0 underlying33 rfl rfl) rfl<|I0 (Bt (L1 rfl rfl) (dA (by omega))) rfl<|Wa<|J1 rfl (rfl)<|Wi<|C0 1 rfl<|Wg<|ret1 rfl rfl ⟨rfl, hL⟩
theorem rnew_l (w : World) {A : Option Addr} {cap : Nat} {ns : List Int} (h : St W F cs w) (hb : ns.length < 1 ∨ 16 < ns.length) : Calls prog 63 #[.slice A ns.length cap] w fun e w' => e = .returned (.pointer none) ∧ St W F cs w'  := by
 refine enter (args := [.slice A ns.length cap]) func63 rfl rfl rfl<|Wi<|C0 1 rfl<|J0 (H0 (N0 (N0 ?_)))
 have hcase : ns.length < 1 ∨ (¬ ns.length < 1 ∧ 16 < ns.length) := by omega
 rcases hcase with hA | hB
 ·refine L0<|C0 1 rfl<|I0 (Y0 underlying33 rfl rfl) rfl<|I0 (Bt (Q1 rfl rfl) (dA (by omega))) rfl<|C0 5 rfl<|Wa<|J1 rfl (rfl)<|Wi<|C0 1 rfl<|Wg<|ret1 rfl rfl ⟨rfl, h⟩
 refine L0<|C0 1 rfl<|I0 (Y0 underlying33 rfl rfl) rfl<|I0 (Bf (Q1 rfl rfl) (dN (by omega))) rfl<|C0 2 rfl<|Q0 rfl<|I0 (Y0 underlying33 rfl rfl) rfl<|Q0 rfl<|I0 (Bt (Y1 rfl rfl) (dA (by omega))) rfl<|C0 1 rfl<|Wa<|J1 rfl (rfl)<|Wi<|C0 1 rfl<|Wg<|ret1 rfl rfl ⟨rfl, h⟩
theorem rnew_no (w : World) {A : Option Addr} {cap : Nat} {ns : List Int} (h : St W F cs w) (hR : RdS (Kd.one Vi) F A ns) (hno : ¬ okN ns) : Calls prog 63 #[.slice A ns.length cap] w fun e w' => e = .returned (.pointer none) ∧ St W F cs w' := by
 by_cases hb : ns.length < 1 ∨ 16 < ns.length
 ·exact rnew_l w h hb
 exact (rnew_c w h hR (by omega) (by omega)).mono fun e w' hh => by
  rcases hh with ⟨_, h1, h2⟩ | ⟨h1, _⟩
  ·exact ⟨h1, h2⟩
  exact absurd ⟨by omega, h1⟩ hno
def T.new (ns : List Int) : T := ⟨ns, ns.map fun _ => none, ns.map fun _ => none⟩
theorem Row.blkI {E : Nat} {r : Res} {v : Value} {xs : List Int} (h : Row E Vi r v xs) (h0 : 0 < xs.length) : ∃ b zs fz, r = [(b, .cells (xs.map Vi ++ zs).toArray E fz)] ∧ v = .slice (.some ⟨b, 0, none⟩) xs.length (xs.length + zs.length) ∧ Free fz (xs.length + zs.length) := Row.blk h h0
theorem rnew_y (w : World) {A : Option Addr} {cap : Nat} {ns : List Int} (h : St W F cs w) (hR : RdS (Kd.one Vi) F A ns) (hok : okN ns) : Calls prog 63 #[.slice A ns.length cap] w fun e w' => ∃ G b bv bc zv zc fv fc, Le F G ∧ e = .returned (pz b) ∧ St W G ([(bv, .cells (((T.new ns).vs.map eV).map Vi ++ zv).toArray 3 fv)] :: [(bc, .cells (((T.new ns).cs.map eC).map Vi ++ zc).toArray 3 fc)] :: cs) w' ∧ RR G ([(bv, .cells (((T.new ns).vs.map eV).map Vi ++ zv).toArray 3 fv)] :: [(bc, .cells (((T.new ns).cs.map eC).map Vi ++ zc).toArray 3 fc)] :: cs) b 0 1 bv bc zv zc fv fc (T.new ns) := by
 have hl := oks_len hok.2
 refine (rnew_c w h hR hok.1 hl).mono fun e w' hh => ?_
 rcases hh with ⟨h1, _⟩ | ⟨_, b, rN, vN, rV, vV, rC, vC, rfl, h1, h2, h3, h4⟩
 ·exact absurd hok.2 h1
 obtain ⟨G1, l1, g1, S1⟩ := h4.freeze (i := 0) rfl
 have hb := g1 _ List.mem_cons_self
 have S1' : St W G1 (rN :: rV :: rC :: cs) w' := S1
 obtain ⟨G2, A2, cap2, l2, e2, _, hR2, S2⟩ := Row.gives h1 S1'
 injection e2 with e2
 subst e2
 obtain ⟨bv, zv, fv, rfl, rfl, hfv⟩ := Row.blkI h2 (by rw [List.length_map]; exact hok.1)
 obtain ⟨bc, zc, fc, rfl, rfl, hfc⟩ := Row.blkI h3 (by rw [List.length_map]; exact hok.1)
 have ev : (ns.map fun _ => (0 : Int)) = (T.new ns).vs.map eV := by
  show _ = List.map eV (ns.map fun _ => none)
  rw [List.map_map]; rfl
 have ec : (ns.map fun _ => (-1 : Int)) = (T.new ns).cs.map eC := by
  show _ = List.map eC (ns.map fun _ => none)
  rw [List.map_map]; rfl
 rw [ev] at S2 hfv hb
 rw [ec] at S2 hfc hb
 have hb2 := l2 _ _ hb
 refine ⟨G2, b, bv, bc, zv, zc, fv, fc, Le.trans l1 l2, rfl, S2, ⟨⟨A2, cap2, ?_, hR2⟩, ?_, ?_, rfl, rfl, hfv, hfc, by simp [T.new], by simp [T.new], hok.1, hl, oks_nodup hok.2, fun c hc => by simp [T.new] at hc, by decide⟩⟩
 ·unfold cellF; simp only [hb2]; rfl
 ·unfold cellF; simp only [hb2]; rfl
 unfold cellF; simp only [hb2]; rfl
theorem miss_len {α : Type} (ns : List Int) (os : List (Option α)) : (miss ns os).length ≤ ns.length := by
 induction ns generalizing os with
 |nil => simp [miss]
 |cons n ns ih =>
  cases os with
  |nil => simp [miss]
  |cons o os => unfold miss; have := ih os; split <;> simp <;> omega
theorem missing_len (t : T) : t.missing.length ≤ t.ns.length := by
 have h1 := miss_len t.ns t.vs
 have h2 := miss_len t.ns t.cs
 unfold T.missing
 split
 ·exact h1
 split
 ·exact h2
 simp
theorem exit_stay {t : T} {n c : Int} (h : t.state ≠ 1) : (t.exit n c).2 = t := by
 by_cases hb : c < 0 ∨ 255 < c
 ·rw [exit_no hb]
 rw [exit_yes hb]
 unfold say
 cases look n t.ns t.cs with
 |none => rfl
 |some o =>
  cases o with
  |none => simp [h]
  |some z => simp only; split <;> rfl
theorem vote_stay {t : T} {n : Int} {y : Bool} (h : t.state ≠ 0) : (t.vote n y).2 = t := by
 unfold T.vote say
 cases look n t.ns t.vs with
 |none => rfl
 |some o =>
  cases o with
  |none => simp [h]
  |some z => simp only; split <;> rfl
end Tal
namespace Wir
theorem mixed : prog.follows .mixedOrders = true := by kernel_rfl
theorem inf3 : Inf prog 3 (.int .i64 0) 1 8 := by unfold Inf; kernel_rfl
abbrev Vi (n : Int) : Value := .int .i64 n
def wch (at_ e : Int) : List PanicEntry := chain1 191 (.agg #[Vi at_, Vi e])
theorem must_ok (w : World) (a e : Int) (h : St W F cs w) : Calls prog 155 #[.bool true, Vi a, Vi e] w fun r w' => r = .returned (.tuple #[]) ∧ St W F cs w'  := by
 refine enter (args := [.bool true, Vi a, Vi e]) func155 rfl rfl rfl<|Wi<|C0 2 rfl<|Wa<|E1 rfl (rfl)<|U0<|end0 rfl ⟨rfl, h⟩
theorem must_no (w : World) (a e : Int) (h : St W F cs w) : Calls prog 155 #[.bool false, Vi a, Vi e] w fun r w' => r = .panicked (wch a e) ∧ St W F cs w'  := by
 refine enter (args := [.bool false, Vi a, Vi e]) func155 rfl rfl rfl<|Wi<|C0 2 rfl<|Wa<|J1 rfl (rfl)<|L0<|C0 2 rfl<|I0 (R2 (vs := [(0, Vi a), (1, Vi e)]) (cells := #[Vi a, Vi e]) rfl (by kernel_rfl)) rfl<|I0 (Runs.makeI underlying191 rfl rfl) rfl<|WL.panicI rfl<|die0 ⟨rfl, h⟩
theorem bytes_ok (w : World) {i rb p : Nat} {e : Int} {l : List UInt8}  (n : Nat) (from_ : Int) (h : St W F cs w) (hi : cs[i]? = some [(rb, .cells #[.string (bs l), Vi (p), Vi (e)] 161 (0, 0))]) (hl : l.length ≤ 9223372036854775807) (hp : p ≤ l.length) (hn : p + n ≤ l.length) : Calls prog 128 #[pz rb, Vi (n : Int), Vi from_] w fun r w' => r = .returned (.string (bs ((l.drop p).take n))) ∧ St W F (cs.set i [(rb, .cells #[.string (bs l), Vi ((p + n : Nat)), Vi (e)] 161 (0, 0))]) w'  := by
 refine enter (args := [pz rb, Vi (n : Int), Vi from_]) func128 rfl rfl rfl<|Wi<|C0 1 rfl<|Wb<|T5 h (fun s_ => ([13] : List Nat).any (Nat.beq s_)) mixed (by kernel_rfl)<|fun hx =>fun w1 h1=>L3 hx [0, 1, 2, 3, 6, 7, 8, 12] rfl<|V3 12 hx 4 (by rfl) (fun w_ hE_ => K0 underlying9 rfl rfl (hE_.ocell hi rfl)) rfl<|Z2 hx 5 (by rfl) (fun w_ => R0 (n := (l.length : Int)) (E3 underlying9 rfl rfl) rfl) rfl<|V3 12 hx 9 (by rfl) (fun w_ hE_ => K0 underlying3 rfl rfl (hE_.ocell hi rfl)) rfl<|Z2 hx 10 (by rfl) (fun w_ => N3 rfl rfl (by omega)) rfl<|Z2 hx 11 (by rfl) (fun w_ => Bt (Z1 rfl rfl) (dA (by omega))) rfl<|F3 13 h1 (by rfl)<|C1 (cn func155) rfl rfl (must_ok _ _ _ h1) fun w2 h2 =>J0<|H2<|H3 (.inl ⟨13, rfl, by kernel_rfl⟩) (by kernel_rfl)<|H0<|N0<|T2 (C := fun w_ => St W _ _ w_) mixed (by kernel_rfl) (h2.drew)<|M2 3 rfl<|X0 (fun w_ hC_ => K0 underlying9 rfl rfl (hC_.ocell hi rfl)) rfl<|M2 3 rfl<|X0 (fun w_ hC_ => K0 underlying3 rfl rfl (hC_.ocell hi rfl)) rfl<|M2 3 rfl<|X0 (fun w_ hC_ => K0 underlying3 rfl rfl (hC_.ocell hi rfl)) rfl<|M2 1 rfl<|X0 (fun w_ hC_ => V0 rfl rfl (by omega)) rfl<|X0 (fun w_ hC_ => X1 (u := .string (bs ((l.drop p).take n))) (Runs.lssl underlying9 rfl rfl rfl (n := p) (m := p + n) rfl (by omega) (by omega) hn) (by rw [show p + n - p = n by omega])) rfl<|M2 1 rfl<|K3 fun w3 h3=>H0<|Wi<|C0 3 rfl<|I0 (K0 underlying3 rfl rfl (h3.ocell hi rfl)) rfl<|C0 1 rfl<|I0 (R0 (n := ((p + n : Nat) : Int)) (V0 rfl rfl (by omega)) (by omega)) rfl<|C0 2 rfl<|C4 h3 i hi rfl rfl inf3 rfl rfl (Free.zero _) (Nat.le_of_ble_eq_true rfl) ?_
 intro  w4 h4
 try simp only [ZZ] at h4
 refine We<|C0 2 rfl<|Wg<|ret1 rfl rfl ⟨rfl, h4⟩
theorem bytes_no (w : World) {i rb p : Nat} {e : Int} {l : List UInt8}  (n : Nat) (from_ : Int) (h : St W F cs w) (hi : cs[i]? = some [(rb, .cells #[.string (bs l), Vi (p), Vi (e)] 161 (0, 0))]) (hl : l.length ≤ 9223372036854775807) (hp : p ≤ l.length) (hn : l.length < p + n) (hn2 : n ≤ 1000000) : Calls prog 128 #[pz rb, Vi (n : Int), Vi from_] w fun r w' => r = .panicked (wch from_ 2) ∧ St W F cs w'  := by
 refine enter (args := [pz rb, Vi (n : Int), Vi from_]) func128 rfl rfl rfl<|Wi<|C0 1 rfl<|Wb<|T5 h (fun s_ => ([13] : List Nat).any (Nat.beq s_)) mixed (by kernel_rfl)<|fun hx =>fun w1 h1=>L3 hx [0, 1, 2, 3, 6, 7, 8, 12] rfl<|V3 12 hx 4 (by rfl) (fun w_ hE_ => K0 underlying9 rfl rfl (hE_.ocell hi rfl)) rfl<|Z2 hx 5 (by rfl) (fun w_ => R0 (n := (l.length : Int)) (E3 underlying9 rfl rfl) rfl) rfl<|V3 12 hx 9 (by rfl) (fun w_ hE_ => K0 underlying3 rfl rfl (hE_.ocell hi rfl)) rfl<|Z2 hx 10 (by rfl) (fun w_ => N3 rfl rfl (by omega)) rfl<|Z2 hx 11 (by rfl) (fun w_ => Bf (Z1 rfl rfl) (dN (by omega))) rfl<|F3 13 h1 (by rfl)<|H5 (cn func155) rfl rfl (must_no _ _ _ h1) ?_
 rintro _ w2 ⟨rfl, h2⟩
 refine .inr ⟨_, rfl,WP.region<|die0 ⟨rfl, h2⟩⟩
def valN (l : List UInt8) : Nat := l.foldl (fun a b => 256 * a + b.toNat) 0
def szB (l : List UInt8) (p : Nat) : Nat := (l.getD p 0).toNat
def dig (l : List UInt8) (p : Nat) : List UInt8 := (l.drop (p + 1)).take (szB l p)
def rerr (l : List UInt8) (p : Nat) : Int := if l.length ≤ p then 2 else if 6 < szB l p then 3 else if l.length < p + 1 + szB l p then 2 else if 1099511627776 < valN (dig l p) ∨ (0 < szB l p ∧ (dig l p).getD 0 0 = 0) then 3 else 0
def rval (l : List UInt8) (p : Nat) : Nat := valN (dig l p)
def rnx (l : List UInt8) (p : Nat) : Nat := p + 1 + szB l p
theorem valN_snoc (l : List UInt8) (b : UInt8) : valN (l ++ [b]) = 256 * valN l + b.toNat := by simp [valN, List.foldl_append]
theorem take_one {l : List UInt8} {k : Nat} (h : k < l.length) : l.take (k + 1) = l.take k ++ [l.getD k 0] := by
 rw [List.take_add_one, gE h, gD, gE h]; rfl
theorem valN_aux : ∀ (l : List UInt8) (a : Nat), l.foldl (fun a b => 256 * a + b.toNat) a < (a + 1) * 256 ^ l.length
 |[], a => by simp
 |b :: l, a => by
  have h1 := valN_aux l (256 * a + b.toNat)
  have h2 := b.toNat_lt
  have h3 : (256 * a + b.toNat + 1) * 256 ^ l.length ≤ (a + 1) * 256 * 256 ^ l.length := Nat.mul_le_mul_right _ (by omega)
  rw [List.foldl_cons, List.length_cons, Nat.pow_succ, Nat.mul_comm (256 ^ l.length) 256, ← Nat.mul_assoc]
  omega
theorem valN_lt (l : List UInt8) : valN l < 256 ^ l.length := by
 have := valN_aux l 0
 simpa [valN] using this
theorem setS {cs : List Res} {i : Nat} {r : Res} (h : cs[i]? = some r) : cs.set i r = cs := by
 apply List.ext_getElem?
 intro j
 rw [List.getElem?_set]
 split
 ·rename_i e; subst e; rw [h, if_pos (List.getElem?_eq_some_iff.1 h).1]
 rfl
theorem cases11 (n v m : Nat) (P : Prop) : n = 0 ∨ (0 < n ∧ P) ∨ (0 < n ∧ ¬ P ∧ m < v) ∨ (0 < n ∧ ¬ P ∧ v ≤ m) := by
 by_cases h : P
 ·rcases Nat.eq_zero_or_pos n with h1 | h1
  ·exact .inl h1
  exact .inr (.inl ⟨h1, h⟩)
 rcases Nat.eq_zero_or_pos n with h1 | h1
 ·exact .inl h1
 rcases Nat.lt_or_ge m v with h2 | h2
 ·exact .inr (.inr (.inl ⟨h1, h, h2⟩))
 exact .inr (.inr (.inr ⟨h1, h, h2⟩))
theorem pow_le {n : Nat} (h : n ≤ 6) : 256 ^ n ≤ 281474976710656 := Nat.le_trans (Nat.pow_le_pow_right (by decide) h) (by decide)
theorem dig_len {l : List UInt8} {p : Nat} (h : p + 1 + szB l p ≤ l.length) : (dig l p).length = szB l p := by
 unfold dig
 rw [List.length_take, List.length_drop]; omega
theorem take1_at {l : List UInt8} {p : Nat} (h : p < l.length) : ((l.drop p).take 1).getD 0 0 = l.getD p 0 := by
 simp [gD, List.getElem?_take, List.getElem?_drop]
theorem may_dec (n : Int) : decide (0 ≤ n ∧ n ≤ 1099511627776) = (decide (0 ≤ n) && decide (n ≤ 1099511627776)) := by
 by_cases h1 : 0 ≤ n <;> by_cases h2 : n ≤ 1099511627776 <;> simp [h1, h2]
theorem u8_ne {b : UInt8} (h : b ≠ 0) : ¬ ((b.toNat : Int) = 0) := fun e => h (UInt8.toNat_inj.1 (by simpa using e))
def cerr (l : List UInt8) (p : Nat) (most : Int) : Int := if rerr l p ≠ 0 then rerr l p else if most < (rval l p : Int) then 3 else 0
theorem may_c (w : World) (n : Int) (h : St W F cs w) : Calls prog 120 #[Vi n] w fun r w' => r = .returned (.bool (decide (0 ≤ n ∧ n ≤ 1099511627776))) ∧ St W F cs w'  := by
 refine enter (args := [Vi n]) func120 rfl rfl rfl<|Wi<|C0 1 rfl<|J0 (H0 (N0 ?_))
 by_cases h0 : 0 ≤ n
 ·refine L0<|C0 1 rfl<|I0 (Bt (T1 rfl rfl) (dA h0)) rfl<|C0 2 rfl<|Q0 rfl<|I0 (Z1 rfl rfl) rfl<|C0 2 rfl<|Wg<|ret1 rfl rfl ⟨?_, h⟩
  rw [may_dec, dA h0]; rfl
 refine L0<|C0 1 rfl<|I0 (Bf (T1 rfl rfl) (dN h0)) rfl<|C0 5 rfl<|Wg<|ret1 rfl rfl ⟨?_, h⟩
 rw [may_dec, dN h0]; rfl
theorem may_y (w : World) (n : Int) (h : St W F cs w) (hn : 0 ≤ n ∧ n ≤ 1099511627776) : Calls prog 120 #[Vi n] w fun r w' => r = .returned (.bool true) ∧ St W F cs w' := (may_c w n h).mono fun r w' ⟨h1, h2⟩ => ⟨by rw [h1, dA hn], h2⟩
theorem may_n (w : World) (n : Int) (h : St W F cs w) (hn : ¬ (0 ≤ n ∧ n ≤ 1099511627776)) : Calls prog 120 #[Vi n] w fun r w' => r = .returned (.bool false) ∧ St W F cs w' := (may_c w n h).mono fun r w' ⟨h1, h2⟩ => ⟨by rw [h1, dN hn], h2⟩
theorem num_c (w : World) {i rb p : Nat} {e : Int} {l : List UInt8}  (h : St W F cs w) (hi : cs[i]? = some [(rb, .cells #[.string (bs l), Vi (p), Vi (e)] 161 (0, 0))]) (hl : l.length ≤ 9223372036854775807) (hp : p ≤ l.length) : Calls prog 125 #[pz rb] w fun r w' => (rerr l p = 0 ∧ r = .returned (Vi (rval l p : Int)) ∧ St W F (cs.set i [(rb, .cells #[.string (bs l), Vi (rnx l p), Vi (e)] 161 (0, 0))]) w') ∨ (rerr l p ≠ 0 ∧ ∃ q, r = .panicked (wch p (rerr l p)) ∧ St W F (cs.set i [(rb, .cells #[.string (bs l), Vi q, Vi e] 161 (0, 0))]) w')  := by
 refine enter (args := [pz rb]) func125 rfl rfl rfl<|Wi<|C0 1 rfl<|We<|C0 3 rfl<|I0 (K0 underlying3 rfl rfl (h.ocell hi rfl)) rfl<|C0 1 rfl<|J0 (H0 (N0 ?_))
 have hcase : p = l.length ∨ p < l.length := by omega
 rcases hcase with hpe | hpl
 ·refine L0<|C0 2 rfl<|H5 (cn func128) rfl rfl (bytes_no _ 1 p h hi hl hp (by omega) (by omega)) ?_
  rintro _ w1 ⟨rfl, h1⟩
  refine .inr ⟨_, rfl, ?_⟩
  have he : rerr l p = 2 := by unfold rerr; rw [if_pos (by omega)]
  exact die0 (.inr ⟨by rw [he]; decide, p, by rw [he], by rw [setS hi]; exact h1⟩)
 refine L0<|C0 2 rfl<|C1 (cn func128) rfl rfl (bytes_ok _ 1 p h hi hl hp (by omega)) fun w2 h2 => ?_
 have hi1 : (cs.set i [(rb, .cells #[.string (bs l), Vi ((p + 1 : Nat)), Vi (e)] 161 (0, 0))])[i]? = some [(rb, .cells #[.string (bs l), Vi ((p + 1 : Nat)), Vi (e)] 161 (0, 0))] := by rw [List.getElem?_set_self (List.getElem?_eq_some_iff.1 hi).1]
 refine I0 (X1 (u := V8 (l.getD p 0)) (C5 underlying9 rfl rfl (n := 0) rfl (by rw [List.length_take, List.length_drop]; omega)) (by rw [take1_at hpl])) rfl<|I0 (R0 (n := (szB l p : Int)) (V5 underlying5 underlying3 rfl) rfl) rfl<|C0 1 rfl<|J0 (H0 (N0 ?_))
 have hcase : 6 < szB l p ∨ szB l p ≤ 6 := by omega
 rcases hcase with hs6 | hs6
 ·refine L0<|C0 1 rfl<|I0 (Bf (Z1 rfl rfl) (dN (by omega))) rfl<|C0 1 rfl<|H5 (cn func155) rfl rfl (must_no _ _ _ h2) ?_
  rintro _ w3 ⟨rfl, h3⟩
  refine .inr ⟨_, rfl, ?_⟩
  have he : rerr l p = 3 := by unfold rerr; rw [if_neg (by omega), if_pos hs6]
  exact die0 (.inr ⟨by rw [he]; decide, _, by rw [he], h3⟩)
 refine L0<|C0 1 rfl<|I0 (Bt (Z1 rfl rfl) (dA (by omega))) rfl<|C0 1 rfl<|C1 (cn func155) rfl rfl (must_ok _ _ _ h2) fun w4 h4 =>J0 (H0 (N0 ?_))
 have hcase : l.length < p + 1 + szB l p ∨ p + 1 + szB l p ≤ l.length := by omega
 rcases hcase with hse | hsl
 ·refine L0<|C0 3 rfl<|H5 (cn func128) rfl rfl (bytes_no _ (szB l p) p h4 hi1 hl hpl (by omega) (by omega)) ?_
  rintro _ w5 ⟨rfl, h5⟩
  refine .inr ⟨_, rfl, ?_⟩
  have he : rerr l p = 2 := by unfold rerr; rw [if_neg (by omega), if_neg (by omega), if_pos hse]
  exact die0 (.inr ⟨by rw [he]; decide, _, by rw [he], h5⟩)
 have hdl := dig_len hsl
 refine L0<|C0 3 rfl<|C1 (cn func128) rfl rfl (bytes_ok _ (szB l p) p h4 hi1 hl hpl hsl) fun w6 h6 => ?_
 rw [List.set_set] at h6
 refine C0 1 rfl<|We<|C0 1 rfl<|Wh<|C0 1 rfl<|I0 (R0 (n := ((dig l p).length : Int)) (E3 underlying9 rfl rfl) rfl) rfl<|C0 1 rfl<|Wj<|B3 (σ := Nat) (fun q_ => [(0, pz rb), (3, Vi p), (4, .int .i64 (szB l p : Int)), (5, .string (bs (dig l p))), (6, .int .i64 (valN ((dig l p).take q_) : Int)), (26, .int .i64 ((dig l p).length : Int)), (27, .int .i64 (q_ : Int))]) (fun q_ w => q_ ≤ (dig l p).length ∧ St W F (cs.set i [(rb, .cells #[.string (bs l), Vi ((p + 1 + szB l p : Nat)), Vi (e)] 161 (0, 0))]) w) (fun q_ => (dig l p).length - q_) (0) (⟨by omega, h6⟩) ?_
 rintro k w7 ⟨hk, hL⟩
 try dsimp only at hk hL
 refine W2 [(0, pz rb), (3, Vi p), (4, .int .i64 (szB l p : Int)), (5, .string (bs (dig l p))), (6, .int .i64 (valN ((dig l p).take k) : Int)), (26, .int .i64 ((dig l p).length : Int)), (27, .int .i64 (k : Int))] ?_
 have hvl := valN_lt ((dig l p).take k)
 rw [List.length_take, Nat.min_eq_left hk] at hvl
 have hpw := pow_le (n := k) (by omega)
 refine Wi<|I0 (Q1 rfl rfl) rfl<|Wb<|Z0 rfl (fun c8 => ?_) (fun c8 => ?_)
 ·try simp only [DD] at c8
  refine U0<|H0<|N0<|M1<|Wi<|C0 2 rfl<|Wf<|C0 1 rfl<|I0 (Runs.shl8 (m := valN ((dig l p).take k)) rfl rfl (by omega)) rfl<|C0 2 rfl<|I0 (C5 underlying9 rfl rfl (n := k) rfl (by omega)) rfl<|I0 (V5 underlying5 underlying3 rfl) rfl<|I0 (Runs.orB (m := valN ((dig l p).take k)) rfl rfl (by omega)) rfl<|C0 1 rfl<|J0<|N1<|H0<|L0<|I0 (V0 rfl rfl (by omega)) rfl<|C0 1 rfl<|J0<|F1 (k + 1) (by omega) ⟨rfl, rfl, rfl, rfl, ?_, rfl, rfl, trivial⟩ ⟨by omega, hL⟩
  show _ = some (Value.int .i64 (valN ((dig l p).take (k + 1)) : Int))
  rw [take_one (by omega), valN_snoc]
  rfl
 try simp only [DD] at c8
 refine U1 (B2 (WX.cut (E2 (H0 (N0 ?_)))))
 obtain rfl : k = (dig l p).length := by omega
 rw [List.take_of_length_le (Nat.le_refl _)] at *
 have hcase := cases11 (szB l p) (valN (dig l p)) 1099511627776 ((dig l p).getD 0 0 = 0)
 rcases hcase with h1 | ⟨h1, h2⟩ | ⟨h1, h2, h3⟩ | ⟨h1, h2, h3⟩
 ·have hv0 : valN (dig l p) = 0 := by rw [List.eq_nil_of_length_eq_zero (hdl.trans h1)]; rfl
  refine L0<|C0 1 rfl<|I0 (Bt (L1 rfl rfl) (dA (by omega))) rfl<|C0 5 rfl<|E5 rfl rfl rfl<|E5 rfl rfl rfl<|C0 3 rfl<|C1 (cn func155) rfl rfl (must_ok _ _ _ hL) fun w9 h9 =>We<|C0 2 rfl<|J0 (H0 (O1 ?_))
  have he : rerr l p = 0 := by
   unfold rerr
   rw [if_neg (by omega), if_neg (by omega), if_neg (by omega), if_neg]
   rintro (h4 | ⟨h4, h5⟩)
   ·omega
   first | omega | exact absurd h5 h2
  exact ret1 rfl rfl (.inl ⟨he, rfl, h9⟩)
 ·refine L0<|C0 1 rfl<|I0 (Bf (L1 rfl rfl) (dN (by omega))) rfl<|C0 2 rfl<|Q0 rfl<|I0 (C5 underlying9 rfl rfl (n := 0) rfl (by omega)) rfl<|Q0 rfl<|I0 (Bf (J2 rfl rfl) (by rw [h2]; rfl)) rfl<|C0 6 rfl<|H5 (cn func155) rfl rfl (must_no _ _ _ hL) ?_
  rintro _ w10 ⟨rfl, h10⟩
  refine .inr ⟨_, rfl, ?_⟩
  have he : rerr l p = 3 := by unfold rerr; rw [if_neg (by omega), if_neg (by omega), if_neg (by omega), if_pos (.inr ⟨h1, h2⟩)]
  exact die0 (.inr ⟨by rw [he]; decide, _, by rw [he], h10⟩)
 ·have h2b := u8_ne h2
  refine L0<|C0 1 rfl<|I0 (Bf (L1 rfl rfl) (dN (by omega))) rfl<|C0 2 rfl<|Q0 rfl<|I0 (C5 underlying9 rfl rfl (n := 0) rfl (by omega)) rfl<|Q0 rfl<|I0 (Bt (J2 rfl rfl) (by rw [dN h2b]; rfl)) rfl<|C0 2 rfl<|Q0 rfl<|C1 (cn func120) rfl rfl (may_n _ _ hL (by omega)) fun w11 h11 =>C0 3 rfl<|H5 (cn func155) rfl rfl (must_no _ _ _ h11) ?_
  rintro _ w12 ⟨rfl, h12⟩
  refine .inr ⟨_, rfl, ?_⟩
  have he : rerr l p = 3 := by unfold rerr; rw [if_neg (by omega), if_neg (by omega), if_neg (by omega), if_pos (.inl h3)]
  exact die0 (.inr ⟨by rw [he]; decide, _, by rw [he], h12⟩)
 have h2b := u8_ne h2
 refine L0<|C0 1 rfl<|I0 (Bf (L1 rfl rfl) (dN (by omega))) rfl<|C0 2 rfl<|Q0 rfl<|I0 (C5 underlying9 rfl rfl (n := 0) rfl (by omega)) rfl<|Q0 rfl<|I0 (Bt (J2 rfl rfl) (by rw [dN h2b]; rfl)) rfl<|C0 2 rfl<|Q0 rfl<|C1 (cn func120) rfl rfl (may_y _ _ hL (by omega)) fun w13 h13 =>C0 3 rfl<|C1 (cn func155) rfl rfl (must_ok _ _ _ h13) fun w14 h14 =>We<|C0 2 rfl<|J0 (H0 (O1 ?_))
 have he : rerr l p = 0 := by
  unfold rerr
  rw [if_neg (by omega), if_neg (by omega), if_neg (by omega), if_neg]
  rintro (h4 | ⟨h4, h5⟩)
  ·omega
  first | omega | exact absurd h5 h2
 exact ret1 rfl rfl (.inl ⟨he, rfl, h14⟩)
theorem count_c (w : World) {i rb p : Nat} {e : Int} {l : List UInt8}  (most : Int) (h : St W F cs w) (hi : cs[i]? = some [(rb, .cells #[.string (bs l), Vi (p), Vi (e)] 161 (0, 0))]) (hl : l.length ≤ 9223372036854775807) (hp : p ≤ l.length) : Calls prog 127 #[pz rb, Vi most] w fun r w' => (cerr l p most = 0 ∧ r = .returned (Vi (rval l p : Int)) ∧ St W F (cs.set i [(rb, .cells #[.string (bs l), Vi (rnx l p), Vi (e)] 161 (0, 0))]) w') ∨ (cerr l p most ≠ 0 ∧ ∃ q, r = .panicked (wch p (cerr l p most)) ∧ St W F (cs.set i [(rb, .cells #[.string (bs l), Vi q, Vi e] 161 (0, 0))]) w')  := by
 refine enter (args := [pz rb, Vi most]) func127 rfl rfl rfl<|Wi<|C0 1 rfl<|We<|C0 3 rfl<|I0 (K0 underlying3 rfl rfl (h.ocell hi rfl)) rfl<|C0 1 rfl<|We<|C0 1 rfl<|H5 (cn func125) rfl rfl (num_c _ h hi hl hp) ?_
 rintro _ w1 (⟨he, rfl, h1⟩ | ⟨he, q, rfl, h1⟩)
 rotate_left
 ·refine .inr ⟨_, rfl, ?_⟩
  have hc : cerr l p most = rerr l p := if_pos he
  exact die0 (.inr ⟨by rw [hc]; exact he, q, by rw [hc], h1⟩)
 refine .inl ⟨_, rfl,C0 1 rfl<|J0 (H0 (N0 ?_))⟩
 have hcase : most < (rval l p : Int) ∨ (rval l p : Int) ≤ most := by omega
 rcases hcase with hm | hm
 ·refine L0<|C0 2 rfl<|I0 (Bf (Z1 rfl rfl) (dN (by omega))) rfl<|C0 1 rfl<|H5 (cn func155) rfl rfl (must_no _ _ _ h1) ?_
  rintro _ w2 ⟨rfl, h2⟩
  refine .inr ⟨_, rfl, ?_⟩
  have hc : cerr l p most = 3 := by unfold cerr; rw [if_neg (by rw [he]; decide), if_pos hm]
  exact die0 (.inr ⟨by rw [hc]; decide, _, by rw [hc], h2⟩)
 refine L0<|C0 2 rfl<|I0 (Bt (Z1 rfl rfl) (dA (by omega))) rfl<|C0 1 rfl<|C1 (cn func155) rfl rfl (must_ok _ _ _ h1) fun w3 h3 =>We<|C0 2 rfl<|J0 (H0 (O1 ?_))
 have hc : cerr l p most = 0 := by unfold cerr; rw [if_neg (by rw [he]; decide), if_neg (by omega)]
 exact ret1 rfl rfl (.inl ⟨hc, rfl, h3⟩)
theorem inf43 : Inf prog 43 (.int .i64 0) 1 8 := by unfold Inf; kernel_rfl
theorem inf191 : Inf prog 191 (.agg #[.int .i64 0, .int .i64 0]) 2 16 := by unfold Inf; kernel_rfl
theorem WC.go {P : Program} {Z : Post} {N : Nat} {D : List Deferred} {sl : Sl} {c : Code} {w : World} {a : Act} (h : WC P Z [] N D sl c w) (ha : Ag N D sl a) : c.wp P Z a w := h a ha
theorem ag2 {t : Array Value} {x y : Value} (h0 : t[0]? = some x) (h1 : t[1]? = some y) {d : Nat} {v : Value} (hl : lk [(0, x), (1, y)] d = some v) : t[d]? = some v := by
 rcases d with _ | _ | d
 ·have : x = v := by simpa [lk] using hl
  rw [h0, this]
 ·have : y = v := by simpa [lk] using hl
  rw [h1, this]
 simp [lk, Nat.beq] at hl
theorem catch_p (w : World) {i rb bb : Nat} {q at_ e e' : Int} {l : List UInt8} (h : St W F cs w) (hi : cs[i]? = some [(rb, .cells #[.string (bs l), Vi q, Vi e] 161 (0, 0))]) (hb : cellF F ⟨bb, 0, none⟩ = some (pz rb)) : CallsD prog 154 #[pz bb] (.panicking (wch at_ e')) w fun r u' w' => r = .returned (.tuple #[]) ∧ u' = .panicking [{ v := .iface 191 (.agg #[Vi at_, Vi e']), recovered := true }] ∧ St W F (cs.set i [(rb, .cells #[.string (bs l), Vi at_, Vi e'] 161 (0, 0))]) w'  := by
 refine callsD_of_wpS func154 rfl fun c₀ cs₀ hu => ?_
 try unfold wch chain1 at hu
 apply wpS_seq
 apply wpS_region
 simp [wpOpsS, go_sem, recoverD, hu, ntmps154, Exit.thenS]
 refine wpS_of_wp<|WC.go (N := 18) (D := []) (sl := [(0, pz bb), (1, .iface 191 (.agg #[Vi at_, Vi e']))]) ?_ ⟨rfl, by simp, fun d v hl => ag2 (by simp) (by simp) hl⟩
 refine Wi<|C0 1 rfl<|I0 (Runs.ifneq underlying20 rfl rfl) rfl<|Wa<|J1 rfl (rfl)<|Wi<|C0 1 rfl<|I0 (Runs.assertS underlying191 rfl rfl) rfl<|O2 rfl h inf191 fun b2 w1 h1=>O3 h1 0 rfl rfl rfl inf191 rfl rfl ?_
 intro  w2 h2
 try simp only [ZZ] at h2
 refine J0 (H0 ?_)
 obtain ⟨G, gl, g0, S0⟩ := h2.freeze (i := 0) rfl
 have hw0 : cellF G ⟨b2, 0, none⟩ = some (Vi at_) := by unfold cellF; simp only [g0 _ List.mem_cons_self]; rfl
 have hw1 : cellF G ⟨b2, 1, none⟩ = some (Vi e') := by unfold cellF; simp only [g0 _ List.mem_cons_self]; rfl
 replace S0 : St W G cs w2 := S0
 have hi2 : (cs.set i [(rb, .cells #[.string (bs l), Vi at_, Vi e] 161 (0, 0))])[i]? = some [(rb, .cells #[.string (bs l), Vi at_, Vi e] 161 (0, 0))] := by rw [List.getElem?_set_self (List.getElem?_eq_some_iff.1 hi).1]
 refine WC.eregF S0 (fun s_ => ([] : List Nat).any (Nat.beq s_)) mixed (by kernel_rfl)<|fun hx =>fun w3 h3=>L3 hx [2, 4] rfl<|V3 12 hx 0 (by rfl) (fun w_ hE_ => Exists.elim hE_ (fun cs_ hC_ => K0 underlying131 rfl rfl (hC_.cell (cellF_le gl hb)))) rfl<|V3 12 hx 1 (by rfl) (fun w_ hE_ => Exists.elim hE_ (fun cs_ hC_ => K0 underlying131 rfl rfl (hC_.cell (cellF_le gl hb)))) rfl<|V3 12 hx 3 (by rfl) (fun w_ hE_ => Exists.elim hE_ (fun cs_ hC_ => K0 underlying3 rfl rfl (hC_.cell hw0))) rfl<|L3 hx [6, 7] rfl<|V3 12 hx 5 (by rfl) (fun w_ hE_ => Exists.elim hE_ (fun cs_ hC_ => K0 underlying43 rfl rfl (hC_.cell hw1))) rfl<|F3 8 (EC.mk h3 (Le.refl _)) (by rfl)<|C4 h3 i hi rfl rfl inf3 rfl rfl (Free.zero _) (Nat.le_of_ble_eq_true rfl) ?_
 intro  w4 h4
 try simp only [ZZ] at h4
 refine J0<|H2<|L3 hx [9, 10] rfl<|F3 11 (EC.mk h4 (Le.refl _)) (by rfl)<|C4 h4 i hi2 rfl rfl inf43 rfl rfl (Free.zero _) (Nat.le_of_ble_eq_true rfl) ?_
 intro  w5 h5
 try simp only [ZZ] at h5
 rw [List.set_set] at h5
 refine J0<|H2<|H3 (.inr (EC.mk h5 (Le.refl _))) (by kernel_rfl)<|fun a_ ha_ => ⟨ha_.df, _, rfl, .tuple #[], results_none rfl _ _ _, rfl, rfl, h5.weak gl⟩
theorem catch_i (w : World) {bb : Nat} (h : St W F cs w) : CallsD prog 154 #[pz bb] .returning w fun r u' w' => r = .returned (.tuple #[]) ∧ u' = .returning ∧ St W F cs w'  := by
 refine callsD_of_wpS func154 rfl fun c₀ cs₀ hu => ?_
 try unfold wch chain1 at hu
 apply wpS_seq
 apply wpS_region
 simp [wpOpsS, go_sem, recoverD, hu, ntmps154, Exit.thenS]
 refine wpS_of_wp<|WC.go (N := 18) (D := []) (sl := [(0, pz bb), (1, .nilIface)]) ?_ ⟨rfl, by simp, fun d v hl => ag2 (by simp) (by simp) hl⟩
 refine Wi<|C0 1 rfl<|I0 (Runs.ifneq0 underlying20 rfl rfl) rfl<|Wa<|E1 rfl (rfl)<|U0<|fun a_ ha_ => ⟨ha_.df, c₀.mode, rfl, .tuple #[], results_none rfl _ _ _, rfl, hu, h⟩
theorem take_off (w : World) {i rb : Nat} {q e : Int} {l : List UInt8} (fv : Value) (h : St W F cs w) (hi : cs[i]? = some [(rb, .cells #[.string (bs l), Vi q, Vi e] 161 (0, 0))]) (he : e ≠ 0) : Calls prog 123 #[pz rb, fv] w fun r w' => r = .returned (.tuple #[]) ∧ St W F cs w'  := by
 refine enterD (P := prog) (args := [pz rb, fv]) func123 rfl rfl rfl<|Wi<|J3 rfl h rfl fun b2 w1 h1=>Wh<|H1 h1 [0] 1 rfl<|I0 (L2 underlying131 rfl rfl) rfl<|H1 h1 [0] 4 rfl<|Q0 rfl<|I0 (K0 underlying43 rfl rfl (h1.ocell (i := i + 1) hi rfl)) rfl<|Q0 rfl<|I0 (Bt (J2 rfl rfl) (by rw [dN he]; rfl)) rfl<|C0 1 rfl<|Wa<|J1 rfl (rfl)<|O1<|leaveN rfl ⟨rfl, h1.drop 0⟩
theorem take_on (w : World) {i rb f : Nat} {q : Int} {l : List UInt8} {caps : List Value} {K1 : List Res → Prop} {K2 : Int → Int → List Res → Prop} (hcan : B.Can prog f) (h : St W F cs w) (hi : cs[i]? = some [(rb, .cells #[.string (bs l), Vi q, Vi 0] 161 (0, 0))])
  (hdo : ∀ G w', Le F G → St W G cs w' → Calls prog f caps.toArray w' fun r w'' => (∃ cs1, r = .returned (.tuple #[]) ∧ K1 cs1 ∧ St W G cs1 w'') ∨ ∃ a e q cs2, r = .panicked (wch a e) ∧ K2 a e cs2 ∧ cs2[i]? = some [(rb, .cells #[.string (bs l), Vi q, Vi 0] 161 (0, 0))] ∧ St W G cs2 w'') :
  Calls prog 123 #[pz rb, .func (.func f) #[] caps.toArray] w fun r w' => r = .returned (.tuple #[]) ∧ ((∃ cs1, K1 cs1 ∧ St W F cs1 w') ∨ ∃ a e cs2, K2 a e cs2 ∧ St W F (cs2.set i [(rb, .cells #[.string (bs l), Vi a, Vi e] 161 (0, 0))]) w')  := by
 refine enterD (P := prog) (args := [pz rb, .func (.func f) #[] caps.toArray]) func123 rfl rfl rfl<|Wi<|J3 rfl h rfl fun b2 w1 h1=>Wh<|H1 h1 [0] 1 rfl<|I0 (L2 underlying131 rfl rfl) rfl<|H1 h1 [0] 4 rfl<|Q0 rfl<|I0 (K0 underlying43 rfl rfl (h1.ocell (i := i + 1) hi rfl)) rfl<|Q0 rfl<|I0 (Bf (J2 rfl rfl) rfl) rfl<|C0 1 rfl<|Wa<|E1 rfl (rfl)<|U0 (H0 (N0 ?_))
 obtain ⟨G, gl, g0, S0⟩ := h1.freeze (i := 0) rfl
 have hb : cellF G ⟨b2, 0, none⟩ = some (pz rb) := by unfold cellF; simp only [g0 _ List.mem_cons_self]; rfl
 replace S0 : St W G cs w1 := S0
 refine L0<|I0 (Runs.makeFunc (us := []) (vs := [pz b2]) rfl rfl) rfl<|WL.deferC rfl<|Wf<|C0 1 rfl<|WL.callvP hcan rfl rfl rfl (hdo G _ gl S0) ?_
 rintro _ w2 (⟨cs1, rfl, hk1, h2⟩ | ⟨a, e, q2, cs2, rfl, hk2, hi2, h2⟩)
 rotate_left
 ·refine .inr ⟨_, rfl,dieC rfl (cn func154) rfl ((catch_p w2 h2 hi2 hb).mono fun r u' w' ⟨h1, h2, h3⟩ => ⟨h1, h2, rfl, .inr ⟨a, e, cs2, hk2, h3.weak gl⟩⟩)⟩
 refine .inl ⟨_, rfl,J0<|leaveC rfl (cn func154) ((catch_i w2 (bb := b2) h2).mono fun r u' w' ⟨h1, h2, h3⟩ => ⟨h1, h2, rfl, .inl ⟨cs1, hk1, h3.weak gl⟩⟩)⟩
theorem rnx_le {l : List UInt8} {p : Nat} (h : rerr l p = 0) : rnx l p ≤ l.length := by
 unfold rerr at h
 unfold rnx
 split at h
 ·cases h
 split at h
 ·cases h
 split at h
 ·cases h
 omega
theorem cerr_0 {l : List UInt8} {p : Nat} {m : Int} (h : cerr l p m = 0) : rerr l p = 0 ∧ (rval l p : Int) ≤ m := by
 unfold cerr at h
 by_cases h1 : rerr l p = 0
 ·rw [if_neg (by rw [h1]; decide)] at h
  split at h
  ·cases h
  exact ⟨h1, by omega⟩
 rw [if_pos h1] at h; exact absurd h h1
def rdN (l : List UInt8) (p : Nat) (e : Int) : Nat × Nat × Int := if e ≠ 0 then (0, p, e) else if rerr l p = 0 then (rval l p, rnx l p, 0) else (0, p, rerr l p)
def rdT (l : List UInt8) (p : Nat) (e : Int) : List UInt8 × Nat × Int := if e ≠ 0 then ([], p, e) else if cerr l p 4096 ≠ 0 then ([], p, cerr l p 4096) else if l.length < rnx l p + rval l p then ([], rnx l p, 2) else ((l.drop (rnx l p)).take (rval l p), rnx l p + rval l p, 0)
theorem rdN_le {l : List UInt8} {p : Nat} (e : Int) (hp : p ≤ l.length) : (rdN l p e).2.1 ≤ l.length := by
 unfold rdN
 split
 ·exact hp
 split
 ·rename_i h; exact rnx_le h
 exact hp
theorem num1_c (w : World) {i rb : Nat} {p : Nat} {l : List UInt8} {j k bb nb : Nat} {v0 : Int} (h : St W F cs w) (hi : cs[i]? = some [(rb, .cells #[.string (bs l), Vi p, Vi 0] 161 (0, 0))]) (hk : cs[k]? = some [(bb, .cells #[pz rb] 131 (0, 0))]) (hj : cs[j]? = some [(nb, .cells #[Vi v0] 3 (0, 0))]) (hij : i ≠ j) (hl : l.length ≤ 9223372036854775807) (hp : p ≤ l.length) : Calls prog 124 #[pz bb, pz nb] w fun r w' =>
 (r = .returned (.tuple #[]) ∧ rerr l p = 0 ∧ St W F ((cs.set i [(rb, .cells #[.string (bs l), Vi (rnx l p : Nat), Vi 0] 161 (0, 0))]).set j [(nb, .cells #[Vi (rval l p : Nat)] 3 (0, 0))]) w') ∨ (∃ q, r = .panicked (wch p (rerr l p)) ∧ rerr l p ≠ 0 ∧ St W F (cs.set i [(rb, .cells #[.string (bs l), Vi q, Vi 0] 161 (0, 0))]) w')  := by
 refine enter (args := [pz bb, pz nb]) func124 rfl rfl rfl<|L0<|I0 (K0 underlying131 rfl rfl (h.ocell (hk) rfl)) rfl<|H5 (cn func125) rfl rfl (num_c _ h hi hl hp) ?_
 rintro _ w1 (⟨he, rfl, h1⟩ | ⟨he, q, rfl, h1⟩)
 rotate_left
 ·refine .inr ⟨_, rfl,die0 (.inr ⟨q, rfl, he, h1⟩)⟩
 refine .inl ⟨_, rfl,C4 h1 j (by rw [List.getElem?_set_ne hij]; exact hj) rfl rfl inf3 rfl rfl (Free.zero _) (Nat.le_of_ble_eq_true rfl) ?_⟩
 intro  w2 h2
 try simp only [ZZ] at h2
 refine J0<|end0 rfl (.inl ⟨rfl, he, h2⟩)
theorem readN_off (w : World) {i rb : Nat} {p : Nat} {l : List UInt8} {e : Int} (h : St W F cs w) (hi : cs[i]? = some [(rb, .cells #[.string (bs l), Vi p, Vi e] 161 (0, 0))]) (he : e ≠ 0) : Calls prog 82 #[pz rb] w fun r w' => r = .returned (Vi 0) ∧ St W F cs w'  := by
 refine enter (args := [pz rb]) func82 rfl rfl rfl<|Wi<|J3 rfl h rfl fun b1 w1 h1=>C0 1 rfl<|We<|O2 rfl h1 inf3 fun b3 w2 h2=>O3 h2 0 rfl rfl rfl inf3 rfl rfl ?_
 intro  w3 h3
 try simp only [ZZ] at h3
 refine We<|H1 h3 [1] 1 rfl<|I0 (Runs.makeFunc (us := []) (vs := [pz b1, pz b3]) rfl rfl) rfl<|C1 (cn func123) rfl rfl (take_off _ _ h3 (i := i + 2) hi he) fun w4 h4 =>We<|H1 h4 [0] 2 rfl<|Wg<|ret1 rfl rfl ⟨rfl, (h4.drop 0).drop 0⟩
theorem readN_on (w : World) {i rb : Nat} {p : Nat} {l : List UInt8} (h : St W F cs w) (hi : cs[i]? = some [(rb, .cells #[.string (bs l), Vi p, Vi 0] 161 (0, 0))]) (hl : l.length ≤ 9223372036854775807) (hp : p ≤ l.length) : Calls prog 82 #[pz rb] w fun r w' => r = .returned (Vi ((rdN l p 0).1 : Nat)) ∧ St W F (cs.set i [(rb, .cells #[.string (bs l), Vi ((rdN l p 0).2.1 : Nat), Vi (rdN l p 0).2.2] 161 (0, 0))]) w'  := by
 refine enter (args := [pz rb]) func82 rfl rfl rfl<|Wi<|J3 rfl h rfl fun b1 w1 h1=>C0 1 rfl<|We<|O2 rfl h1 inf3 fun b3 w2 h2=>O3 h2 0 rfl rfl rfl inf3 rfl rfl ?_
 intro  w3 h3
 try simp only [ZZ] at h3
 refine We<|H1 h3 [1] 1 rfl<|I0 (Runs.makeFunc (us := []) (vs := [pz b1, pz b3]) rfl rfl) rfl<|V1 (cn func123) rfl rfl (take_on (f := 124) (caps := [pz b1, pz b3]) (i := i + 2)
  (K1 := fun cs1 => rerr l p = 0 ∧ cs1 = ([(b3, .cells #[Vi (rval l p : Nat)] 3 (0, 0))] :: [(b1, .cells #[pz rb] 131 (0, 0))] :: cs.set i [(rb, .cells #[.string (bs l), Vi (rnx l p : Nat), Vi 0] 161 (0, 0))])) (K2 := fun a e cs2 => rerr l p ≠ 0 ∧ a = p ∧ e = rerr l p ∧ ∃ q, cs2 = ([(b3, .cells #[Vi 0] 3 (0, 0))] :: [(b1, .cells #[pz rb] 131 (0, 0))] :: cs.set i [(rb, .cells #[.string (bs l), Vi q, Vi 0] 161 (0, 0))]))
  _ (cn func124) h3 hi (fun G w2 hle hS => (num1_c w2 (i := i + 2) (j := 0) (k := 1) hS hi rfl rfl (by omega) hl hp).mono fun r w3 hh => ?_)) ?_
 ·rcases hh with ⟨h1, h2, h3⟩ | ⟨q, h1, h2, h3⟩
  ·exact .inl ⟨_, h1, ⟨h2, rfl⟩, h3⟩
  exact .inr ⟨p, rerr l p, q, _, h1, ⟨h2, rfl, rfl, q, rfl⟩, by show (cs.set i _)[i]? = _; rw [List.getElem?_set_self (List.getElem?_eq_some_iff.1 hi).1], h3⟩
 rintro _ wt ⟨rfl, hh⟩
 refine ⟨_, rfl, ?_⟩
 obtain ⟨vv, hvv, hS⟩ : ∃ vv, vv = ((rdN l p 0).1 : Nat) ∧ St W F ([(b3, .cells #[Vi (vv : Nat)] 3 (0, 0))] :: [(b1, .cells #[pz rb] 131 (0, 0))] :: cs.set i [(rb, .cells #[.string (bs l), Vi ((rdN l p 0).2.1 : Nat), Vi (rdN l p 0).2.2] 161 (0, 0))]) wt := by
  rcases hh with ⟨cs1, ⟨he, rfl⟩, h3⟩ | ⟨a, e, cs2, ⟨he, rfl, rfl, q, rfl⟩, h3⟩
  ·have e1 : rdN l p 0 = (rval l p, rnx l p, 0) := by unfold rdN; rw [if_neg (by simp), if_pos he]
   rw [e1]; exact ⟨_, rfl, h3⟩
  have e1 : rdN l p 0 = (0, p, rerr l p) := by unfold rdN; rw [if_neg (by simp), if_neg he]
  rw [e1]; refine ⟨_, rfl, ?_⟩
  simp only [List.set_cons_succ, List.set_set] at h3
  exact h3
 refine We<|H1 hS [0] 2 rfl<|J0 (H0 (O1 ?_))
 obtain ⟨rfl⟩ := hvv
 exact ret1 rfl rfl ⟨rfl, (hS.drop 0).drop 0⟩
theorem inf9 : Inf prog 9 (.string ⟨#[]⟩) 1 16 := by unfold Inf; kernel_rfl
def rdEnd (l : List UInt8) (p : Nat) (e : Int) : Int × Nat := if e = 0 ∧ p < l.length then (4, p) else (e, p)
theorem cases5 (e : Int) (p n : Nat) : e ≠ 0 ∨ (e = 0 ∧ p < n) ∨ (e = 0 ∧ ¬ p < n) := by omega
theorem text1_c (w : World) {i rb : Nat} {p : Nat} {l : List UInt8} {j k bb nb : Nat} {v0 : Value} (h : St W F cs w) (hi : cs[i]? = some [(rb, .cells #[.string (bs l), Vi p, Vi 0] 161 (0, 0))]) (hk : cs[k]? = some [(bb, .cells #[pz rb] 131 (0, 0))]) (hj : cs[j]? = some [(nb, .cells #[v0] 9 (0, 0))]) (hij : i ≠ j ∧ i ≠ k) (hl : l.length ≤ 9223372036854775807) (hp : p ≤ l.length) : Calls prog 126 #[pz bb, pz nb] w fun r w' =>
 (r = .returned (.tuple #[]) ∧ (cerr l p 4096 = 0 ∧ rnx l p + rval l p ≤ l.length) ∧ St W F ((cs.set i [(rb, .cells #[.string (bs l), Vi (rnx l p + rval l p : Nat), Vi 0] 161 (0, 0))]).set j [(nb, .cells #[.string (bs ((l.drop (rnx l p)).take (rval l p)))] 9 (0, 0))]) w') ∨ (∃ (a : Nat) (e q : Int), r = .panicked (wch a e) ∧ (e ≠ 0 ∧ rdT l p 0 = ([], a, e)) ∧ St W F (cs.set i [(rb, .cells #[.string (bs l), Vi q, Vi 0] 161 (0, 0))]) w')  := by
 refine enter (args := [pz bb, pz nb]) func126 rfl rfl rfl<|Wi<|I0 (K0 underlying131 rfl rfl (h.ocell (hk) rfl)) rfl<|H5 (cn func127) rfl rfl (count_c _ 4096 h hi hl hp) ?_
 rintro _ w1 (⟨he, rfl, h1⟩ | ⟨he, q, rfl, h1⟩)
 rotate_left
 ·refine .inr ⟨_, rfl,die0 (.inr ⟨p, _, q, rfl, ⟨he, by unfold rdT; rw [if_neg (by simp), if_pos he]⟩, h1⟩)⟩
 refine .inl ⟨_, rfl, ?_⟩
 have hi1 : (cs.set i [(rb, .cells #[.string (bs l), Vi (rnx l p : Nat), Vi 0] 161 (0, 0))])[i]? = some [(rb, .cells #[.string (bs l), Vi (rnx l p : Nat), Vi 0] 161 (0, 0))] := by rw [List.getElem?_set_self (List.getElem?_eq_some_iff.1 hi).1]
 have hk1 : (cs.set i [(rb, .cells #[.string (bs l), Vi (rnx l p : Nat), Vi 0] 161 (0, 0))])[k]? = some [(bb, .cells #[pz rb] 131 (0, 0))] := by rw [List.getElem?_set_ne hij.2]; exact hk
 have hrn := rnx_le (cerr_0 he).1
 refine C0 1 rfl<|J0 (H0 ?_)
 have hcase : l.length < rnx l p + rval l p ∨ rnx l p + rval l p ≤ l.length := by omega
 rcases hcase with hn | hn
 ·refine T5 h1 (fun s_ => ([6, 7] : List Nat).any (Nat.beq s_)) mixed (by kernel_rfl)<|fun hx =>fun w2 h2=>L3 hx [1] rfl<|V3 12 hx 0 (by rfl) (fun w_ hE_ => K0 underlying131 rfl rfl (hE_.ocell (hk1) rfl)) rfl<|V3 12 hx 2 (by rfl) (fun w_ hE_ => K0 underlying131 rfl rfl (hE_.ocell (hk1) rfl)) rfl<|L3 hx [3, 4] rfl<|V3 12 hx 5 (by rfl) (fun w_ hE_ => K0 underlying3 rfl rfl (hE_.ocell hi1 rfl)) rfl<|F3 6 h2 (by rfl)<|H5 (cn func128) rfl rfl (bytes_no _ (rval l p) (rnx l p) h2 hi1 hl hrn hn (by have := (cerr_0 he).2; omega)) ?_
  rintro _ w3 ⟨rfl, h3⟩
  refine .inr ⟨_, rfl,WP.region<|die0 (.inr ⟨rnx l p, 2, _, rfl, ⟨by decide, by unfold rdT; rw [if_neg (by simp), if_neg (by rw [he]; simp), if_pos hn]⟩, h3⟩)⟩
 refine T5 h1 (fun s_ => ([6, 7] : List Nat).any (Nat.beq s_)) mixed (by kernel_rfl)<|fun hx =>fun w4 h4=>L3 hx [1] rfl<|V3 12 hx 0 (by rfl) (fun w_ hE_ => K0 underlying131 rfl rfl (hE_.ocell (hk1) rfl)) rfl<|V3 12 hx 2 (by rfl) (fun w_ hE_ => K0 underlying131 rfl rfl (hE_.ocell (hk1) rfl)) rfl<|L3 hx [3, 4] rfl<|V3 12 hx 5 (by rfl) (fun w_ hE_ => K0 underlying3 rfl rfl (hE_.ocell hi1 rfl)) rfl<|F3 6 h4 (by rfl)<|C1 (cn func128) rfl rfl (bytes_ok _ (rval l p) (rnx l p) h4 hi1 hl hrn hn) fun w5 h5 =>J0<|H2<|WE.op (.inl ⟨6, rfl, by kernel_rfl⟩) (i := 7) (by rfl) (by kernel_rfl)<|C4 h5 j (by rw [List.set_set, List.getElem?_set_ne hij.1]; exact hj) rfl rfl inf9 rfl rfl (Free.zero _) (Nat.le_of_ble_eq_true rfl) ?_
 intro  w6 h6
 try simp only [ZZ] at h6
 rw [List.set_set] at h6
 refine J0<|H2<|H3 (.inl ⟨6, rfl, by kernel_rfl⟩) (by kernel_rfl)<|end0 rfl (.inl ⟨rfl, ⟨he, hn⟩, h6⟩)
theorem readT_off (w : World) {i rb : Nat} {p : Nat} {l : List UInt8} {e : Int} (h : St W F cs w) (hi : cs[i]? = some [(rb, .cells #[.string (bs l), Vi p, Vi e] 161 (0, 0))]) (he : e ≠ 0) : Calls prog 83 #[pz rb] w fun r w' => r = .returned (.string (bs [])) ∧ St W F cs w'  := by
 refine enter (args := [pz rb]) func83 rfl rfl rfl<|Wi<|J3 rfl h rfl fun b1 w1 h1=>C0 1 rfl<|We<|O2 rfl h1 inf9 fun b3 w2 h2=>O3 h2 0 rfl rfl rfl inf9 rfl rfl ?_
 intro  w3 h3
 try simp only [ZZ] at h3
 refine We<|H1 h3 [1] 1 rfl<|I0 (Runs.makeFunc (us := []) (vs := [pz b1, pz b3]) rfl rfl) rfl<|C1 (cn func123) rfl rfl (take_off _ _ h3 (i := i + 2) hi he) fun w4 h4 =>We<|H1 h4 [0] 2 rfl<|Wg<|ret1 rfl rfl ⟨rfl, (h4.drop 0).drop 0⟩
theorem readT_on (w : World) {i rb : Nat} {p : Nat} {l : List UInt8} (h : St W F cs w) (hi : cs[i]? = some [(rb, .cells #[.string (bs l), Vi p, Vi 0] 161 (0, 0))]) (hl : l.length ≤ 9223372036854775807) (hp : p ≤ l.length) : Calls prog 83 #[pz rb] w fun r w' => r = .returned (.string (bs (rdT l p 0).1)) ∧ St W F (cs.set i [(rb, .cells #[.string (bs l), Vi ((rdT l p 0).2.1 : Nat), Vi (rdT l p 0).2.2] 161 (0, 0))]) w'  := by
 refine enter (args := [pz rb]) func83 rfl rfl rfl<|Wi<|J3 rfl h rfl fun b1 w1 h1=>C0 1 rfl<|We<|O2 rfl h1 inf9 fun b3 w2 h2=>O3 h2 0 rfl rfl rfl inf9 rfl rfl ?_
 intro  w3 h3
 try simp only [ZZ] at h3
 refine We<|H1 h3 [1] 1 rfl<|I0 (Runs.makeFunc (us := []) (vs := [pz b1, pz b3]) rfl rfl) rfl<|V1 (cn func123) rfl rfl (take_on (f := 126) (caps := [pz b1, pz b3]) (i := i + 2)
  (K1 := fun cs1 => (cerr l p 4096 = 0 ∧ rnx l p + rval l p ≤ l.length) ∧ cs1 = ([(b3, .cells #[.string (bs ((l.drop (rnx l p)).take (rval l p)))] 9 (0, 0))] :: [(b1, .cells #[pz rb] 131 (0, 0))] :: cs.set i [(rb, .cells #[.string (bs l), Vi (rnx l p + rval l p : Nat), Vi 0] 161 (0, 0))])) (K2 := fun a e cs2 => (∃ a', a = ((a' : Nat) : Int) ∧ e ≠ 0 ∧ rdT l p 0 = ([], a', e)) ∧ ∃ q, cs2 = ([(b3, .cells #[.string (bs [])] 9 (0, 0))] :: [(b1, .cells #[pz rb] 131 (0, 0))] :: cs.set i [(rb, .cells #[.string (bs l), Vi q, Vi 0] 161 (0, 0))]))
  _ (cn func126) h3 hi (fun G w2 hle hS => (text1_c w2 (i := i + 2) (j := 0) (k := 1) hS hi rfl rfl (by omega) hl hp).mono fun r w3 hh => ?_)) ?_
 ·rcases hh with ⟨h1, h2, h3⟩ | ⟨a, e, q, h1, h2, h3⟩
  ·exact .inl ⟨_, h1, ⟨h2, rfl⟩, h3⟩
  exact .inr ⟨a, e, q, _, h1, ⟨⟨a, rfl, h2⟩, q, rfl⟩, by show (cs.set i _)[i]? = _; rw [List.getElem?_set_self (List.getElem?_eq_some_iff.1 hi).1], h3⟩
 rintro _ wt ⟨rfl, hh⟩
 refine ⟨_, rfl, ?_⟩
 obtain ⟨vv, hvv, hS⟩ : ∃ vv, vv = (rdT l p 0).1 ∧ St W F ([(b3, .cells #[.string (bs vv)] 9 (0, 0))] :: [(b1, .cells #[pz rb] 131 (0, 0))] :: cs.set i [(rb, .cells #[.string (bs l), Vi ((rdT l p 0).2.1 : Nat), Vi (rdT l p 0).2.2] 161 (0, 0))]) wt := by
  rcases hh with ⟨cs1, ⟨⟨he, hle⟩, rfl⟩, h3⟩ | ⟨_, e, cs2, ⟨⟨a, rfl, _, e1⟩, q, rfl⟩, h3⟩
  ·have e1 : rdT l p 0 = ((l.drop (rnx l p)).take (rval l p), rnx l p + rval l p, 0) := by unfold rdT; rw [if_neg (by simp), if_neg (by rw [he]; simp), if_neg (by omega)]
   rw [e1]; exact ⟨_, rfl, h3⟩
  rw [e1]; refine ⟨_, rfl, ?_⟩
  simp only [List.set_cons_succ, List.set_set] at h3
  exact h3
 refine We<|H1 hS [0] 2 rfl<|J0 (H0 (O1 ?_))
 obtain ⟨rfl⟩ := hvv
 exact ret1 rfl rfl ⟨rfl, (hS.drop 0).drop 0⟩
theorem rend_c (w : World) {i rb : Nat} {p : Nat} {l : List UInt8} {e : Int} (h : St W F cs w) (hi : cs[i]? = some [(rb, .cells #[.string (bs l), Vi p, Vi e] 161 (0, 0))]) : Calls prog 84 #[pz rb] w fun r w' => r = .returned (.tuple #[Vi (rdEnd l p e).1, Vi ((rdEnd l p e).2 : Nat)]) ∧ St W F cs w'  := by
 refine enter (args := [pz rb]) func84 rfl rfl rfl<|Wi<|C0 2 rfl<|Wb<|M1<|Wi<|C0 1 rfl<|I0 (L2 underlying131 rfl rfl) rfl<|C0 1 rfl<|Wa<|E1 rfl (rfl)<|N0 ?_
 rcases cases5 e p l.length with hx1 | ⟨hx1, hx2⟩ | ⟨hx1, hx2⟩
 ·refine T2 (C := fun w_ => St W _ _ w_) mixed (by kernel_rfl) (h.drew)<|M2 3 rfl<|X0 (fun w_ hC_ => K0 underlying43 rfl rfl (hC_.ocell hi rfl)) rfl<|X0 (fun w_ hC_ => Bf (L1 rfl rfl) (dN hx1)) rfl<|M2 13 rfl<|K3 fun w1 h1=>H0<|E1 rfl (rfl)<|U0<|N1<|H0<|N0<|T2 (C := fun w_ => St W _ _ w_) mixed (by kernel_rfl) (h1.drew)<|M2 3 rfl<|X0 (fun w_ hC_ => K0 underlying43 rfl rfl (hC_.ocell hi rfl)) rfl<|M2 3 rfl<|X0 (fun w_ hC_ => K0 underlying3 rfl rfl (hC_.ocell hi rfl)) rfl<|M2 2 rfl<|K3 fun w2 h2=>H0<|O1<|ret2 rfl rfl rfl ⟨?_, h2⟩
  unfold rdEnd
  rw [if_neg (fun h => hx1 h.1)]
  rfl
 ·refine T2 (C := fun w_ => St W _ _ w_) mixed (by kernel_rfl) (h.drew)<|M2 3 rfl<|X0 (fun w_ hC_ => K0 underlying43 rfl rfl (hC_.ocell hi rfl)) rfl<|X0 (fun w_ hC_ => Bt (L1 rfl rfl) (dA hx1)) rfl<|M2 4 rfl<|Y2 rfl<|X0 (fun w_ hC_ => K0 underlying3 rfl rfl (hC_.ocell hi rfl)) rfl<|M2 3 rfl<|Y2 rfl<|X0 (fun w_ hC_ => K0 underlying9 rfl rfl (hC_.ocell hi rfl)) rfl<|Y2 rfl<|X0 (fun w_ hC_ => R0 (n := (l.length : Int)) (E3 underlying9 rfl rfl) rfl) rfl<|Y2 rfl<|X0 (fun w_ hC_ => Bt (Q1 rfl rfl) (dA (by omega))) rfl<|M2 2 rfl<|K3 fun w3 h3=>H0<|J1 rfl (rfl)<|N0<|T2 (C := fun w_ => St W _ _ w_) mixed (by kernel_rfl) (h3.drew)<|M2 3 rfl<|X0 (fun w_ hC_ => K0 underlying3 rfl rfl (hC_.ocell hi rfl)) rfl<|M2 2 rfl<|K3 fun w4 h4=>H0<|O1<|ret2 rfl rfl rfl ⟨?_, h4⟩
  unfold rdEnd
  rw [if_pos ⟨hx1, hx2⟩]
  rfl
 refine T2 (C := fun w_ => St W _ _ w_) mixed (by kernel_rfl) (h.drew)<|M2 3 rfl<|X0 (fun w_ hC_ => K0 underlying43 rfl rfl (hC_.ocell hi rfl)) rfl<|X0 (fun w_ hC_ => Bt (L1 rfl rfl) (dA hx1)) rfl<|M2 4 rfl<|Y2 rfl<|X0 (fun w_ hC_ => K0 underlying3 rfl rfl (hC_.ocell hi rfl)) rfl<|M2 3 rfl<|Y2 rfl<|X0 (fun w_ hC_ => K0 underlying9 rfl rfl (hC_.ocell hi rfl)) rfl<|Y2 rfl<|X0 (fun w_ hC_ => R0 (n := (l.length : Int)) (E3 underlying9 rfl rfl) rfl) rfl<|Y2 rfl<|X0 (fun w_ hC_ => Bf (Q1 rfl rfl) (dN (by omega))) rfl<|M2 2 rfl<|K3 fun w5 h5=>H0<|E1 rfl (rfl)<|U0<|N1<|H0<|N0<|T2 (C := fun w_ => St W _ _ w_) mixed (by kernel_rfl) (h5.drew)<|M2 3 rfl<|X0 (fun w_ hC_ => K0 underlying43 rfl rfl (hC_.ocell hi rfl)) rfl<|M2 3 rfl<|X0 (fun w_ hC_ => K0 underlying3 rfl rfl (hC_.ocell hi rfl)) rfl<|M2 2 rfl<|K3 fun w6 h6=>H0<|O1<|ret2 rfl rfl rfl ⟨?_, h6⟩
 unfold rdEnd
 rw [if_neg (fun h => hx2 h.2)]
 rfl
theorem read_c (w : World) (l : List UInt8) (h : St W F cs w) : Calls prog 81 #[.string (bs l)] w fun r w' => ∃ rb, r = .returned (pz rb) ∧ St W F ([(rb, .cells #[.string (bs l), Vi (0 : Nat), Vi 0] 161 (0, 0))] :: cs) w'  := by
 refine enter (args := [.string (bs l)]) func81 rfl rfl rfl<|Wi<|C0 1 rfl<|We<|C0 1 rfl<|I0 (R2 (vs := [(0, .string (bs l))]) (cells := #[.string (bs l), Vi 0, Vi 0]) rfl (by kernel_rfl)) rfl<|J3 rfl h rfl fun b5 w1 h1=>C0 1 rfl<|Wg<|ret1 rfl rfl ⟨b5, rfl, h1⟩
theorem inf5 : Inf prog 5 (.int .u8 0) 1 1 := by unfold Inf; kernel_rfl
def hi (n : Nat) : List UInt8 := if n = 0 then [] else hi (n / 256) ++ [UInt8.ofNat n]
termination_by n
decreasing_by omega
theorem hi_0 : hi 0 = [] := by rw [hi, if_pos rfl]
theorem hi_s {n : Nat} (h : n ≠ 0) : hi n = hi (n / 256) ++ [UInt8.ofNat n] := by rw [hi, if_neg h]
theorem hi_lt (k : Nat) : ∀ n, k < (hi n).length ↔ 0 < n / 2 ^ (8 * k) := by
 induction k with
 |zero =>
  intro n
  by_cases h : n = 0
  ·subst h; rw [hi_0]; simp
  rw [hi_s h]; simp; omega
 |succ k ih =>
  intro n
  by_cases h : n = 0
  ·subst h; rw [hi_0]; simp
  rw [hi_s h, lA, List.length_singleton, Nat.add_lt_add_iff_right, ih]
  rw [show 8 * (k + 1) = 8 + 8 * k by omega, Nat.pow_add, ← Nat.div_div_eq_div_mul]
theorem hi_six {n : Nat} (h : n ≤ 1099511627776) : (hi n).length ≤ 6 := by
 rcases Nat.lt_or_ge 6 (hi n).length with h1 | h1
 ·have := (hi_lt 6 n).1 h1
  have h2 : n / 2 ^ (8 * 6) = 0 := Nat.div_eq_of_lt (by omega)
  omega
 exact h1
def numN (n : Nat) : List UInt8 := UInt8.ofNat (hi n).length :: hi n
def mayN (n : Int) : Prop := 0 ≤ n ∧ n ≤ 1099511627776
instance (n : Int) : Decidable (mayN n) := inferInstanceAs (Decidable (_ ∧ _))
def numB (n : Int) : List UInt8 := if mayN n then numN n.toNat else []
theorem numB_len (n : Int) : (numB n).length ≤ 7 := by
 unfold numB numN
 split
 ·rename_i h
  have := hi_six (n := n.toNat) (by have := h.2; omega)
  simp; omega
 simp
def textB (l : List UInt8) : List UInt8 := if 4096 < l.length then [] else numB (l.length : Int) ++ l
theorem hi_step {n k : Nat} (h : k < (hi n).length) : hi (n / 2 ^ (8 * k)) = hi (n / 2 ^ (8 * (k + 1))) ++ [UInt8.ofNat (n / 2 ^ (8 * k))] := by
 have := (hi_lt k n).1 h
 rw [hi_s (by omega)]
 rw [show 8 * (k + 1) = 8 * k + 8 by omega, Nat.pow_add, ← Nat.div_div_eq_div_mul]
theorem hi_end (n : Nat) : hi (n / 2 ^ (8 * (hi n).length)) = [] := by
 rcases Nat.eq_zero_or_pos (n / 2 ^ (8 * (hi n).length)) with h | h
 ·rw [h, hi_0]
 have := (hi_lt (hi n).length n).2 h
 omega
theorem node_dec (n : Int) : decide (-1 ≤ n ∧ n < 16) = (decide (-1 ≤ n) && decide (n < 16)) := by
 by_cases h1 : -1 ≤ n <;> by_cases h2 : n < 16 <;> simp [h1, h2]
theorem wnum_no (w : World) (n : Int) (h : St W F cs w) (hn : ¬ mayN n) : Calls prog 76 #[Vi n] w fun r w' => r = .returned (.string (bs (numB n))) ∧ St W F cs w'  := by
 refine enter (args := [Vi n]) func76 rfl rfl rfl<|Wi<|C0 1 rfl<|Wh<|C0 1 rfl<|C1 (cn func120) rfl rfl (may_n _ _ h hn) fun w1 h1 =>C0 1 rfl<|Wa<|J1 rfl (rfl)<|Wi<|C0 1 rfl<|Wg<|ret1 rfl rfl ⟨?_, h1⟩
 rw [numB, if_neg hn]; rfl
theorem wnum_y (w : World) (m : Nat) (h : St W F cs w) (hm : m ≤ 1099511627776) : Calls prog 76 #[Vi (m : Int)] w fun r w' => r = .returned (.string (bs (numN m))) ∧ St W F cs w'  := by
 refine enter (args := [Vi (m : Int)]) func76 rfl rfl rfl ?_
 have h6 := hi_six hm
 refine Wi<|C0 1 rfl<|Wh<|C0 1 rfl<|C1 (cn func120) rfl rfl (may_y _ _ h ⟨by omega, by omega⟩) fun w1 h1 =>C0 1 rfl<|Wa<|E1 rfl (rfl)<|Wk<|C0 1 rfl<|Wb<|M1<|B3 (σ := Nat) (fun q_ => [(0, Vi (m : Int)), (3, .int .i64 (q_ : Int))]) (fun q_ w => q_ ≤ (hi m).length ∧ St W F cs w) (fun q_ => (hi m).length - q_) (0) (⟨by omega, h1⟩) ?_
 rintro k w2 ⟨hk, hL⟩
 try dsimp only at hk hL
 refine W2 [(0, Vi (m : Int)), (3, .int .i64 (k : Int))] ?_
 have hlt := hi_lt k m
 refine N0<|Wi<|C0 2 rfl<|I0 (B4 rfl rfl (by omega)) rfl<|I0 (Runs.shrN (m := m) (n := 8 * k) rfl rfl (by omega) (by omega)) rfl<|I0 (Y1 rfl rfl) rfl<|Wa<|Z0 rfl (fun c3 => ?_) (fun c3 => ?_)
 ·try simp only [DD] at c3
  refine U0<|H0<|M1<|L0<|C0 1 rfl<|I0 (V0 rfl rfl (by omega)) rfl<|C0 1 rfl<|J0<|N1<|F1 (k + 1) (by have := hlt.2 (by omega); omega) ⟨rfl, rfl, trivial⟩ ⟨by have := hlt.2 (by omega); omega, hL⟩
 try simp only [DD] at c3
 refine U1<|B2<|WX.cut<|E2<|H0<|Wi<|C0 1 rfl<|I0 (W4 underlying3 underlying5 (m := k) rfl rfl) rfl<|X2 (vs := (([UInt8.ofNat k] : List UInt8)).map V8) hL rfl underlying120 inf5 rfl rfl rfl rfl rfl fun lit18 w4 h4=>C0 1 rfl<|Wh<|C0 1 rfl<|I0 (N3 rfl rfl (by omega)) rfl<|C0 1 rfl<|J0 (H0 (M1 ?_))
 have hk2 : k = (hi m).length := by
  rcases Nat.lt_or_ge k (hi m).length with h1 | h1
  ·have := hlt.1 h1; omega
  omega
 subst hk2
 refine B3 (σ := Nat × Res × Value) (fun q_ => [(0, Vi (m : Int)), (4, q_.2.2), (5, .int .i64 ((q_.1 : Int) - 1))]) (fun q_ w => q_.1 ≤ (hi m).length ∧ Row 5 V8 q_.2.1 q_.2.2 (UInt8.ofNat (hi m).length :: hi (m / 2 ^ (8 * q_.1))) ∧ St W F (q_.2.1 :: cs) w) (fun q_ => q_.1) (⟨(hi m).length, [(lit18, .cells #[V8 (UInt8.ofNat (hi m).length)] 5 (0, 0))], .slice (some ⟨lit18, 0, none⟩) 1 1⟩) (⟨Nat.le_refl _, by rw [hi_end]; exact Row.lit (f := V8) (xs := [UInt8.ofNat (hi m).length]) rfl, h4⟩) ?_
 rintro ⟨j, r, v⟩ w5 ⟨hj, hro, hL⟩
 try dsimp only at hj hro hL
 refine W2 [(0, Vi (m : Int)), (4, v), (5, .int .i64 ((j : Int) - 1))] ?_
 have hvf := hro.val
 have hll : (UInt8.ofNat (hi m).length :: hi (m / 2 ^ (8 * j))).length ≤ 100 := by
  have := hi_six (n := m / 2 ^ (8 * j)) (Nat.le_trans (Nat.div_le_self _ _) hm)
  rw [List.length_cons]; omega
 obtain ⟨A1, c1_, rfl, hcap⟩ := hvf
 refine N0<|Wi<|C0 1 rfl<|I0 (T1 rfl rfl) rfl<|Wa<|Z0 rfl (fun c6 => ?_) (fun c6 => ?_)
 ·try simp only [DD] at c6
  refine U0<|H0<|N0<|M1<|L0<|C0 3 rfl<|I0 (B4 rfl rfl (by omega)) rfl<|I0 (Runs.shrN (m := m) (n := 8 * (j - 1)) rfl rfl (by omega) (by omega)) rfl<|I0 (W4 underlying3 underlying5 (m := m / 2 ^ (8 * (j - 1))) rfl rfl) rfl<|X2 (vs := (([UInt8.ofNat (m / 2 ^ (8 * (j - 1)))] : List UInt8)).map V8) hL rfl underlying120 inf5 rfl rfl rfl rfl rfl fun lit31 w7 h7=>I3 (ys := ([UInt8.ofNat (m / 2 ^ (8 * (j - 1)))] : List UInt8)) 1 h7 rfl rfl rfl rfl underlying120 underlying120 (.inr ⟨_, rfl⟩) inf5 rfl hro (Src.lit h7 0 rfl rfl rfl) rfl rfl (by first | omega | (simp []; done) | (simp []; omega)) (by first | omega | (simp []; done) | (simp []; omega)) ?_
  intro r8 v8 w9 hr8 h9
  simp only [lz, ls] at h9
  replace h9 := h9.drop 0
  simp only [ez, es'] at h9
  refine C0 1 rfl<|J0<|N1<|H0<|L0<|C0 1 rfl<|I0 (N3 rfl rfl (by omega)) rfl<|C0 1 rfl<|J0<|F1 (⟨j - 1, r8, v8⟩ : Nat × Res × Value) (by show j - 1 < j; omega) ⟨rfl, rfl, ?_, trivial⟩ ⟨by show j - 1 ≤ _; omega, ?_, h9⟩
  ·show _ = some (Value.int .i64 (((j - 1 : Nat) : Int) - 1))
   rw [show ((j - 1 : Nat) : Int) = (j : Int) - 1 by omega]; rfl
  have := hr8
  show Row _ _ _ _ (_ :: hi (m / 2 ^ (8 * (j - 1))))
  rw [hi_step (k := j - 1) (by omega), show j - 1 + 1 = j by omega]
  exact this
 try simp only [DD] at c6
 refine U1 (B2 (WX.cut (E2 (H0 (N0 ?_)))))
 obtain rfl : j = 0 := by omega
 rw [show m / 2 ^ (8 * 0) = m by simp] at hro
 refine L0<|C0 1 rfl<|I0 (X1 (u := .string (bs (numN m))) (Y5 underlying120 underlying5 underlying9 rfl (by simp [numN]) (bs := numN m) (hro.wcell (i := 0) hL rfl rfl)) rfl) rfl<|C0 1 rfl<|Wg<|ret1 rfl rfl ⟨rfl, hL.drop 0⟩
theorem wnum_c (w : World) (n : Int) (h : St W F cs w) : Calls prog 76 #[Vi n] w fun r w' => r = .returned (.string (bs (numB n))) ∧ St W F cs w' := by
 by_cases hn : mayN n
 ·have e : n = ((n.toNat : Nat) : Int) := by have := hn.1; omega
  have h2 := hn.2
  rw [numB, if_pos hn]
  have := wnum_y w n.toNat h (by omega)
  rwa [← e] at this
 exact wnum_no w n h hn
theorem wtext_c (w : World) (l : List UInt8) (h : St W F cs w) (hl : l.length ≤ 100000) : Calls prog 78 #[.string (bs l)] w fun r w' => r = .returned (.string (bs (textB l))) ∧ St W F cs w'  := by
 refine enter (args := [.string (bs l)]) func78 rfl rfl rfl<|Wi<|C0 1 rfl<|Wh<|C0 1 rfl<|I0 (R0 (n := (l.length : Int)) (E3 underlying9 rfl rfl) rfl) rfl<|I0 (Y1 rfl rfl) rfl<|Wa<|Z0 rfl (fun c1 => ?_) (fun c1 => ?_)
 ·try simp only [DD] at c1
  refine Wi<|C0 1 rfl<|Wg<|ret1 rfl rfl ⟨?_, h⟩
  unfold textB
  rw [if_pos (by omega)]; rfl
 try simp only [DD] at c1
 refine Wk<|C0 1 rfl<|I0 (R0 (n := (l.length : Int)) (E3 underlying9 rfl rfl) rfl) rfl<|C1 (cn func76) rfl rfl (wnum_c _ _ h) fun w2 h2 =>C0 1 rfl<|I0 (M3 rfl rfl (by have := numB_len (l.length : Int); omega)) rfl<|C0 1 rfl<|Wg<|ret1 rfl rfl ⟨?_, h2⟩
 unfold textB
 rw [if_neg (by omega)]
theorem node_c (w : World) (n : Int) (h : St W F cs w) : Calls prog 119 #[Vi n] w fun r w' => r = .returned (.bool (decide (-1 ≤ n ∧ n < 16))) ∧ St W F cs w'  := by
 refine enter (args := [Vi n]) func119 rfl rfl rfl<|Wi<|C0 1 rfl<|J0 (H0 (N0 ?_))
 by_cases h0 : -1 ≤ n
 ·refine L0<|C0 1 rfl<|I0 (Bt (T1 rfl rfl) (dA h0)) rfl<|C0 2 rfl<|Q0 rfl<|I0 (Q1 rfl rfl) rfl<|C0 2 rfl<|Wg<|ret1 rfl rfl ⟨?_, h⟩
  rw [node_dec, dA h0]; rfl
 refine L0<|C0 1 rfl<|I0 (Bf (T1 rfl rfl) (dN h0)) rfl<|C0 5 rfl<|Wg<|ret1 rfl rfl ⟨?_, h⟩
 rw [node_dec, dN h0]; rfl
end Wir
end
end Go.Proofs.YtifdpllfbaogcaaGreat
