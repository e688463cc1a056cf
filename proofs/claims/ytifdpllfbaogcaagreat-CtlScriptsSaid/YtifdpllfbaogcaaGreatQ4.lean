/- Joined texts: C1 .. Sha10. -/
import Derived.Test.YtifdpllfbaogcaaGreatQ3
set_option linter.unusedVariables false
set_option linter.unusedSimpArgs false
set_option maxRecDepth 100000
set_option maxHeartbeats 32000000
namespace Go.Proofs.YtifdpllfbaogcaaGreat
open Go Go.RowKit B Tryz
variable {W : World} {F : Snap}
section
variable {cs : List Res}
open Wir (Vi mayN)
namespace Cr
theorem mixed : prog.follows .mixedOrders = true := by kernel_rfl
theorem inf3 : Inf prog 3 (.int .i64 0) 1 8 := by unfold Inf; kernel_rfl
structure C where
 jb : Int
 ep : Int
 st : Int
 fr : Int
 un : Int
 nd : List Int
 co : Int
def inB (n a b : Int) : Bool := decide (a ≤ n ∧ n ≤ b)
theorem in_dec (n a b : Int) : inB n a b = (decide (n ≥ a) && decide (n ≤ b)) := by
 unfold inB
 by_cases h1 : a ≤ n <;> by_cases h2 : n ≤ b <;> simp [h1, h2]
def epK (n : Int) : Prop := 0 ≤ n ∧ n ≤ 8
instance (n : Int) : Decidable (epK n) := inferInstanceAs (Decidable (_ ∧ _))
def coK (n : Int) : Prop := 1 ≤ n ∧ n ≤ 256
instance (n : Int) : Decidable (coK n) := inferInstanceAs (Decidable (_ ∧ _))
def lastOf (xs : List Int) (i : Nat) : Int := if i = 0 then -1 else xs.getD (i - 1) 0
def ndAt (xs : List Int) (i : Nat) : Prop := lastOf xs i < xs.getD i 0 ∧ xs.getD i 0 < 16
instance (xs : List Int) (i : Nat) : Decidable (ndAt xs i) := inferInstanceAs (Decidable (_ ∧ _))
def nodesOk (xs : List Int) : Prop := (∀ i, i < xs.length → ndAt xs i) ∧ 0 < xs.length
instance (xs : List Int) : Decidable (nodesOk xs) := inferInstanceAs (Decidable (_ ∧ _))
def okC (c : C) : Prop := mayN c.jb ∧ mayN c.st ∧ mayN c.fr ∧ mayN c.un ∧ epK c.ep ∧ coK c.co ∧ nodesOk c.nd
instance (c : C) : Decidable (okC c) := inferInstanceAs (Decidable (_ ∧ _ ∧ _ ∧ _ ∧ _ ∧ _ ∧ _))
def checkM (c : C) : Int := if okC c then 0 else 1
theorem ndCase (a b : Int) : b ≤ a ∨ (a < b ∧ 16 ≤ b) ∨ (a < b ∧ b < 16) := by omega
theorem first7 (P0 P1 P2 P3 P4 P5 P6 : Prop) : (¬ P0) ∨ (P0 ∧ ¬ P1) ∨ (P0 ∧ P1 ∧ ¬ P2) ∨ (P0 ∧ P1 ∧ P2 ∧ ¬ P3) ∨ (P0 ∧ P1 ∧ P2 ∧ P3 ∧ ¬ P4) ∨ (P0 ∧ P1 ∧ P2 ∧ P3 ∧ P4 ∧ ¬ P5) ∨ (P0 ∧ P1 ∧ P2 ∧ P3 ∧ P4 ∧ P5 ∧ ¬ P6) ∨ (P0 ∧ P1 ∧ P2 ∧ P3 ∧ P4 ∧ P5 ∧ P6) := by
 by_cases h0 : P0
 ·by_cases h1 : P1
  ·by_cases h2 : P2
   ·by_cases h3 : P3
    ·by_cases h4 : P4
     ·by_cases h5 : P5
      ·by_cases h6 : P6
       ·exact .inr (.inr (.inr (.inr (.inr (.inr (.inr (⟨h0, h1, h2, h3, h4, h5, h6⟩)))))))
       exact .inr (.inr (.inr (.inr (.inr (.inr (.inl ⟨h0, h1, h2, h3, h4, h5, h6⟩))))))
      exact .inr (.inr (.inr (.inr (.inr (.inl ⟨h0, h1, h2, h3, h4, h5⟩)))))
     exact .inr (.inr (.inr (.inr (.inl ⟨h0, h1, h2, h3, h4⟩))))
    exact .inr (.inr (.inr (.inl ⟨h0, h1, h2, h3⟩)))
   exact .inr (.inr (.inl ⟨h0, h1, h2⟩))
  exact .inr (.inl ⟨h0, h1⟩)
 exact .inl h0
theorem in_c (w : World) (n a b : Int) (h : St W F cs w) : Calls prog 183 #[Vi n, Vi a, Vi b] w fun r w' => r = .returned (.bool (inB n a b)) ∧ St W F cs w'  := by
 refine enter (args := [Vi n, Vi a, Vi b]) func183 rfl rfl rfl<|Wi<|C0 1 rfl<|J0 (H0 (N0 ?_))
 by_cases h0 : n ≥ a
 ·refine L0<|C0 2 rfl<|I0 (Bt (T1 rfl rfl) (dA h0)) rfl<|C0 3 rfl<|Q0 rfl<|I0 (Z1 rfl rfl) rfl<|C0 2 rfl<|Wg<|ret1 rfl rfl ⟨?_, h⟩
  rw [in_dec, dA h0]; rfl
 refine L0<|C0 2 rfl<|I0 (Bf (T1 rfl rfl) (dN h0)) rfl<|C0 6 rfl<|Wg<|ret1 rfl rfl ⟨?_, h⟩
 rw [in_dec, dN h0]; rfl
theorem check1_c (w : World) (n : Int) (h : St W F cs w) : Calls prog 182 #[Vi n] w fun r w' => r = .returned (.bool (decide (mayN n))) ∧ St W F cs w'  := by
 refine enter (args := [Vi n]) func182 rfl rfl rfl<|Wi<|C0 1 rfl<|We<|C0 1 rfl<|C1 (cn func183) rfl rfl (in_c _ n 0 1099511627776 h) fun w1 h1 =>C0 1 rfl<|Wg<|ret1 rfl rfl ⟨rfl, h1⟩
theorem nodes_c (w : World) {A : Option Addr} {cap : Nat} {xs : List Int} (h : St W F cs w) (hR : RdS (Kd.one Vi) F A xs) (hn : xs.length ≤ 9223372036854775807) : Calls prog 184 #[.slice A xs.length cap] w fun r w' => r = .returned (.bool (decide (nodesOk xs))) ∧ St W F cs w'  := by
 refine enter (args := [.slice A xs.length cap]) func184 rfl rfl rfl<|Wi<|C0 1 rfl<|We<|C0 1 rfl<|Wh<|C0 1 rfl<|I0 (R0 (n := (xs.length : Int)) (Y0 underlying33 rfl rfl) rfl) rfl<|C0 1 rfl<|Wj<|B3 (σ := Nat) (fun q_ => [(0, .slice A xs.length cap), (3, Vi (lastOf xs q_)), (6, .slice A xs.length cap), (7, .int .i64 (xs.length : Int)), (8, .int .i64 (q_ : Int))]) (fun q_ w => q_ ≤ xs.length ∧ (∀ j, j < q_ → ndAt xs j) ∧ St W F cs w) (fun q_ => xs.length - q_) (0) (⟨Nat.zero_le _, fun j hj => absurd hj (Nat.not_lt_zero _), h⟩) ?_
 rintro i w1 ⟨hi, hall, hL⟩
 try dsimp only at hi hall hL
 refine W2 [(0, .slice A xs.length cap), (3, Vi (lastOf xs i)), (6, .slice A xs.length cap), (7, .int .i64 (xs.length : Int)), (8, .int .i64 (i : Int))]<|Wi<|I0 (Q1 rfl rfl) rfl<|Wb<|Z0 rfl (fun c2 => ?_) (fun c2 => ?_)
 ·try simp only [DD] at c2
  refine U0 (H0 (N0 (M1 (N0 ?_))))
  obtain ⟨ad, rfl, hrd⟩ := rd1 hR (by omega)
  have hi2 : i < xs.length := by omega
  refine L0<|I0 (W0 underlying33 inf3 rfl rfl (n := i) rfl (by omega)) rfl<|I0 (I1 (f := Vi) (0 : Int) hL hrd (n := i) (by omega) underlying3 rfl rfl) rfl<|C0 1 rfl<|J0 (H0 (N0 (N0 ?_)))
  rcases ndCase (lastOf xs i) (xs.getD i 0) with hx | ⟨hx, hy⟩ | ⟨hx, hy⟩
  ·refine L0<|C0 2 rfl<|I0 (Bt (Z1 rfl rfl) (dA (by omega))) rfl<|C0 4 rfl<|Wa<|J1 rfl (rfl)<|Wi<|C0 1 rfl<|J0 (H0 (O1 ?_))
   have hz : ¬ nodesOk xs := fun hh => by
    have h9 := hh.1 i hi2
    unfold ndAt at h9
    omega
   refine ret1 rfl rfl ⟨?_, hL⟩
   rw [dN hz]
  ·refine L0<|C0 2 rfl<|I0 (Bf (Z1 rfl rfl) (dN (by omega))) rfl<|C0 2 rfl<|Q0 rfl<|I0 (Bt (T1 rfl rfl) (dA (by omega))) rfl<|C0 1 rfl<|Wa<|J1 rfl (rfl)<|Wi<|C0 1 rfl<|J0 (H0 (O1 ?_))
   have hz : ¬ nodesOk xs := fun hh => by
    have h9 := hh.1 i hi2
    unfold ndAt at h9
    omega
   refine ret1 rfl rfl ⟨?_, hL⟩
   rw [dN hz]
  refine L0<|C0 2 rfl<|I0 (Bf (Z1 rfl rfl) (dN (by omega))) rfl<|C0 2 rfl<|Q0 rfl<|I0 (Bf (T1 rfl rfl) (dN (by omega))) rfl<|C0 1 rfl<|Wa<|E1 rfl (rfl)<|U0<|H0<|L0<|C0 2 rfl<|J0<|N1<|H0<|L0<|I0 (V0 rfl rfl (by omega)) rfl<|C0 1 rfl<|J0<|F1 (i + 1) (by omega) ⟨rfl, rfl, rfl, rfl, rfl, trivial⟩ ⟨by omega, fun j hj => (by
   by_cases e : j = i
   ·subst e; exact ⟨hx, hy⟩
   exact hall j (by omega)), hL⟩
 try simp only [DD] at c2
 refine U1<|B2<|WX.cut<|E2<|H0<|Wi<|C0 1 rfl<|I0 (R0 (n := (xs.length : Int)) (Y0 underlying33 rfl rfl) rfl) rfl<|I0 (Y1 rfl rfl) rfl<|C0 1 rfl<|J0 (H0 (O1 ?_))
 have he : decide (nodesOk xs) = decide ((0 : Int) < (xs.length : Int)) := decide_eq_decide.2 ⟨fun hh => by have := hh.2; omega, fun hh => ⟨fun j hj => hall j (by omega), by omega⟩⟩
 refine ret1 rfl rfl ⟨?_, hL⟩
 rw [he]
theorem check_c (w : World) {A : Option Addr} {cap : Nat} {c : C} (h : St W F cs w) (hR : RdS (Kd.one Vi) F A c.nd) (hn : c.nd.length ≤ 9223372036854775807) : Calls prog 175 #[.agg #[Vi c.jb, Vi c.ep, Vi c.st, Vi c.fr, Vi c.un, .slice A c.nd.length cap, Vi c.co]] w fun r w' => r = .returned (Vi (checkM c)) ∧ St W F cs w'  := by
 refine enter (args := [.agg #[Vi c.jb, Vi c.ep, Vi c.st, Vi c.fr, Vi c.un, .slice A c.nd.length cap, Vi c.co]]) func175 rfl rfl rfl<|Wi<|J3 rfl h rfl fun b1 w1 h1=>C0 1 rfl<|We<|C0 1 rfl<|J0 (H0 (N0 (N0 ?_)))
 rcases first7 (mayN c.jb) (mayN c.st) (mayN c.fr) (mayN c.un) (epK c.ep) (coK c.co) (nodesOk c.nd) with q0 | ⟨q0, q1⟩ | ⟨q0, q1, q2⟩ | ⟨q0, q1, q2, q3⟩ | ⟨q0, q1, q2, q3, q4⟩ | ⟨q0, q1, q2, q3, q4, q5⟩ | ⟨q0, q1, q2, q3, q4, q5, q6⟩ | ⟨q0, q1, q2, q3, q4, q5, q6⟩
 ·refine L0<|H1 h1 [0] 3 rfl<|S3 (cn func182) rfl rfl rfl (check1_c _ c.jb h1) ?_
  rintro _ w2 ⟨rfl, h2⟩
  refine ⟨_, rfl,I0 (Bt (R1 rfl) (by rw [dN q0]; rfl)) rfl<|C0 39 rfl<|Wa<|J1 rfl (rfl)<|Wi<|C0 1 rfl<|Wg<|ret1 rfl rfl ⟨?_, h2.drop 0⟩⟩
  rw [show checkM c = 1 from if_neg (fun hh => q0 hh.1)]
 ·refine L0<|H1 h1 [0] 3 rfl<|S3 (cn func182) rfl rfl rfl (check1_c _ c.jb h1) ?_
  rintro _ w3 ⟨rfl, h3⟩
  refine ⟨_, rfl,I0 (Bf (R1 rfl) (by rw [dA q0]; rfl)) rfl<|H1 h3 [0] 4 rfl<|Q0 rfl<|S3 (cn func182) rfl rfl rfl (check1_c _ c.st h3) ?_⟩
  rintro _ w4 ⟨rfl, h4⟩
  refine ⟨_, rfl,Q0 rfl<|I0 (Bt (R1 rfl) (by rw [dN q1]; rfl)) rfl<|C0 33 rfl<|Wa<|J1 rfl (rfl)<|Wi<|C0 1 rfl<|Wg<|ret1 rfl rfl ⟨?_, h4.drop 0⟩⟩
  rw [show checkM c = 1 from if_neg (fun hh => q1 hh.2.1)]
 ·refine L0<|H1 h1 [0] 3 rfl<|S3 (cn func182) rfl rfl rfl (check1_c _ c.jb h1) ?_
  rintro _ w5 ⟨rfl, h5⟩
  refine ⟨_, rfl,I0 (Bf (R1 rfl) (by rw [dA q0]; rfl)) rfl<|H1 h5 [0] 4 rfl<|Q0 rfl<|S3 (cn func182) rfl rfl rfl (check1_c _ c.st h5) ?_⟩
  rintro _ w6 ⟨rfl, h6⟩
  refine ⟨_, rfl,Q0 rfl<|I0 (Bf (R1 rfl) (by rw [dA q1]; rfl)) rfl<|H1 h6 [0] 5 rfl<|Q0 rfl<|S3 (cn func182) rfl rfl rfl (check1_c _ c.fr h6) ?_⟩
  rintro _ w7 ⟨rfl, h7⟩
  refine ⟨_, rfl,Q0 rfl<|I0 (Bt (R1 rfl) (by rw [dN q2]; rfl)) rfl<|C0 26 rfl<|Wa<|J1 rfl (rfl)<|Wi<|C0 1 rfl<|Wg<|ret1 rfl rfl ⟨?_, h7.drop 0⟩⟩
  rw [show checkM c = 1 from if_neg (fun hh => q2 hh.2.2.1)]
 ·refine L0<|H1 h1 [0] 3 rfl<|S3 (cn func182) rfl rfl rfl (check1_c _ c.jb h1) ?_
  rintro _ w8 ⟨rfl, h8⟩
  refine ⟨_, rfl,I0 (Bf (R1 rfl) (by rw [dA q0]; rfl)) rfl<|H1 h8 [0] 4 rfl<|Q0 rfl<|S3 (cn func182) rfl rfl rfl (check1_c _ c.st h8) ?_⟩
  rintro _ w9 ⟨rfl, h9⟩
  refine ⟨_, rfl,Q0 rfl<|I0 (Bf (R1 rfl) (by rw [dA q1]; rfl)) rfl<|H1 h9 [0] 5 rfl<|Q0 rfl<|S3 (cn func182) rfl rfl rfl (check1_c _ c.fr h9) ?_⟩
  rintro _ w10 ⟨rfl, h10⟩
  refine ⟨_, rfl,Q0 rfl<|I0 (Bf (R1 rfl) (by rw [dA q2]; rfl)) rfl<|H1 h10 [0] 5 rfl<|Q0 rfl<|S3 (cn func182) rfl rfl rfl (check1_c _ c.un h10) ?_⟩
  rintro _ w11 ⟨rfl, h11⟩
  refine ⟨_, rfl,Q0 rfl<|I0 (Bt (R1 rfl) (by rw [dN q3]; rfl)) rfl<|C0 19 rfl<|Wa<|J1 rfl (rfl)<|Wi<|C0 1 rfl<|Wg<|ret1 rfl rfl ⟨?_, h11.drop 0⟩⟩
  rw [show checkM c = 1 from if_neg (fun hh => q3 hh.2.2.2.1)]
 ·refine L0<|H1 h1 [0] 3 rfl<|S3 (cn func182) rfl rfl rfl (check1_c _ c.jb h1) ?_
  rintro _ w12 ⟨rfl, h12⟩
  refine ⟨_, rfl,I0 (Bf (R1 rfl) (by rw [dA q0]; rfl)) rfl<|H1 h12 [0] 4 rfl<|Q0 rfl<|S3 (cn func182) rfl rfl rfl (check1_c _ c.st h12) ?_⟩
  rintro _ w13 ⟨rfl, h13⟩
  refine ⟨_, rfl,Q0 rfl<|I0 (Bf (R1 rfl) (by rw [dA q1]; rfl)) rfl<|H1 h13 [0] 5 rfl<|Q0 rfl<|S3 (cn func182) rfl rfl rfl (check1_c _ c.fr h13) ?_⟩
  rintro _ w14 ⟨rfl, h14⟩
  refine ⟨_, rfl,Q0 rfl<|I0 (Bf (R1 rfl) (by rw [dA q2]; rfl)) rfl<|H1 h14 [0] 5 rfl<|Q0 rfl<|S3 (cn func182) rfl rfl rfl (check1_c _ c.un h14) ?_⟩
  rintro _ w15 ⟨rfl, h15⟩
  refine ⟨_, rfl,Q0 rfl<|I0 (Bf (R1 rfl) (by rw [dA q3]; rfl)) rfl<|H1 h15 [0] 4 rfl<|Q0 rfl<|C1 (cn func183) rfl rfl ((show Calls _ _ _ _ (fun r w' => r = .returned (.bool (decide (epK c.ep))) ∧ St W F _ w') from in_c _ c.ep 0 8 h15)) fun w16 h16 =>Q0 rfl<|I0 (Bt (R1 rfl) (by rw [dN q4]; rfl)) rfl<|C0 13 rfl<|Wa<|J1 rfl (rfl)<|Wi<|C0 1 rfl<|Wg<|ret1 rfl rfl ⟨?_, h16.drop 0⟩⟩
  rw [show checkM c = 1 from if_neg (fun hh => q4 hh.2.2.2.2.1)]
 ·refine L0<|H1 h1 [0] 3 rfl<|S3 (cn func182) rfl rfl rfl (check1_c _ c.jb h1) ?_
  rintro _ w17 ⟨rfl, h17⟩
  refine ⟨_, rfl,I0 (Bf (R1 rfl) (by rw [dA q0]; rfl)) rfl<|H1 h17 [0] 4 rfl<|Q0 rfl<|S3 (cn func182) rfl rfl rfl (check1_c _ c.st h17) ?_⟩
  rintro _ w18 ⟨rfl, h18⟩
  refine ⟨_, rfl,Q0 rfl<|I0 (Bf (R1 rfl) (by rw [dA q1]; rfl)) rfl<|H1 h18 [0] 5 rfl<|Q0 rfl<|S3 (cn func182) rfl rfl rfl (check1_c _ c.fr h18) ?_⟩
  rintro _ w19 ⟨rfl, h19⟩
  refine ⟨_, rfl,Q0 rfl<|I0 (Bf (R1 rfl) (by rw [dA q2]; rfl)) rfl<|H1 h19 [0] 5 rfl<|Q0 rfl<|S3 (cn func182) rfl rfl rfl (check1_c _ c.un h19) ?_⟩
  rintro _ w20 ⟨rfl, h20⟩
  refine ⟨_, rfl,Q0 rfl<|I0 (Bf (R1 rfl) (by rw [dA q3]; rfl)) rfl<|H1 h20 [0] 4 rfl<|Q0 rfl<|C1 (cn func183) rfl rfl ((show Calls _ _ _ _ (fun r w' => r = .returned (.bool (decide (epK c.ep))) ∧ St W F _ w') from in_c _ c.ep 0 8 h20)) fun w21 h21 =>Q0 rfl<|I0 (Bf (R1 rfl) (by rw [dA q4]; rfl)) rfl<|H1 h21 [0] 4 rfl<|Q0 rfl<|C1 (cn func183) rfl rfl ((show Calls _ _ _ _ (fun r w' => r = .returned (.bool (decide (coK c.co))) ∧ St W F _ w') from in_c _ c.co 1 256 h21)) fun w22 h22 =>Q0 rfl<|I0 (Bt (R1 rfl) (by rw [dN q5]; rfl)) rfl<|C0 7 rfl<|Wa<|J1 rfl (rfl)<|Wi<|C0 1 rfl<|Wg<|ret1 rfl rfl ⟨?_, h22.drop 0⟩⟩
  rw [show checkM c = 1 from if_neg (fun hh => q5 hh.2.2.2.2.2.1)]
 ·refine L0<|H1 h1 [0] 3 rfl<|S3 (cn func182) rfl rfl rfl (check1_c _ c.jb h1) ?_
  rintro _ w23 ⟨rfl, h23⟩
  refine ⟨_, rfl,I0 (Bf (R1 rfl) (by rw [dA q0]; rfl)) rfl<|H1 h23 [0] 4 rfl<|Q0 rfl<|S3 (cn func182) rfl rfl rfl (check1_c _ c.st h23) ?_⟩
  rintro _ w24 ⟨rfl, h24⟩
  refine ⟨_, rfl,Q0 rfl<|I0 (Bf (R1 rfl) (by rw [dA q1]; rfl)) rfl<|H1 h24 [0] 5 rfl<|Q0 rfl<|S3 (cn func182) rfl rfl rfl (check1_c _ c.fr h24) ?_⟩
  rintro _ w25 ⟨rfl, h25⟩
  refine ⟨_, rfl,Q0 rfl<|I0 (Bf (R1 rfl) (by rw [dA q2]; rfl)) rfl<|H1 h25 [0] 5 rfl<|Q0 rfl<|S3 (cn func182) rfl rfl rfl (check1_c _ c.un h25) ?_⟩
  rintro _ w26 ⟨rfl, h26⟩
  refine ⟨_, rfl,Q0 rfl<|I0 (Bf (R1 rfl) (by rw [dA q3]; rfl)) rfl<|H1 h26 [0] 4 rfl<|Q0 rfl<|C1 (cn func183) rfl rfl ((show Calls _ _ _ _ (fun r w' => r = .returned (.bool (decide (epK c.ep))) ∧ St W F _ w') from in_c _ c.ep 0 8 h26)) fun w27 h27 =>Q0 rfl<|I0 (Bf (R1 rfl) (by rw [dA q4]; rfl)) rfl<|H1 h27 [0] 4 rfl<|Q0 rfl<|C1 (cn func183) rfl rfl ((show Calls _ _ _ _ (fun r w' => r = .returned (.bool (decide (coK c.co))) ∧ St W F _ w') from in_c _ c.co 1 256 h27)) fun w28 h28 =>Q0 rfl<|I0 (Bf (R1 rfl) (by rw [dA q5]; rfl)) rfl<|H1 h28 [0] 4 rfl<|Q0 rfl<|C1 (cn func184) rfl rfl (nodes_c _ h28 hR hn) fun w29 h29 =>Q0 rfl<|I0 (Bt (R1 rfl) (by rw [dN q6]; rfl)) rfl<|C0 1 rfl<|Wa<|J1 rfl (rfl)<|Wi<|C0 1 rfl<|Wg<|ret1 rfl rfl ⟨?_, h29.drop 0⟩⟩
  rw [show checkM c = 1 from if_neg (fun hh => q6 hh.2.2.2.2.2.2)]
 refine L0<|H1 h1 [0] 3 rfl<|S3 (cn func182) rfl rfl rfl (check1_c _ c.jb h1) ?_
 rintro _ w30 ⟨rfl, h30⟩
 refine ⟨_, rfl,I0 (Bf (R1 rfl) (by rw [dA q0]; rfl)) rfl<|H1 h30 [0] 4 rfl<|Q0 rfl<|S3 (cn func182) rfl rfl rfl (check1_c _ c.st h30) ?_⟩
 rintro _ w31 ⟨rfl, h31⟩
 refine ⟨_, rfl,Q0 rfl<|I0 (Bf (R1 rfl) (by rw [dA q1]; rfl)) rfl<|H1 h31 [0] 5 rfl<|Q0 rfl<|S3 (cn func182) rfl rfl rfl (check1_c _ c.fr h31) ?_⟩
 rintro _ w32 ⟨rfl, h32⟩
 refine ⟨_, rfl,Q0 rfl<|I0 (Bf (R1 rfl) (by rw [dA q2]; rfl)) rfl<|H1 h32 [0] 5 rfl<|Q0 rfl<|S3 (cn func182) rfl rfl rfl (check1_c _ c.un h32) ?_⟩
 rintro _ w33 ⟨rfl, h33⟩
 refine ⟨_, rfl,Q0 rfl<|I0 (Bf (R1 rfl) (by rw [dA q3]; rfl)) rfl<|H1 h33 [0] 4 rfl<|Q0 rfl<|C1 (cn func183) rfl rfl ((show Calls _ _ _ _ (fun r w' => r = .returned (.bool (decide (epK c.ep))) ∧ St W F _ w') from in_c _ c.ep 0 8 h33)) fun w34 h34 =>Q0 rfl<|I0 (Bf (R1 rfl) (by rw [dA q4]; rfl)) rfl<|H1 h34 [0] 4 rfl<|Q0 rfl<|C1 (cn func183) rfl rfl ((show Calls _ _ _ _ (fun r w' => r = .returned (.bool (decide (coK c.co))) ∧ St W F _ w') from in_c _ c.co 1 256 h34)) fun w35 h35 =>Q0 rfl<|I0 (Bf (R1 rfl) (by rw [dA q5]; rfl)) rfl<|H1 h35 [0] 4 rfl<|Q0 rfl<|C1 (cn func184) rfl rfl (nodes_c _ h35 hR hn) fun w36 h36 =>Q0 rfl<|I0 (Bf (R1 rfl) (by rw [dA q6]; rfl)) rfl<|C0 1 rfl<|Wa<|E1 rfl (rfl)<|Wk<|C0 1 rfl<|Wg<|ret1 rfl rfl ⟨?_, h36.drop 0⟩⟩
 rw [show checkM c = 0 from if_pos ⟨q0, q1, q2, q3, q4, q5, q6⟩]
end Cr
namespace Wir
theorem inf119 : Inf prog 119 (.pointer none) 1 8 := by unfold Inf; kernel_rfl
theorem inf120 : Inf prog 120 (.slice none 0 0) 1 24 := by unfold Inf; kernel_rfl
theorem inf122 : Inf prog 122 (.agg #[.pointer none, .slice none 0 0]) 2 32 := by unfold Inf; kernel_rfl
theorem fld42_0 : fldB prog 42 0 0 = true := by kernel_rfl
theorem fld42_1 : fldB prog 42 1 1 = true := by kernel_rfl
theorem fld42_2 : fldB prog 42 2 2 = true := by kernel_rfl
theorem fld42_3 : fldB prog 42 3 3 = true := by kernel_rfl
theorem fld42_4 : fldB prog 42 4 4 = true := by kernel_rfl
theorem fld42_5 : fldB prog 42 5 5 = true := by kernel_rfl
theorem fld42_6 : fldB prog 42 6 6 = true := by kernel_rfl
theorem conj9 (P0 P1 P2 P3 P4 P5 P6 P7 P8 : Prop) : (¬ P0) ∨ (P0 ∧ ¬ P1) ∨ (P0 ∧ P1 ∧ ¬ P2) ∨ (P0 ∧ P1 ∧ P2 ∧ ¬ P3) ∨ (P0 ∧ P1 ∧ P2 ∧ P3 ∧ ¬ P4) ∨ (P0 ∧ P1 ∧ P2 ∧ P3 ∧ P4 ∧ ¬ P5) ∨ (P0 ∧ P1 ∧ P2 ∧ P3 ∧ P4 ∧ P5 ∧ ¬ P6) ∨ (P0 ∧ P1 ∧ P2 ∧ P3 ∧ P4 ∧ P5 ∧ P6 ∧ ¬ P7) ∨ (P0 ∧ P1 ∧ P2 ∧ P3 ∧ P4 ∧ P5 ∧ P6 ∧ P7 ∧ ¬ P8) ∨ (P0 ∧ P1 ∧ P2 ∧ P3 ∧ P4 ∧ P5 ∧ P6 ∧ P7 ∧ P8) := by
 by_cases h0 : P0
 rotate_left
 ·exact .inl h0
 by_cases h1 : P1
 rotate_left
 ·exact .inr (.inl ⟨h0, h1⟩)
 by_cases h2 : P2
 rotate_left
 ·exact .inr (.inr (.inl ⟨h0, h1, h2⟩))
 by_cases h3 : P3
 rotate_left
 ·exact .inr (.inr (.inr (.inl ⟨h0, h1, h2, h3⟩)))
 by_cases h4 : P4
 rotate_left
 ·exact .inr (.inr (.inr (.inr (.inl ⟨h0, h1, h2, h3, h4⟩))))
 by_cases h5 : P5
 rotate_left
 ·exact .inr (.inr (.inr (.inr (.inr (.inl ⟨h0, h1, h2, h3, h4, h5⟩)))))
 by_cases h6 : P6
 rotate_left
 ·exact .inr (.inr (.inr (.inr (.inr (.inr (.inl ⟨h0, h1, h2, h3, h4, h5, h6⟩))))))
 by_cases h7 : P7
 rotate_left
 ·exact .inr (.inr (.inr (.inr (.inr (.inr (.inr (.inl ⟨h0, h1, h2, h3, h4, h5, h6, h7⟩)))))))
 by_cases h8 : P8
 rotate_left
 ·exact .inr (.inr (.inr (.inr (.inr (.inr (.inr (.inr (.inl ⟨h0, h1, h2, h3, h4, h5, h6, h7, h8⟩))))))))
 exact .inr (.inr (.inr (.inr (.inr (.inr (.inr (.inr (.inr ⟨h0, h1, h2, h3, h4, h5, h6, h7, h8⟩))))))))
structure M where
 k : Int
 f : Int
 t : Int
 j : Int
 ep : Int
 st : Int
 ar : Int
 tx : List UInt8
def M.val (m : M) : Value := .agg #[Vi m.k, Vi m.f, Vi m.t, Vi m.j, Vi m.ep, Vi m.st, Vi m.ar, .string (bs m.tx)]
def mayM (m : M) : Prop := 0 ≤ m.k ∧ m.k < 10 ∧ (-1 ≤ m.f ∧ m.f < 16) ∧ (-1 ≤ m.t ∧ m.t < 16) ∧ mayN m.j ∧ mayN m.ep ∧ mayN m.st ∧ mayN m.ar ∧ (m.tx.length : Int) ≤ 4096
instance (m : M) : Decidable (mayM m) := inferInstanceAs (Decidable (_ ∧ _))
theorem node_y (w : World) (n : Int) (h : St W F cs w) (hn : -1 ≤ n ∧ n < 16) : Calls prog 119 #[Vi n] w fun r w' => r = .returned (.bool true) ∧ St W F cs w' := (node_c w n h).mono fun r w' ⟨h1, h2⟩ => ⟨by rw [h1, dA hn], h2⟩
theorem node_n (w : World) (n : Int) (h : St W F cs w) (hn : ¬ (-1 ≤ n ∧ n < 16)) : Calls prog 119 #[Vi n] w fun r w' => r = .returned (.bool false) ∧ St W F cs w' := (node_c w n h).mono fun r w' ⟨h1, h2⟩ => ⟨by rw [h1, dN hn], h2⟩
theorem message_c (w : World) (m : M) (h : St W F cs w) : Calls prog 74 #[m.val] w fun r w' => r = .returned (.bool (decide (mayM m))) ∧ St W F cs w'  := by
 refine enter (args := [.agg #[Vi m.k, Vi m.f, Vi m.t, Vi m.j, Vi m.ep, Vi m.st, Vi m.ar, .string (bs m.tx)]]) func74 rfl rfl rfl<|Wi<|J3 rfl h rfl fun b1 w1 h1=>C0 1 rfl<|J0 (H0 (N0 ?_))
 rcases conj9 (0 ≤ m.k) (m.k < 10) ((-1 ≤ m.f ∧ m.f < 16)) ((-1 ≤ m.t ∧ m.t < 16)) (mayN m.j) (mayN m.ep) (mayN m.st) (mayN m.ar) ((m.tx.length : Int) ≤ 4096) with q0 | ⟨q0, q1⟩ | ⟨q0, q1, q2⟩ | ⟨q0, q1, q2, q3⟩ | ⟨q0, q1, q2, q3, q4⟩ | ⟨q0, q1, q2, q3, q4, q5⟩ | ⟨q0, q1, q2, q3, q4, q5, q6⟩ | ⟨q0, q1, q2, q3, q4, q5, q6, q7⟩ | ⟨q0, q1, q2, q3, q4, q5, q6, q7, q8⟩ | ⟨q0, q1, q2, q3, q4, q5, q6, q7, q8⟩
 ·refine L0<|H1 h1 [0] 2 rfl<|I0 (Bf (T1 rfl rfl) (dN q0)) rfl<|C0 42 rfl<|Wg<|ret1 rfl rfl ⟨?_, h1.drop 0⟩
  rw [dN (show ¬ mayM m from fun hh => q0 hh.1)]; rfl
 ·refine L0<|H1 h1 [0] 2 rfl<|I0 (Bt (T1 rfl rfl) (dA q0)) rfl<|H1 h1 [0] 3 rfl<|Q0 rfl<|I0 (Bf (Q1 rfl rfl) (dN q1)) rfl<|C0 38 rfl<|Wg<|ret1 rfl rfl ⟨?_, h1.drop 0⟩
  rw [dN (show ¬ mayM m from fun hh => q1 hh.2.1)]; rfl
 ·refine L0<|H1 h1 [0] 2 rfl<|I0 (Bt (T1 rfl rfl) (dA q0)) rfl<|H1 h1 [0] 3 rfl<|Q0 rfl<|I0 (Bt (Q1 rfl rfl) (dA q1)) rfl<|H1 h1 [0] 4 rfl<|Q0 rfl<|C1 (cn func119) rfl rfl (node_n _ _ h1 q2) fun w2 h2 =>C0 33 rfl<|Wg<|ret1 rfl rfl ⟨?_, h2.drop 0⟩
  rw [dN (show ¬ mayM m from fun hh => q2 hh.2.2.1)]; rfl
 ·refine L0<|H1 h1 [0] 2 rfl<|I0 (Bt (T1 rfl rfl) (dA q0)) rfl<|H1 h1 [0] 3 rfl<|Q0 rfl<|I0 (Bt (Q1 rfl rfl) (dA q1)) rfl<|H1 h1 [0] 4 rfl<|Q0 rfl<|C1 (cn func119) rfl rfl (node_y _ _ h1 q2) fun w3 h3 =>H1 h3 [0] 4 rfl<|Q0 rfl<|C1 (cn func119) rfl rfl (node_n _ _ h3 q3) fun w4 h4 =>C0 28 rfl<|Wg<|ret1 rfl rfl ⟨?_, h4.drop 0⟩
  rw [dN (show ¬ mayM m from fun hh => q3 hh.2.2.2.1)]; rfl
 ·refine L0<|H1 h1 [0] 2 rfl<|I0 (Bt (T1 rfl rfl) (dA q0)) rfl<|H1 h1 [0] 3 rfl<|Q0 rfl<|I0 (Bt (Q1 rfl rfl) (dA q1)) rfl<|H1 h1 [0] 4 rfl<|Q0 rfl<|C1 (cn func119) rfl rfl (node_y _ _ h1 q2) fun w5 h5 =>H1 h5 [0] 4 rfl<|Q0 rfl<|C1 (cn func119) rfl rfl (node_y _ _ h5 q3) fun w6 h6 =>H1 h6 [0] 4 rfl<|Q0 rfl<|C1 (cn func120) rfl rfl (may_n _ _ h6 q4) fun w7 h7 =>C0 23 rfl<|Wg<|ret1 rfl rfl ⟨?_, h7.drop 0⟩
  rw [dN (show ¬ mayM m from fun hh => q4 hh.2.2.2.2.1)]; rfl
 ·refine L0<|H1 h1 [0] 2 rfl<|I0 (Bt (T1 rfl rfl) (dA q0)) rfl<|H1 h1 [0] 3 rfl<|Q0 rfl<|I0 (Bt (Q1 rfl rfl) (dA q1)) rfl<|H1 h1 [0] 4 rfl<|Q0 rfl<|C1 (cn func119) rfl rfl (node_y _ _ h1 q2) fun w8 h8 =>H1 h8 [0] 4 rfl<|Q0 rfl<|C1 (cn func119) rfl rfl (node_y _ _ h8 q3) fun w9 h9 =>H1 h9 [0] 4 rfl<|Q0 rfl<|C1 (cn func120) rfl rfl (may_y _ _ h9 q4) fun w10 h10 =>H1 h10 [0] 4 rfl<|Q0 rfl<|C1 (cn func120) rfl rfl (may_n _ _ h10 q5) fun w11 h11 =>C0 18 rfl<|Wg<|ret1 rfl rfl ⟨?_, h11.drop 0⟩
  rw [dN (show ¬ mayM m from fun hh => q5 hh.2.2.2.2.2.1)]; rfl
 ·refine L0<|H1 h1 [0] 2 rfl<|I0 (Bt (T1 rfl rfl) (dA q0)) rfl<|H1 h1 [0] 3 rfl<|Q0 rfl<|I0 (Bt (Q1 rfl rfl) (dA q1)) rfl<|H1 h1 [0] 4 rfl<|Q0 rfl<|C1 (cn func119) rfl rfl (node_y _ _ h1 q2) fun w12 h12 =>H1 h12 [0] 4 rfl<|Q0 rfl<|C1 (cn func119) rfl rfl (node_y _ _ h12 q3) fun w13 h13 =>H1 h13 [0] 4 rfl<|Q0 rfl<|C1 (cn func120) rfl rfl (may_y _ _ h13 q4) fun w14 h14 =>H1 h14 [0] 4 rfl<|Q0 rfl<|C1 (cn func120) rfl rfl (may_y _ _ h14 q5) fun w15 h15 =>H1 h15 [0] 4 rfl<|Q0 rfl<|C1 (cn func120) rfl rfl (may_n _ _ h15 q6) fun w16 h16 =>C0 13 rfl<|Wg<|ret1 rfl rfl ⟨?_, h16.drop 0⟩
  rw [dN (show ¬ mayM m from fun hh => q6 hh.2.2.2.2.2.2.1)]; rfl
 ·refine L0<|H1 h1 [0] 2 rfl<|I0 (Bt (T1 rfl rfl) (dA q0)) rfl<|H1 h1 [0] 3 rfl<|Q0 rfl<|I0 (Bt (Q1 rfl rfl) (dA q1)) rfl<|H1 h1 [0] 4 rfl<|Q0 rfl<|C1 (cn func119) rfl rfl (node_y _ _ h1 q2) fun w17 h17 =>H1 h17 [0] 4 rfl<|Q0 rfl<|C1 (cn func119) rfl rfl (node_y _ _ h17 q3) fun w18 h18 =>H1 h18 [0] 4 rfl<|Q0 rfl<|C1 (cn func120) rfl rfl (may_y _ _ h18 q4) fun w19 h19 =>H1 h19 [0] 4 rfl<|Q0 rfl<|C1 (cn func120) rfl rfl (may_y _ _ h19 q5) fun w20 h20 =>H1 h20 [0] 4 rfl<|Q0 rfl<|C1 (cn func120) rfl rfl (may_y _ _ h20 q6) fun w21 h21 =>H1 h21 [0] 4 rfl<|Q0 rfl<|C1 (cn func120) rfl rfl (may_n _ _ h21 q7) fun w22 h22 =>C0 8 rfl<|Wg<|ret1 rfl rfl ⟨?_, h22.drop 0⟩
  rw [dN (show ¬ mayM m from fun hh => q7 hh.2.2.2.2.2.2.2.1)]; rfl
 ·refine L0<|H1 h1 [0] 2 rfl<|I0 (Bt (T1 rfl rfl) (dA q0)) rfl<|H1 h1 [0] 3 rfl<|Q0 rfl<|I0 (Bt (Q1 rfl rfl) (dA q1)) rfl<|H1 h1 [0] 4 rfl<|Q0 rfl<|C1 (cn func119) rfl rfl (node_y _ _ h1 q2) fun w23 h23 =>H1 h23 [0] 4 rfl<|Q0 rfl<|C1 (cn func119) rfl rfl (node_y _ _ h23 q3) fun w24 h24 =>H1 h24 [0] 4 rfl<|Q0 rfl<|C1 (cn func120) rfl rfl (may_y _ _ h24 q4) fun w25 h25 =>H1 h25 [0] 4 rfl<|Q0 rfl<|C1 (cn func120) rfl rfl (may_y _ _ h25 q5) fun w26 h26 =>H1 h26 [0] 4 rfl<|Q0 rfl<|C1 (cn func120) rfl rfl (may_y _ _ h26 q6) fun w27 h27 =>H1 h27 [0] 4 rfl<|Q0 rfl<|C1 (cn func120) rfl rfl (may_y _ _ h27 q7) fun w28 h28 =>H1 h28 [0] 4 rfl<|Q0 rfl<|I0 (R0 (n := (m.tx.length : Int)) (E3 underlying9 rfl rfl) rfl) rfl<|Q0 rfl<|I0 (Bf (Z1 rfl rfl) (dN q8)) rfl<|C0 2 rfl<|Wg<|ret1 rfl rfl ⟨?_, h28.drop 0⟩
  rw [dN (show ¬ mayM m from fun hh => q8 hh.2.2.2.2.2.2.2.2)]; rfl
 refine L0<|H1 h1 [0] 2 rfl<|I0 (Bt (T1 rfl rfl) (dA q0)) rfl<|H1 h1 [0] 3 rfl<|Q0 rfl<|I0 (Bt (Q1 rfl rfl) (dA q1)) rfl<|H1 h1 [0] 4 rfl<|Q0 rfl<|C1 (cn func119) rfl rfl (node_y _ _ h1 q2) fun w29 h29 =>H1 h29 [0] 4 rfl<|Q0 rfl<|C1 (cn func119) rfl rfl (node_y _ _ h29 q3) fun w30 h30 =>H1 h30 [0] 4 rfl<|Q0 rfl<|C1 (cn func120) rfl rfl (may_y _ _ h30 q4) fun w31 h31 =>H1 h31 [0] 4 rfl<|Q0 rfl<|C1 (cn func120) rfl rfl (may_y _ _ h31 q5) fun w32 h32 =>H1 h32 [0] 4 rfl<|Q0 rfl<|C1 (cn func120) rfl rfl (may_y _ _ h32 q6) fun w33 h33 =>H1 h33 [0] 4 rfl<|Q0 rfl<|C1 (cn func120) rfl rfl (may_y _ _ h33 q7) fun w34 h34 =>H1 h34 [0] 4 rfl<|Q0 rfl<|I0 (R0 (n := (m.tx.length : Int)) (E3 underlying9 rfl rfl) rfl) rfl<|Q0 rfl<|I0 (Bt (Z1 rfl rfl) (dA q8)) rfl<|C0 2 rfl<|Wg<|ret1 rfl rfl ⟨?_, h34.drop 0⟩
 rw [dA (show mayM m from ⟨q0, q1, q2, q3, q4, q5, q6, q7, q8⟩)]; rfl
theorem cc_c (w : World) {bb : Nat} {pp v : Value} (h : St W F ([(bb, .cells #[pp, v] 122 (0, 0))] :: cs) w) (hpp : pp = .pointer none) : Calls prog 121 #[pz bb] w fun r w' => r = .returned (.tuple #[]) ∧ St W F ([(bb, .cells #[pz bb, v] 122 (0, 0))] :: cs) w'  := by
 refine enter (args := [pz bb]) func121 rfl rfl rfl ?_
 subst hpp
 refine Wi<|H1 h [0] 4 rfl<|I0 (L2 underlying119 rfl rfl) rfl<|Wa<|J1 rfl (rfl)<|L0<|C0 2 rfl<|I0 (Runs.toUnsafe h (i := 0) rfl underlying119 underlying188 inf122 rfl (by show 0 < 2; decide) rfl) rfl<|I0 (Runs.same func153 (by kernel_rfl) (by kernel_rfl) (by kernel_rfl) (by kernel_rfl) rfl) rfl<|I0 (Runs.fromUnsafe h (i := 0) rfl underlying188 underlying119 inf122 (cells := 2) rfl (by kernel_rfl) rfl) rfl<|C0 2 rfl<|O3 h 0 rfl rfl rfl inf119 rfl rfl ?_
 intro  w1 h1
 try simp only [ZZ] at h1
 refine J0<|end0 rfl ⟨rfl, h1⟩
theorem cc_s (w : World) {bb : Nat} {pp v : Value} (h : St W F ([(bb, .cells #[pp, v] 122 (0, 0))] :: cs) w) (hpp : pp = pz bb) : Calls prog 121 #[pz bb] w fun r w' => r = .returned (.tuple #[]) ∧ St W F ([(bb, .cells #[pz bb, v] 122 (0, 0))] :: cs) w'  := by
 refine enter (args := [pz bb]) func121 rfl rfl rfl ?_
 subst hpp
 refine Wi<|H1 h [0] 4 rfl<|I0 (L2 underlying119 rfl rfl) rfl<|Wa<|E1 rfl (rfl)<|Wi<|H1 h [0] 5 rfl<|I0 (Runs.pneqS underlying119 inf122 rfl rfl) rfl<|Wa<|E1 rfl (rfl)<|U0<|end0 rfl ⟨rfl, h⟩
theorem wstr_c (w : World) {bb : Nat} {pp v : Value} {r0 : Res} {xs : List UInt8} (l : List UInt8) (h : St W F ([(bb, .cells #[pp, v] 122 (0, 0))] :: r0 :: cs) w) (hpp : pp = .pointer none ∨ pp = pz bb) (hr : Row 5 V8 r0 v xs) (hb : xs.length + l.length ≤ 10000000) : Calls prog 75 #[pz bb, .string (bs l)] w fun r w' => ∃ r1 v1, r = .returned (.tuple #[Vi l.length, .nilIface]) ∧ Row 5 V8 r1 v1 (xs ++ l) ∧ St W F ([(bb, .cells #[pz bb, v1] 122 (0, 0))] :: r1 :: cs) w'  := by
 refine enter (args := [pz bb, .string (bs l)]) func75 rfl rfl rfl ?_
 obtain ⟨Ao, co, rfl, hcap⟩ := hr.val
 refine Wi<|C0 2 rfl<|We<|C0 1 rfl<|C1 (cn func121) rfl rfl ((hpp.elim (cc_c _ h) (cc_s _ h))) fun w1 h1 =>We<|H1 h1 [0] 6 rfl<|I3 (ys := l) 1 h1 rfl rfl rfl rfl underlying120 underlying9 (.inl rfl) inf5 rfl hr (Src.str) rfl rfl (by first | omega | (simp [bs_size]; done) | (simp [bs_size]; omega)) (by first | omega | (simp [bs_size]; done) | (simp [bs_size]; omega)) ?_
 intro r2 v2 w3 hr2 h3
 simp only [lz, ls] at h3
 obtain ⟨A2, c2, hv2, hcap2⟩ := (hr2).val
 subst hv2
 refine C0 2 rfl<|O3 h3 0 rfl rfl rfl inf120 rfl rfl ?_
 intro  w4 h4
 try simp only [ZZ] at h4
 refine We<|C0 1 rfl<|I0 (R0 (n := (l.length : Int)) (E3 underlying9 rfl rfl) rfl) rfl<|C0 2 rfl<|Wg<|ret2 rfl rfl rfl ⟨_, _, rfl, hr2, h4⟩
theorem str_c (w : World) {bb : Nat} {pp v : Value} {r0 : Res} {xs : List UInt8} (h : St W F ([(bb, .cells #[pp, v] 122 (0, 0))] :: r0 :: cs) w) (hr : Row 5 V8 r0 v xs) (h0 : xs ≠ []) (hb : xs.length ≤ 10000000) : Calls prog 77 #[pz bb] w fun r w' => r = .returned (.string (bs xs)) ∧ St W F cs w'  := by
 refine enter (args := [pz bb]) func77 rfl rfl rfl ?_
 have hpos : 0 < xs.length := List.length_pos_iff.2 h0
 obtain ⟨b, zs, fz, rfl, rfl, hfr⟩ := Row.blk hr hpos
 refine Wi<|C0 1 rfl<|Wb<|T5 h (fun s_ => ([10] : List Nat).any (Nat.beq s_)) mixed (by kernel_rfl)<|fun hx =>fun w1 h1=>J4 hx 12 [3, 8] [0, 1, 2, 5, 6, 7, 3, 8] [0, 0] rfl<|Z2 hx 9 (by rfl) (fun w_ => Y0 underlying120 rfl rfl) rfl<|F3 4 h1 (by rfl)<|I0 (Runs.usd rfl (by omega)) rfl<|J0<|H2<|F3 10 h1 (by rfl)<|WL.ustr h1 1 rfl underlying159 (by kernel_rfl) h0 (by omega) rfl rfl rfl ?_
 intro fz2 w2 h2
 try simp only [ZZ] at h2
 refine J0<|H2<|L3 hx [11] rfl<|H3 (.inl ⟨10, rfl, by kernel_rfl⟩) (by kernel_rfl)<|H0<|O1<|ret1 rfl rfl ⟨rfl, (h2.drop 0).drop 0⟩
theorem inf42 : Inf prog 42 (.agg #[.int .i64 0, .int .i64 0, .int .i64 0, .int .i64 0, .int .i64 0, .int .i64 0, .int .i64 0, .string ⟨#[]⟩]) 8 72 := by unfold Inf; kernel_rfl
def okL (xs : List Int) : Prop := ∀ x ∈ xs, mayN x
instance (xs : List Int) : Decidable (okL xs) := inferInstanceAs (Decidable (∀ x ∈ xs, mayN x))
def listB (xs : List Int) : List UInt8 := if 4096 < xs.length then [] else if okL xs then numB (xs.length : Int) ++ xs.flatMap numB else []
theorem flat_len (xs : List Int) : (xs.flatMap numB).length ≤ 7 * xs.length := by
 induction xs with
 |nil => simp
 |cons x xs ih => have := numB_len x; rw [List.flatMap_cons, lA, List.length_cons]; omega
theorem flat_take {xs : List Int} {k : Nat} (h : k < xs.length) : (xs.take (k + 1)).flatMap numB = (xs.take k).flatMap numB ++ numB (xs.getD k 0) := by
 have e : xs.take (k + 1) = xs.take k ++ [xs.getD k 0] := by
  rw [List.take_add_one, gE h, gD, gE h]; rfl
 rw [e, List.flatMap_append]
 simp
theorem numB_ne {n : Int} (h : mayN n) : numB n ≠ [] := by
 unfold numB numN
 rw [if_pos h]
 simp
def numsM (m : M) : List Int := [m.k, m.f + 1, m.t + 1, m.j, m.ep, m.st, m.ar]
def encB (m : M) : List UInt8 := if mayM m then (numsM m).flatMap numB ++ textB m.tx else []
theorem nums_at (m : M) {k : Nat} (hk : k < 7) : (#[Vi m.k, Vi (m.f + 1), Vi (m.t + 1), Vi m.j, Vi m.ep, Vi m.st, Vi m.ar])[k]? = some (Vi ((numsM m).getD k 0)) := by
 have : k = 0 ∨ k = 1 ∨ k = 2 ∨ k = 3 ∨ k = 4 ∨ k = 5 ∨ k = 6 := by omega
 rcases this with rfl | rfl | rfl | rfl | rfl | rfl | rfl <;> rfl
theorem text_len {l : List UInt8} (h : l.length ≤ 100000) : (textB l).length ≤ 200000 := by
 unfold textB
 split
 ·simp
 have := numB_len (l.length : Int)
 rw [lA]; omega
theorem wlist_c (w : World) {A : Option Addr} {cap : Nat} {xs : List Int} (h : St W F cs w) (hR : RdS (Kd.one Vi) F A xs) (hn : xs.length ≤ 100000) : Calls prog 176 #[.slice A xs.length cap] w fun r w' => r = .returned (.string (bs (listB xs))) ∧ St W F cs w'  := by
 refine enter (args := [.slice A xs.length cap]) func176 rfl rfl rfl<|Wi<|C0 1 rfl<|Wh<|C0 1 rfl<|I0 (Y0 underlying33 rfl rfl) rfl<|I0 (Y1 rfl rfl) rfl<|Wa<|Z0 rfl (fun c1 => ?_) (fun c1 => ?_)
 ·try simp only [DD] at c1
  refine Wi<|C0 1 rfl<|Wg<|ret1 rfl rfl ⟨?_, h⟩
  unfold listB
  rw [if_pos (by omega)]; rfl
 try simp only [DD] at c1
 refine Wk<|O2 rfl h inf122 fun b3 w2 h2=>J0 (H0 (N0 ?_))
 have hB0 : St W F ([(b3, .cells #[.pointer none, .slice none 0 0] 122 (0, 0))] :: [] :: cs) w2 := (h2.nilRes).perm (List.Perm.swap _ _ _)
 refine L0<|C0 1 rfl<|I0 (Y0 underlying33 rfl rfl) rfl<|C1 (cn func76) rfl rfl (wnum_c _ _ hB0) fun w3 h3 =>V1 (cn func75) rfl rfl (wstr_c _ _ h3 (.inl rfl) (Row.nil _ _) (by have := numB_len (xs.length : Int); simp; omega)) ?_
 rintro _ w4 ⟨r1, v1, rfl, hr1, h4⟩
 refine ⟨_, rfl, ?_⟩
 rw [List.nil_append] at hr1
 refine Wh<|C0 1 rfl<|I0 (Y0 underlying33 rfl rfl) rfl<|C0 1 rfl<|Wj<|B3 (σ := Nat × Res × Value) (fun q_ => [(3, pz b3), (13, .slice A xs.length cap), (14, .int .i64 (xs.length : Int)), (15, .int .i64 (q_.1 : Int))]) (fun q_ w => q_.1 ≤ xs.length ∧ (∀ j, j < q_.1 → mayN (xs.getD j 0)) ∧ Row 5 V8 q_.2.1 q_.2.2 (numB (xs.length : Int) ++ (xs.take q_.1).flatMap numB) ∧ St W F ([(b3, .cells #[pz b3, q_.2.2] 122 (0, 0))] :: q_.2.1 :: cs) w) (fun q_ => xs.length - q_.1) (⟨0, r1, v1⟩) (⟨by omega, fun j hj => absurd hj (Nat.not_lt_zero _), by simpa using hr1, h4⟩) ?_
 rintro ⟨k, r, v⟩ w5 ⟨hk, hok, hro, hL⟩
 try dsimp only at hk hok hro hL
 refine W2 [(3, pz b3), (13, .slice A xs.length cap), (14, .int .i64 (xs.length : Int)), (15, .int .i64 (k : Int))] ?_
 have hfl := flat_len (xs.take k)
 rw [List.length_take] at hfl
 refine Wi<|I0 (Q1 rfl rfl) rfl<|Wb<|Z0 rfl (fun c6 => ?_) (fun c6 => ?_)
 ·try simp only [DD] at c6
  refine U0 (H0 (N0 (M1 (N0 ?_))))
  obtain ⟨ad, rfl, hrd⟩ := rd1 hR (by omega)
  refine L0<|I0 (W0 underlying33 inf3 rfl rfl (n := k) rfl (by omega)) rfl<|I0 (I1 (f := Vi) (0 : Int) hL hrd (n := k) (by omega) underlying3 rfl rfl) rfl<|C0 1 rfl<|J0 (H0 (N0 (N0 ?_)))
  by_cases hmy : mayN (xs.getD k 0)
  ·refine L0<|C0 1 rfl<|C1 (cn func120) rfl rfl (may_y _ _ hL hmy) fun w7 h7 =>C0 1 rfl<|Wa<|E1 rfl (rfl)<|U0<|H0<|L0<|C0 1 rfl<|C1 (cn func76) rfl rfl (wnum_c _ _ h7) fun w8 h8 =>V1 (cn func75) rfl rfl (wstr_c _ _ h8 (.inr rfl) hro (by have := numB_len (xs.length : Int); have := numB_len (xs.getD k 0); rw [lA]; omega)) ?_
   rintro _ w9 ⟨r2, v2, rfl, hr2, h9⟩
   refine ⟨_, rfl,J0<|N1<|H0<|L0<|I0 (V0 rfl rfl (by omega)) rfl<|C0 1 rfl<|J0<|F1 (⟨k + 1, r2, v2⟩ : Nat × Res × Value) (by show xs.length - (k + 1) < xs.length - k; omega) ⟨rfl, rfl, rfl, rfl, trivial⟩ ⟨by show k + 1 ≤ _; omega, fun j hj => ?_, ?_, h9⟩⟩
   ·have hj : j < k + 1 := hj
    by_cases e : j = k
    ·subst e; exact hmy
    exact hok j (by omega)
   show Row _ _ _ _ (_ ++ (xs.take (k + 1)).flatMap numB)
   rw [flat_take (by omega), ← List.append_assoc]
   exact hr2
  refine L0<|C0 1 rfl<|C1 (cn func120) rfl rfl (may_n _ _ hL hmy) fun w10 h10 =>C0 1 rfl<|Wa<|J1 rfl (rfl)<|Wi<|C0 1 rfl<|Wg<|ret1 rfl rfl ⟨?_, (h10.drop 0).drop 0⟩
  unfold listB
  rw [if_neg (by omega), if_neg (fun hh => hmy (hh _ (by
   rw [gD, gE (by omega)]; exact List.getElem_mem _)))]; rfl
 try simp only [DD] at c6
 refine U1 (B2 (WX.cut (E2 (H0 (N0 ?_)))))
 obtain rfl : k = xs.length := by omega
 rw [List.take_of_length_le (Nat.le_refl _)] at *
 refine L0<|C1 (cn func77) rfl rfl (str_c _ hL hro (fun e => numB_ne (n := (xs.length : Int)) ⟨by omega, by omega⟩ (List.append_eq_nil_iff.1 e).1) (by have := numB_len (xs.length : Int); rw [lA]; omega)) fun w11 h11 =>C0 1 rfl<|J0 (H0 (O1 ?_))
 have hall : okL xs := fun x hx => by
  obtain ⟨j, hj, e⟩ := List.getElem_of_mem hx
  have := hok j hj
  rwa [gD, gE hj, Option.getD_some, e] at this
 refine ret1 rfl rfl ⟨?_, h11⟩
 unfold listB
 rw [if_neg (by omega), if_pos hall]
theorem enc_c (w : World) (m : M) (h : St W F cs w) (hl : m.tx.length ≤ 100000) : Calls prog 33 #[m.val] w fun r w' => r = .returned (.string (bs (encB m))) ∧ St W F cs w'  := by
 refine enter (args := [.agg #[Vi m.k, Vi m.f, Vi m.t, Vi m.j, Vi m.ep, Vi m.st, Vi m.ar, .string (bs m.tx)]]) func33 rfl rfl rfl<|Wi<|J3 rfl h rfl fun b1 w1 h1=>C0 1 rfl<|J0 (H0 (N0 (N0 ?_)))
 by_cases hmy : mayM m
 ·refine L0<|I0 (U2 h1 0 rfl underlying42 rfl inf42 rfl rfl) rfl<|C1 (cn func74) rfl rfl (message_c _ m h1) fun w2 h2 =>C0 1 rfl<|Wa<|E1 rfl ((by rw [dA hmy]; rfl))<|Wk<|O2 rfl h2 inf122 fun b3 w3 h3=>J0 (H0 (N0 (N0 ?_)))
  have hB0 : St W F ([(b3, .cells #[.pointer none, .slice none 0 0] 122 (0, 0))] :: [] :: [(b1, .cells #[Vi m.k, Vi m.f, Vi m.t, Vi m.j, Vi m.ep, Vi m.st, Vi m.ar, .string (bs m.tx)] 42 (0, 0))] :: cs) w3 := (h3.nilRes).perm (List.Perm.swap _ _ _)
  have hmy2 := hmy
  obtain ⟨q0, q1, q2, q3, q4, q5, q6, q7, q8⟩ := hmy2
  refine L0<|H1 hB0 [2, 2] 4 rfl<|I0 (V0 rfl rfl (by omega)) rfl<|H1 hB0 [2] 2 rfl<|I0 (V0 rfl rfl (by omega)) rfl<|H1 hB0 [2, 2, 2, 2] 8 rfl<|I0 (R2 (vs := [(0, Vi m.k), (1, Vi (m.f + 1)), (2, Vi (m.t + 1)), (3, Vi m.j), (4, Vi m.ep), (5, Vi m.st), (6, Vi m.ar)]) (cells := #[Vi m.k, Vi (m.f + 1), Vi (m.t + 1), Vi m.j, Vi m.ep, Vi m.st, Vi m.ar]) rfl (by kernel_rfl)) rfl<|C0 1 rfl<|Wj<|B3 (σ := Nat × Res × Value × Value) (fun q_ => [(1, pz b1), (3, pz b3), (25, .agg #[Vi m.k, Vi (m.f + 1), Vi (m.t + 1), Vi m.j, Vi m.ep, Vi m.st, Vi m.ar]), (26, .int .i64 (q_.1 : Int))]) (fun q_ w => q_.1 ≤ 7 ∧ (q_.2.2.2 = .pointer none ∨ q_.2.2.2 = pz b3) ∧ Row 5 V8 q_.2.1 q_.2.2.1 (((numsM m).take q_.1).flatMap numB) ∧ St W F ([(b3, .cells #[q_.2.2.2, q_.2.2.1] 122 (0, 0))] :: q_.2.1 :: [(b1, .cells #[Vi m.k, Vi m.f, Vi m.t, Vi m.j, Vi m.ep, Vi m.st, Vi m.ar, .string (bs m.tx)] 42 (0, 0))] :: cs) w) (fun q_ => 7 - q_.1) (⟨0, [], .slice none 0 0, .pointer none⟩) (⟨by omega, .inl rfl, Row.nil _ _, hB0⟩) ?_
  rintro ⟨k, r, v, pp⟩ w4 ⟨hk, hpp, hro, hL⟩
  try dsimp only at hk hpp hro hL
  refine W2 [(1, pz b1), (3, pz b3), (25, .agg #[Vi m.k, Vi (m.f + 1), Vi (m.t + 1), Vi m.j, Vi m.ep, Vi m.st, Vi m.ar]), (26, .int .i64 (k : Int))] ?_
  have hfl := flat_len ((numsM m).take k)
  rw [List.length_take, show (numsM m).length = 7 from rfl] at hfl
  refine Wi<|I0 (Q1 rfl rfl) rfl<|Wb<|Z0 rfl (fun c5 => ?_) (fun c5 => ?_)
  ·try simp only [DD] at c5
   refine U0<|H0<|N0<|M1<|Wi<|I0 (R0 (n := (numsM m).getD k 0) (F6 underlying123 underlying3 rfl inf3 rfl rfl (n := k) rfl (by omega) (u := Vi ((numsM m).getD k 0)) (nums_at m (by omega))) rfl) rfl<|C0 1 rfl<|Wf<|C0 1 rfl<|C1 (cn func76) rfl rfl (wnum_c _ _ hL) fun w6 h6 =>V1 (cn func75) rfl rfl (wstr_c _ _ h6 hpp hro (by have := numB_len ((numsM m).getD k 0); omega)) ?_
   rintro _ w7 ⟨r2, v2, rfl, hr2, h7⟩
   refine ⟨_, rfl,J0<|N1<|H0<|L0<|I0 (V0 rfl rfl (by omega)) rfl<|C0 1 rfl<|J0<|F1 (⟨k + 1, r2, v2, pz b3⟩ : Nat × Res × Value × Value) (by show 7 - (k + 1) < 7 - k; omega) ⟨rfl, rfl, rfl, rfl, trivial⟩ ⟨by show k + 1 ≤ _; omega, .inr rfl, ?_, h7⟩⟩
   show Row _ _ _ _ (((numsM m).take (k + 1)).flatMap numB)
   rw [flat_take (by show k < 7; omega)]
   exact hr2
  try simp only [DD] at c5
  refine U1 (B2 (WX.cut (E2 (H0 (N0 ?_)))))
  obtain rfl : k = 7 := by omega
  rw [show (numsM m).take 7 = numsM m from rfl] at *
  have hne : (numsM m).flatMap numB ≠ [] := fun e => numB_ne (n := m.k) ⟨hmy.1, by have := hmy.2.1; omega⟩ (List.append_eq_nil_iff.1 e).1
  obtain ⟨G, gl, g0, S0⟩ := hL.freeze (i := 2) rfl
  have hm7 : cellF G ⟨b1, 7, none⟩ = some (.string (bs m.tx)) := by unfold cellF; simp only [g0 _ List.mem_cons_self]; rfl
  replace S0 : St W G ([(b3, .cells #[pp, v] 122 (0, 0))] :: r :: cs) w4 := S0
  refine WC.eregF S0 (fun s_ => ([] : List Nat).any (Nat.beq s_)) mixed (by kernel_rfl)<|fun hx =>fun w8 h8=>L3 hx [1] rfl<|V3 12 hx 2 (by rfl) (fun w_ hE_ => Exists.elim hE_ (fun cs_ hC_ => K0 underlying9 rfl rfl (hC_.cell hm7))) rfl<|F3 0 (EC.mk h8 (Le.refl _)) (by rfl)<|C1 (cn func77) rfl rfl (str_c _ h8 hro hne (by omega)) fun w9 h9 =>J0<|H2<|F3 3 (EC.mk h9 (Le.refl _)) (by rfl)<|C1 (cn func78) rfl rfl (wtext_c _ _ h9 hl) fun w10 h10 =>J0<|H2<|Z2 hx 4 (by rfl) (fun w_ => M3 rfl rfl (by have := text_len hl; omega)) rfl<|L3 hx [5] rfl<|H3 (.inr (EC.mk h10 (Le.refl _))) (by kernel_rfl)<|H0<|O1<|ret1 rfl rfl ⟨?_, h10.weak gl⟩
  unfold encB
  rw [if_pos hmy]
 refine L0<|I0 (U2 h1 0 rfl underlying42 rfl inf42 rfl rfl) rfl<|C1 (cn func74) rfl rfl (message_c _ m h1) fun w11 h11 =>C0 1 rfl<|Wa<|J1 rfl ((by rw [dN hmy]; rfl))<|Wi<|C0 1 rfl<|Wg<|ret1 rfl rfl ⟨?_, h11.drop 0⟩
 unfold encB
 rw [if_neg hmy]; rfl
theorem rdN_bnd (l : List UInt8) (p : Nat) (e : Int) : (rdN l p e).1 ≤ 1099511627776 := by
 unfold rdN
 split
 ·simp
 split
 ·rename_i h
  show rval l p ≤ _
  unfold rerr at h
  unfold rval
  split at h
  ·cases h
  split at h
  ·cases h
  split at h
  ·cases h
  split at h
  ·cases h
  rename_i h4
  omega
 simp
theorem readN_c (w : World) {rb p : Nat} {e : Int} {l : List UInt8} (h : St W F ([(rb, .cells #[.string (bs l), Vi (p), Vi (e)] 161 (0, 0))] :: cs) w) (hl : l.length ≤ 9223372036854775807) (hp : p ≤ l.length) : Calls prog 82 #[pz rb] w fun r w' => r = .returned (Vi ((rdN l p e).1 : Nat)) ∧ St W F ([(rb, .cells #[.string (bs l), Vi (((rdN l p e).2.1 : Nat)), Vi ((rdN l p e).2.2)] 161 (0, 0))] :: cs) w' := by
 by_cases he : e = 0
 ·subst he
  exact readN_on w h (i := 0) rfl hl hp
 have e1 : rdN l p e = (0, p, e) := by unfold rdN; rw [if_pos he]
 rw [e1]
 exact readN_off w h (i := 0) rfl he
theorem readT_c (w : World) {rb p : Nat} {e : Int} {l : List UInt8} (h : St W F ([(rb, .cells #[.string (bs l), Vi (p), Vi (e)] 161 (0, 0))] :: cs) w) (hl : l.length ≤ 9223372036854775807) (hp : p ≤ l.length) : Calls prog 83 #[pz rb] w fun r w' => r = .returned (.string (bs (rdT l p e).1)) ∧ St W F ([(rb, .cells #[.string (bs l), Vi (((rdT l p e).2.1 : Nat)), Vi ((rdT l p e).2.2)] 161 (0, 0))] :: cs) w' := by
 by_cases he : e = 0
 ·subst he
  exact readT_on w h (i := 0) rfl hl hp
 have e1 : rdT l p e = ([], p, e) := by unfold rdT; rw [if_pos he]
 rw [e1]
 exact readT_off w h (i := 0) rfl he
def D0 (l : List UInt8) : Nat × Nat × Int := rdN l 0 0
def D1 (l : List UInt8) : Nat × Nat × Int := rdN l (D0 l).2.1 (D0 l).2.2
def D2 (l : List UInt8) : Nat × Nat × Int := rdN l (D1 l).2.1 (D1 l).2.2
def D3 (l : List UInt8) : Nat × Nat × Int := rdN l (D2 l).2.1 (D2 l).2.2
def D4 (l : List UInt8) : Nat × Nat × Int := rdN l (D3 l).2.1 (D3 l).2.2
def D5 (l : List UInt8) : Nat × Nat × Int := rdN l (D4 l).2.1 (D4 l).2.2
def D6 (l : List UInt8) : Nat × Nat × Int := rdN l (D5 l).2.1 (D5 l).2.2
def DT (l : List UInt8) := rdT l (D6 l).2.1 (D6 l).2.2
def decM (l : List UInt8) : M := ⟨(D0 l).1, ((D1 l).1 : Int) - 1, ((D2 l).1 : Int) - 1, (D3 l).1, (D4 l).1, (D5 l).1, (D6 l).1, (DT l).1⟩
def decE (l : List UInt8) : Int := (rdEnd l (DT l).2.1 (DT l).2.2).1
def M0 : M := ⟨0, 0, 0, 0, 0, 0, 0, []⟩
def decB (l : List UInt8) : M × Int := if decE l ≠ 0 then (M0, decE l) else if mayM (decM l) then (decM l, 0) else (M0, 5)
theorem dec_c (w : World) (l : List UInt8) (h : St W F cs w) (hl : l.length ≤ 9223372036854775807) : Calls prog 38 #[.string (bs l)] w fun r w' => r = .returned (.tuple #[(decB l).1.val, Vi (decB l).2]) ∧ St W F cs w'  := by
 refine enter (args := [.string (bs l)]) func38 rfl rfl rfl<|Wi<|O2 rfl h inf42 fun b2 w1 h1=>C0 1 rfl<|We<|C0 1 rfl<|V1 (cn func81) rfl rfl (read_c _ l h1) ?_
 rintro _ w2 ⟨rb, rfl, h2⟩
 refine ⟨_, rfl,C0 1 rfl<|We<|C0 1 rfl<|C1 (cn func82) rfl rfl (readN_c _ (p := 0) (e := 0) h2 hl (by omega)) fun w3 h3 => ?_⟩
 replace h3 : St W F ([(rb, .cells #[.string (bs l), Vi (((D0 l).2.1 : Nat)), Vi ((D0 l).2.2)] 161 (0, 0))] :: [(b2, .cells #[Vi 0, Vi 0, Vi 0, Vi 0, Vi 0, Vi 0, Vi 0, .string ⟨#[]⟩] 42 (0, 0))] :: cs) w3 := h3
 have hp0 : (D0 l).2.1 ≤ l.length := rdN_le _ (by omega)
 have hb0 : (D0 l).1 ≤ 1099511627776 := rdN_bnd _ _ _
 refine C0 1 rfl<|C1 (cn func82) rfl rfl (readN_c _ (p := (D0 l).2.1) (e := (D0 l).2.2) h3 hl hp0) fun w4 h4 => ?_
 replace h4 : St W F ([(rb, .cells #[.string (bs l), Vi (((D1 l).2.1 : Nat)), Vi ((D1 l).2.2)] 161 (0, 0))] :: [(b2, .cells #[Vi 0, Vi 0, Vi 0, Vi 0, Vi 0, Vi 0, Vi 0, .string ⟨#[]⟩] 42 (0, 0))] :: cs) w4 := h4
 have hp1 : (D1 l).2.1 ≤ l.length := rdN_le _ hp0
 have hb1 : (D1 l).1 ≤ 1099511627776 := rdN_bnd _ _ _
 refine I0 (N3 (m := ((D1 l).1 : Int)) rfl rfl (by omega)) rfl<|C0 1 rfl<|C1 (cn func82) rfl rfl (readN_c _ (p := (D1 l).2.1) (e := (D1 l).2.2) h4 hl hp1) fun w5 h5 => ?_
 replace h5 : St W F ([(rb, .cells #[.string (bs l), Vi (((D2 l).2.1 : Nat)), Vi ((D2 l).2.2)] 161 (0, 0))] :: [(b2, .cells #[Vi 0, Vi 0, Vi 0, Vi 0, Vi 0, Vi 0, Vi 0, .string ⟨#[]⟩] 42 (0, 0))] :: cs) w5 := h5
 have hp2 : (D2 l).2.1 ≤ l.length := rdN_le _ hp1
 have hb2 : (D2 l).1 ≤ 1099511627776 := rdN_bnd _ _ _
 refine I0 (N3 (m := ((D2 l).1 : Int)) rfl rfl (by omega)) rfl<|C0 1 rfl<|C1 (cn func82) rfl rfl (readN_c _ (p := (D2 l).2.1) (e := (D2 l).2.2) h5 hl hp2) fun w6 h6 => ?_
 replace h6 : St W F ([(rb, .cells #[.string (bs l), Vi (((D3 l).2.1 : Nat)), Vi ((D3 l).2.2)] 161 (0, 0))] :: [(b2, .cells #[Vi 0, Vi 0, Vi 0, Vi 0, Vi 0, Vi 0, Vi 0, .string ⟨#[]⟩] 42 (0, 0))] :: cs) w6 := h6
 have hp3 : (D3 l).2.1 ≤ l.length := rdN_le _ hp2
 have hb3 : (D3 l).1 ≤ 1099511627776 := rdN_bnd _ _ _
 refine C0 1 rfl<|C1 (cn func82) rfl rfl (readN_c _ (p := (D3 l).2.1) (e := (D3 l).2.2) h6 hl hp3) fun w7 h7 => ?_
 replace h7 : St W F ([(rb, .cells #[.string (bs l), Vi (((D4 l).2.1 : Nat)), Vi ((D4 l).2.2)] 161 (0, 0))] :: [(b2, .cells #[Vi 0, Vi 0, Vi 0, Vi 0, Vi 0, Vi 0, Vi 0, .string ⟨#[]⟩] 42 (0, 0))] :: cs) w7 := h7
 have hp4 : (D4 l).2.1 ≤ l.length := rdN_le _ hp3
 have hb4 : (D4 l).1 ≤ 1099511627776 := rdN_bnd _ _ _
 refine C0 1 rfl<|C1 (cn func82) rfl rfl (readN_c _ (p := (D4 l).2.1) (e := (D4 l).2.2) h7 hl hp4) fun w8 h8 => ?_
 replace h8 : St W F ([(rb, .cells #[.string (bs l), Vi (((D5 l).2.1 : Nat)), Vi ((D5 l).2.2)] 161 (0, 0))] :: [(b2, .cells #[Vi 0, Vi 0, Vi 0, Vi 0, Vi 0, Vi 0, Vi 0, .string ⟨#[]⟩] 42 (0, 0))] :: cs) w8 := h8
 have hp5 : (D5 l).2.1 ≤ l.length := rdN_le _ hp4
 have hb5 : (D5 l).1 ≤ 1099511627776 := rdN_bnd _ _ _
 refine C0 1 rfl<|C1 (cn func82) rfl rfl (readN_c _ (p := (D5 l).2.1) (e := (D5 l).2.2) h8 hl hp5) fun w9 h9 => ?_
 replace h9 : St W F ([(rb, .cells #[.string (bs l), Vi (((D6 l).2.1 : Nat)), Vi ((D6 l).2.2)] 161 (0, 0))] :: [(b2, .cells #[Vi 0, Vi 0, Vi 0, Vi 0, Vi 0, Vi 0, Vi 0, .string ⟨#[]⟩] 42 (0, 0))] :: cs) w9 := h9
 have hp6 : (D6 l).2.1 ≤ l.length := rdN_le _ hp5
 have hb6 : (D6 l).1 ≤ 1099511627776 := rdN_bnd _ _ _
 refine C0 1 rfl<|C1 (cn func83) rfl rfl (readT_c _ (p := (D6 l).2.1) (e := (D6 l).2.2) h9 hl hp6) fun w10 h10 => ?_
 replace h10 : St W F ([(rb, .cells #[.string (bs l), Vi (((DT l).2.1 : Nat)), Vi ((DT l).2.2)] 161 (0, 0))] :: [(b2, .cells #[Vi 0, Vi 0, Vi 0, Vi 0, Vi 0, Vi 0, Vi 0, .string ⟨#[]⟩] 42 (0, 0))] :: cs) w10 := h10
 refine I0 (R2 (cells := #[Vi ((D0 l).1 : Nat), Vi (((D1 l).1 : Int) - 1), Vi (((D2 l).1 : Int) - 1), Vi ((D3 l).1 : Nat), Vi ((D4 l).1 : Nat), Vi ((D5 l).1 : Nat), Vi ((D6 l).1 : Nat), .string (bs (DT l).1)]) rfl (by kernel_rfl)) rfl<|O2 rfl h10 inf42 fun b5 w11 h11=>F4 h11 0 rfl rfl rfl inf42 rfl rfl rfl ?_
 intro  w12 h12
 try simp only [ZZ] at h12
 refine Wh<|C0 1 rfl<|C1 (cn func84) rfl rfl (rend_c _ (p := (DT l).2.1) (e := (DT l).2.2) h12 (i := 1) rfl) fun w13 h13 =>C0 5 rfl<|J0 (H0 (N0 ?_))
 by_cases hde : decE l = 0
 ·refine L0<|C0 1 rfl<|I0 (Bf (J2 rfl rfl) (by show (!decide (decE l = 0)) = false; rw [dA hde]; rfl)) rfl<|Wa<|E1 rfl (rfl)<|U0 (H0 (N0 (N0 ?_)))
  by_cases hmy : mayM (decM l)
  ·refine L0<|I0 (U2 h13 0 rfl underlying42 rfl inf42 rfl rfl) rfl<|C1 (cn func74) rfl rfl (message_c _ (decM l) h13) fun w14 h14 =>C0 1 rfl<|Wa<|E1 rfl ((by rw [dA hmy]; rfl))<|Wk<|I0 (U2 h14 0 rfl underlying42 rfl inf42 rfl rfl) rfl<|F4 h14 2 rfl rfl rfl inf42 rfl rfl rfl ?_
   intro  w15 h15
   try simp only [ZZ] at h15
   refine C0 1 rfl<|Wg<|retB rfl (v := .agg #[Vi ((D0 l).1 : Nat), Vi (((D1 l).1 : Int) - 1), Vi (((D2 l).1 : Int) - 1), Vi ((D3 l).1 : Nat), Vi ((D4 l).1 : Nat), Vi ((D5 l).1 : Nat), Vi ((D6 l).1 : Nat), .string (bs (DT l).1)]) ⟨_, rfl, run_loadVarA (vs := [Vi ((D0 l).1 : Nat), Vi (((D1 l).1 : Int) - 1), Vi (((D2 l).1 : Int) - 1), Vi ((D3 l).1 : Nat), Vi ((D4 l).1 : Nat), Vi ((D5 l).1 : Nat), Vi ((D6 l).1 : Nat), .string (bs (DT l).1)]) underlying42 rfl inf42 rfl (fun j v hv => by rw [add_mk, Nat.zero_add]; exact h15.ocell (i := 2) rfl (by simpa using hv))⟩ (show lk _ _ = _ from rfl) ⟨by unfold decB; rw [if_neg (by rw [hde]; simp), if_pos hmy]; rfl, ((h15.drop 0).drop 0).drop 0⟩
  refine L0<|I0 (U2 h13 0 rfl underlying42 rfl inf42 rfl rfl) rfl<|C1 (cn func74) rfl rfl (message_c _ (decM l) h13) fun w16 h16 =>C0 1 rfl<|Wa<|J1 rfl ((by rw [dN hmy]; rfl))<|Wi<|I0 (R2 (vs := []) (cells := #[Vi 0, Vi 0, Vi 0, Vi 0, Vi 0, Vi 0, Vi 0, .string ⟨#[]⟩]) rfl (by kernel_rfl)) rfl<|F4 h16 2 rfl rfl rfl inf42 rfl rfl rfl ?_
  intro  w17 h17
  try simp only [ZZ] at h17
  refine C0 1 rfl<|Wg<|retB rfl (v := .agg #[Vi 0, Vi 0, Vi 0, Vi 0, Vi 0, Vi 0, Vi 0, .string ⟨#[]⟩]) ⟨_, rfl, run_loadVarA (vs := [Vi 0, Vi 0, Vi 0, Vi 0, Vi 0, Vi 0, Vi 0, .string ⟨#[]⟩]) underlying42 rfl inf42 rfl (fun j v hv => by rw [add_mk, Nat.zero_add]; exact h17.ocell (i := 2) rfl (by simpa using hv))⟩ (show lk _ _ = _ from rfl) ⟨by unfold decB; rw [if_neg (by rw [hde]; simp), if_neg hmy]; rfl, ((h17.drop 0).drop 0).drop 0⟩
 refine L0<|C0 1 rfl<|I0 (Bt (J2 rfl rfl) (by show (!decide (decE l = 0)) = true; rw [dN hde]; rfl)) rfl<|Wa<|J1 rfl (rfl)<|Wi<|I0 (R2 (vs := []) (cells := #[Vi 0, Vi 0, Vi 0, Vi 0, Vi 0, Vi 0, Vi 0, .string ⟨#[]⟩]) rfl (by kernel_rfl)) rfl<|C0 1 rfl<|F4 h13 2 rfl rfl rfl inf42 rfl rfl rfl ?_
 intro  w18 h18
 try simp only [ZZ] at h18
 refine C0 1 rfl<|Wg<|retB rfl (v := .agg #[Vi 0, Vi 0, Vi 0, Vi 0, Vi 0, Vi 0, Vi 0, .string ⟨#[]⟩]) ⟨_, rfl, run_loadVarA (vs := [Vi 0, Vi 0, Vi 0, Vi 0, Vi 0, Vi 0, Vi 0, .string ⟨#[]⟩]) underlying42 rfl inf42 rfl (fun j v hv => by rw [add_mk, Nat.zero_add]; exact h18.ocell (i := 2) rfl (by simpa using hv))⟩ (show lk _ _ = _ from rfl) ⟨by unfold decB; rw [if_pos hde]; rfl, ((h18.drop 0).drop 0).drop 0⟩
theorem n0 : numB 0 = [0] := by simp [numB, numN, mayN, hi_0]
theorem n2 : numB 2 = [1, 2] := by simp [numB, numN, mayN, hi_s, hi_0]
theorem n4 : numB 4 = [1, 4] := by simp [numB, numN, mayN, hi_s, hi_0]
theorem n1 : numB 1 = [1, 1] := by simp [numB, numN, mayN, hi_s, hi_0]
theorem eqM (w : World) (m n : M) : (Op.equalIn 10000 42 m.val n.val).run prog w = .ok (decide (m.k = n.k) && (decide (m.f = n.f) && (decide (m.t = n.t) && (decide (m.j = n.j) && (decide (m.ep = n.ep) && (decide (m.st = n.st) && (decide (m.ar = n.ar) && (decide (m.tx = n.tx) && true)))))))) w := by
 unfold M.val
 refine eqA_of (d := 9999) underlying42 (by kernel_rfl)<|eqf_int (d := 9998) rfl underlying3 rfl rfl (eqf_int (d := 9998) rfl underlying3 rfl rfl (eqf_int (d := 9998) rfl underlying3 rfl rfl (eqf_int (d := 9998) rfl underlying3 rfl rfl (eqf_int (d := 9998) rfl underlying3 rfl rfl (eqf_int (d := 9998) rfl underlying3 rfl rfl (eqf_int (d := 9998) rfl underlying3 rfl rfl (eqf_str (d := 9998) rfl underlying9 rfl rfl eqf_nil)))))))
theorem valN_hi : ∀ (n : Nat), valN (hi n) = n := by
 intro n
 induction n using Nat.strongRecOn with
 |_ n ih =>
  by_cases h : n = 0
  ·subst h; rw [hi_0]; rfl
  rw [hi_s h, valN_snoc, ih (n / 256) (by omega), UInt8.toNat_ofNat']
  omega
theorem hi_ne {n : Nat} (h : n ≠ 0) : hi n ≠ [] := by rw [hi_s h]; simp
theorem hi_head : ∀ (n : Nat), n ≠ 0 → (hi n).getD 0 0 ≠ 0 := by
 intro n
 induction n using Nat.strongRecOn with
 |_ n ih =>
  intro h
  rw [hi_s h]
  by_cases h2 : n / 256 = 0
  ·rw [h2, hi_0]
   intro e
   have := congrArg UInt8.toNat e
   simp at this
   omega
  have h3 := ih (n / 256) (by omega) h2
  cases e : hi (n / 256) with
  |nil => exact absurd e (hi_ne h2)
  |cons a t => rw [e] at h3; simpa using h3
theorem numN_len (n : Nat) (h : n ≤ 1099511627776) : (UInt8.ofNat (hi n).length).toNat = (hi n).length := by
 have := hi_six h
 rw [UInt8.toNat_ofNat']; omega
theorem rdN_num (pre rest : List UInt8) {n : Nat} (h : n ≤ 1099511627776) : rdN (pre ++ (numN n ++ rest)) pre.length 0 = (n, (pre ++ numN n).length, 0) := by
 have h6 := hi_six h
 have e1 : szB (pre ++ (numN n ++ rest)) pre.length = (hi n).length := by
  unfold szB numN
  rw [gD, List.getElem?_append_right (Nat.le_refl _), Nat.sub_self]
  exact numN_len n h
 have e2 : dig (pre ++ (numN n ++ rest)) pre.length = hi n := by
  unfold dig
  rw [e1]
  unfold numN
  rw [List.drop_append, List.drop_eq_nil_of_le (by omega), List.nil_append, show pre.length + 1 - pre.length = 1 by omega]
  show ((hi n) ++ rest).take _ = _
  rw [List.take_left' rfl]
 have e3 : rerr (pre ++ (numN n ++ rest)) pre.length = 0 := by
  unfold rerr
  rw [e1, e2, valN_hi]
  rw [if_neg (by simp [numN]), if_neg (by omega), if_neg (by simp [numN]; omega), if_neg]
  rintro (h1 | ⟨h1, h2⟩)
  ·omega
  refine hi_head n ?_ h2
  intro e; subst e; rw [hi_0] at h1; simp at h1
 unfold rdN
 rw [if_neg (by simp), if_pos e3]
 unfold rval rnx
 rw [e1, e2, valN_hi]
 simp only [Prod.mk.injEq, true_and, and_true]
 simp [numN]; omega
theorem rdT_text (pre : List UInt8) {t : List UInt8} (h : t.length ≤ 4096) : rdT (pre ++ textB t) pre.length 0 = (t, (pre ++ textB t).length, 0) := by
 have et : textB t = numN t.length ++ t := by
  unfold textB numB
  rw [if_neg (by omega), if_pos ⟨by omega, by omega⟩]; rfl
 rw [et]
 have hr := rdN_num pre t (n := t.length) (by omega)
 unfold rdN at hr
 rw [if_neg (by simp)] at hr
 have he : rerr (pre ++ (numN t.length ++ t)) pre.length = 0 := by
  by_cases h0 : rerr (pre ++ (numN t.length ++ t)) pre.length = 0
  ·exact h0
  rw [if_neg h0] at hr
  simp only [Prod.mk.injEq] at hr
  exact absurd hr.2.2 h0
 rw [if_pos he] at hr
 simp only [Prod.mk.injEq, and_true] at hr
 obtain ⟨hv, hx⟩ := hr
 have hc : cerr (pre ++ (numN t.length ++ t)) pre.length 4096 = 0 := by
  unfold cerr
  rw [if_neg (by rw [he]; simp), hv, if_neg (by omega)]
 unfold rdT
 rw [if_neg (by simp), if_neg (by rw [hc]; simp), hv, hx, if_neg (by simp; omega)]
 simp only [Prod.mk.injEq, and_true]
 refine ⟨?_, by simp; omega⟩
 rw [← List.append_assoc, List.drop_left' rfl, List.take_of_length_le (Nat.le_refl _)]
theorem numB_y {n : Int} (h : mayN n) : numB n = numN n.toNat := if_pos h
theorem tn {n : Int} (h : mayN n) : n.toNat ≤ 1099511627776 ∧ ((n.toNat : Nat) : Int) = n := by have := h.1; have := h.2; omega
theorem encB_y {m : M} (h : mayM m) : encB m = numN m.k.toNat ++ (numN (m.f + 1).toNat ++ (numN (m.t + 1).toNat ++ (numN m.j.toNat ++ (numN m.ep.toNat ++ (numN m.st.toNat ++ (numN m.ar.toNat ++ textB m.tx)))))) := by
 unfold encB
 rw [if_pos h]
 obtain ⟨q0, q1, q2, q3, q4, q5, q6, q7, q8⟩ := h
 show (numB m.k ++ (numB (m.f + 1) ++ (numB (m.t + 1) ++ (numB m.j ++ (numB m.ep ++ (numB m.st ++ (numB m.ar ++ []))))))) ++ textB m.tx = _
 rw [numB_y (n := m.k) ⟨q0, by omega⟩, numB_y (n := m.f + 1) ⟨by omega, by omega⟩, numB_y (n := m.t + 1) ⟨by omega, by omega⟩, numB_y q4, numB_y q5, numB_y q6, numB_y q7]
 simp
theorem decB_enc {m : M} (h : mayM m) : decB (encB m) = (m, 0) := by
 have h' := h
 obtain ⟨q0, q1, q2, q3, q4, q5, q6, q7, q8⟩ := h'
 have t0 := tn (n := m.k) ⟨q0, by omega⟩
 have t1 := tn (n := m.f + 1) ⟨by omega, by omega⟩
 have t2 := tn (n := m.t + 1) ⟨by omega, by omega⟩
 have t3 := tn q4
 have t4 := tn q5
 have t5 := tn q6
 have t6 := tn q7
 have e := encB_y h
 generalize hl : encB m = l at e
 have d0 : D0 l = (m.k.toNat, (numN m.k.toNat).length, 0) := by
  unfold D0; rw [e]; exact rdN_num [] _ t0.1
 have d1 : D1 l = ((m.f + 1).toNat, (numN m.k.toNat ++ numN (m.f + 1).toNat).length, 0) := by
  unfold D1; rw [d0, e]; exact rdN_num _ _ t1.1
 have d2 : D2 l = ((m.t + 1).toNat, ((numN m.k.toNat ++ numN (m.f + 1).toNat) ++ numN (m.t + 1).toNat).length, 0) := by
  unfold D2; rw [d1, e, ← List.append_assoc]; exact rdN_num _ _ t2.1
 have d3 : D3 l = (m.j.toNat, (((numN m.k.toNat ++ numN (m.f + 1).toNat) ++ numN (m.t + 1).toNat) ++ numN m.j.toNat).length, 0) := by
  unfold D3; rw [d2, e, ← List.append_assoc, ← List.append_assoc]; exact rdN_num _ _ t3.1
 have d4 : D4 l = (m.ep.toNat, ((((numN m.k.toNat ++ numN (m.f + 1).toNat) ++ numN (m.t + 1).toNat) ++ numN m.j.toNat) ++ numN m.ep.toNat).length, 0) := by
  unfold D4; rw [d3, e, ← List.append_assoc, ← List.append_assoc, ← List.append_assoc]; exact rdN_num _ _ t4.1
 have d5 : D5 l = (m.st.toNat, (((((numN m.k.toNat ++ numN (m.f + 1).toNat) ++ numN (m.t + 1).toNat) ++ numN m.j.toNat) ++ numN m.ep.toNat) ++ numN m.st.toNat).length, 0) := by
  unfold D5; rw [d4, e, ← List.append_assoc, ← List.append_assoc, ← List.append_assoc, ← List.append_assoc]; exact rdN_num _ _ t5.1
 have d6 : D6 l = (m.ar.toNat, ((((((numN m.k.toNat ++ numN (m.f + 1).toNat) ++ numN (m.t + 1).toNat) ++ numN m.j.toNat) ++ numN m.ep.toNat) ++ numN m.st.toNat) ++ numN m.ar.toNat).length, 0) := by
  unfold D6; rw [d5, e, ← List.append_assoc, ← List.append_assoc, ← List.append_assoc, ← List.append_assoc, ← List.append_assoc]; exact rdN_num _ _ t6.1
 have e' : l = ((((((numN m.k.toNat ++ numN (m.f + 1).toNat) ++ numN (m.t + 1).toNat) ++ numN m.j.toNat) ++ numN m.ep.toNat) ++ numN m.st.toNat) ++ numN m.ar.toNat) ++ textB m.tx := by rw [e]; simp
 have dT : DT l = (m.tx, l.length, 0) := by
  unfold DT; rw [d6]
  conv => lhs; rw [e']
  conv => rhs; rw [e']
  exact rdT_text _ (by omega)
 have hE : decE l = 0 := by
  unfold decE rdEnd
  rw [dT, if_neg (by simp)]
 have hM : decM l = m := by
  unfold decM
  rw [d0, d1, d2, d3, d4, d5, d6, dT]
  cases m
  simp only [M.mk.injEq] at *
  refine ⟨t0.2, by omega, by omega, t3.2, t4.2, t5.2, t6.2, trivial⟩
 unfold decB
 rw [if_neg (by rw [hE]; simp), hM, if_pos h]
theorem num_rdN {l : List UInt8} {p : Nat} {e : Int} (h : (rdN l p e).2.2 = 0) : e = 0 ∧ rerr l p = 0 ∧ rdN l p e = (rval l p, rnx l p, 0) := by
 unfold rdN at h ⊢
 by_cases he : e = 0
 ·rw [if_neg (by rw [he]; simp)] at h ⊢
  by_cases hr : rerr l p = 0
  ·exact ⟨he, hr, if_pos hr⟩
  rw [if_neg hr] at h
  exact absurd h hr
 rw [if_pos he] at h
 exact absurd h he
theorem conj11 (P0 P1 P2 P3 P4 P5 P6 P7 P8 P9 P10 : Prop) : (¬ P0) ∨ (P0 ∧ ¬ P1) ∨ (P0 ∧ P1 ∧ ¬ P2) ∨ (P0 ∧ P1 ∧ P2 ∧ ¬ P3) ∨ (P0 ∧ P1 ∧ P2 ∧ P3 ∧ ¬ P4) ∨ (P0 ∧ P1 ∧ P2 ∧ P3 ∧ P4 ∧ ¬ P5) ∨ (P0 ∧ P1 ∧ P2 ∧ P3 ∧ P4 ∧ P5 ∧ ¬ P6) ∨ (P0 ∧ P1 ∧ P2 ∧ P3 ∧ P4 ∧ P5 ∧ P6 ∧ ¬ P7) ∨ (P0 ∧ P1 ∧ P2 ∧ P3 ∧ P4 ∧ P5 ∧ P6 ∧ P7 ∧ ¬ P8) ∨ (P0 ∧ P1 ∧ P2 ∧ P3 ∧ P4 ∧ P5 ∧ P6 ∧ P7 ∧ P8 ∧ ¬ P9) ∨ (P0 ∧ P1 ∧ P2 ∧ P3 ∧ P4 ∧ P5 ∧ P6 ∧ P7 ∧ P8 ∧ P9 ∧ ¬ P10) ∨ (P0 ∧ P1 ∧ P2 ∧ P3 ∧ P4 ∧ P5 ∧ P6 ∧ P7 ∧ P8 ∧ P9 ∧ P10) := by
 by_cases h0 : P0
 rotate_left
 ·exact .inl h0
 by_cases h1 : P1
 rotate_left
 ·exact .inr (.inl ⟨h0, h1⟩)
 by_cases h2 : P2
 rotate_left
 ·exact .inr (.inr (.inl ⟨h0, h1, h2⟩))
 by_cases h3 : P3
 rotate_left
 ·exact .inr (.inr (.inr (.inl ⟨h0, h1, h2, h3⟩)))
 by_cases h4 : P4
 rotate_left
 ·exact .inr (.inr (.inr (.inr (.inl ⟨h0, h1, h2, h3, h4⟩))))
 by_cases h5 : P5
 rotate_left
 ·exact .inr (.inr (.inr (.inr (.inr (.inl ⟨h0, h1, h2, h3, h4, h5⟩)))))
 by_cases h6 : P6
 rotate_left
 ·exact .inr (.inr (.inr (.inr (.inr (.inr (.inl ⟨h0, h1, h2, h3, h4, h5, h6⟩))))))
 by_cases h7 : P7
 rotate_left
 ·exact .inr (.inr (.inr (.inr (.inr (.inr (.inr (.inl ⟨h0, h1, h2, h3, h4, h5, h6, h7⟩)))))))
 by_cases h8 : P8
 rotate_left
 ·exact .inr (.inr (.inr (.inr (.inr (.inr (.inr (.inr (.inl ⟨h0, h1, h2, h3, h4, h5, h6, h7, h8⟩))))))))
 by_cases h9 : P9
 rotate_left
 ·exact .inr (.inr (.inr (.inr (.inr (.inr (.inr (.inr (.inr (.inl ⟨h0, h1, h2, h3, h4, h5, h6, h7, h8, h9⟩)))))))))
 by_cases h10 : P10
 rotate_left
 ·exact .inr (.inr (.inr (.inr (.inr (.inr (.inr (.inr (.inr (.inr (.inl ⟨h0, h1, h2, h3, h4, h5, h6, h7, h8, h9, h10⟩))))))))))
 exact .inr (.inr (.inr (.inr (.inr (.inr (.inr (.inr (.inr (.inr (.inr ⟨h0, h1, h2, h3, h4, h5, h6, h7, h8, h9, h10⟩))))))))))
theorem one_el {c b : UInt8} {j : Nat} (h : [c][j]? = some b) : (([c] : List UInt8).map V8).toArray[j]? = some (V8 b) := by
 rcases j with _ | j
 ·have : c = b := by simpa using h
  subst this; rfl
 simp at h
theorem numB_nil {n : Int} : numB n ≠ [] ↔ mayN n := by
 constructor
 ·intro h
  by_cases hn : mayN n
  ·exact hn
  exact absurd (by unfold numB; rw [if_neg hn]) h
 exact numB_ne
theorem may_eq (m : M) : (0 ≤ m.k ∧ m.k ≤ 9 ∧ -1 ≤ m.f ∧ m.f ≤ 15 ∧ -1 ≤ m.t ∧ m.t ≤ 15 ∧ numB m.j ≠ [] ∧ numB m.ep ≠ [] ∧ numB m.st ≠ [] ∧ numB m.ar ≠ [] ∧ (m.tx.length : Int) ≤ 4096) ↔ mayM m := by
 simp only [numB_nil]
 unfold mayM
 constructor
 ·rintro ⟨q0, q1, q2, q3, q4, q5, q6, q7, q8, q9, q10⟩
  exact ⟨q0, by omega, ⟨q2, by omega⟩, ⟨q4, by omega⟩, q6, q7, q8, q9, q10⟩
 rintro ⟨q0, q1, q2, q3, q4, q5, q6, q7, q8⟩
 exact ⟨q0, by omega, q2.1, by omega, q3.1, by omega, q4, q5, q6, q7, q8⟩
theorem high_c (w : World) (m : Nat) (h : St W F cs w) (hm : m ≤ 1099511627776) : Calls prog 122 #[Vi (m : Int)] w fun r w' => r = .returned (.string (bs (hi m))) ∧ St W F cs w'  := by
 refine enter (args := [Vi (m : Int)]) func122 rfl rfl rfl<|Wi<|C0 1 rfl<|We<|C0 1 rfl<|Wb<|M1<|B3 (σ := Nat × List UInt8) (fun q_ => [(0, Vi (q_.1 : Int)), (3, .string (bs q_.2))]) (fun q_ w => q_.1 ≤ m ∧ hi m = hi q_.1 ++ q_.2 ∧ q_.2.length ≤ (hi m).length ∧ St W F cs w) (fun q_ => q_.1) (⟨m, []⟩) (⟨Nat.le_refl _, by simp, by simp, h⟩) ?_
 rintro ⟨n, s⟩ w1 ⟨hn, he, hs, hL⟩
 try dsimp only at hn he hs hL
 refine W2 [(0, Vi (n : Int)), (3, .string (bs s))]<|N0<|Wi<|C0 1 rfl<|I0 (Y1 rfl rfl) rfl<|Wa<|Z0 rfl (fun c2 => ?_) (fun c2 => ?_)
 ·try simp only [DD] at c2
  refine U0<|H0<|M1<|Wi<|C0 1 rfl<|I0 (J5 (m := (n : Int)) (n := 256) rfl rfl (by omega) (by omega)) rfl<|I0 (W4 underlying3 underlying5 (m := n % 256) rfl (by omega)) rfl<|X2 (vs := (([UInt8.ofNat (n % 256)] : List UInt8)).map V8) hL rfl underlying120 inf5 rfl rfl rfl rfl rfl fun lit9 w3 h3=>I0 (X1 (u := .string (bs [UInt8.ofNat (n % 256)])) (Y5 underlying120 underlying5 underlying9 rfl rfl (bs := [UInt8.ofNat (n % 256)]) (.inr ⟨_, rfl, fun j b hb => by rw [add_mk, Nat.zero_add]; exact h3.ocell (i := 0) rfl (one_el hb)⟩)) rfl) rfl<|C0 1 rfl<|I0 (M3 (a := [UInt8.ofNat (n % 256)]) (b := s) rfl rfl (by have := hi_six hm; simp; omega)) rfl<|C0 1 rfl<|Wf<|C0 1 rfl<|I0 (R0 (n := ((n / 256 : Nat) : Int)) (Z5 (m := (n : Int)) (n := 256) rfl rfl (by omega) (by omega)) (by omega)) rfl<|C0 1 rfl<|J0<|N1<|F1 (⟨n / 256, UInt8.ofNat (n % 256) :: s⟩ : Nat × List UInt8) (by show n / 256 < n; omega) ⟨rfl, rfl, trivial⟩ ⟨by show n / 256 ≤ m; omega, ?_, ?_, h3.drop 0⟩
  ·show hi m = hi (n / 256) ++ (UInt8.ofNat (n % 256) :: s)
   rw [he, hi_s (n := n) (by omega), show UInt8.ofNat (n % 256) = UInt8.ofNat n from UInt8.toNat_inj.1 (by rw [UInt8.toNat_ofNat', UInt8.toNat_ofNat']; omega)]
   simp
  show (UInt8.ofNat (n % 256) :: s).length ≤ _
  rw [he, hi_s (n := n) (by omega)]
  simp
 try simp only [DD] at c2
 refine U1<|B2<|WX.cut<|E2<|H0<|Wi<|C0 2 rfl<|J0 (H0 (O1 ?_))
 obtain rfl : n = 0 := by omega
 refine ret1 rfl rfl ⟨?_, hL⟩
 rw [he, hi_0]; rfl
theorem rnum_no (w : World) (n : Int) (h : St W F cs w) (hn : ¬ mayN n) : Calls prog 80 #[Vi n] w fun r w' => r = .returned (.string (bs (numB n))) ∧ St W F cs w'  := by
 refine enter (args := [Vi n]) func80 rfl rfl rfl<|Wi<|C0 1 rfl<|J0 (H0 (N0 (N0 ?_)))
 have hcase : n < 0 ∨ (0 ≤ n ∧ 1099511627776 < n) := by unfold mayN at hn; omega
 rcases hcase with hA | hB
 ·refine L0<|C0 1 rfl<|I0 (Bt (Q1 rfl rfl) (dA (by omega))) rfl<|C0 4 rfl<|Wa<|J1 rfl (rfl)<|Wi<|C0 1 rfl<|Wg<|ret1 rfl rfl ⟨?_, h⟩
  rw [numB, if_neg hn]; rfl
 refine L0<|C0 1 rfl<|I0 (Bf (Q1 rfl rfl) (dN (by omega))) rfl<|C0 2 rfl<|Q0 rfl<|I0 (Bt (Y1 rfl rfl) (dA (by omega))) rfl<|C0 1 rfl<|Wa<|J1 rfl (rfl)<|Wi<|C0 1 rfl<|Wg<|ret1 rfl rfl ⟨?_, h⟩
 rw [numB, if_neg hn]; rfl
theorem rnum_y (w : World) (m : Nat) (h : St W F cs w) (hm : m ≤ 1099511627776) : Calls prog 80 #[Vi (m : Int)] w fun r w' => r = .returned (.string (bs (numN m))) ∧ St W F cs w'  := by
 refine enter (args := [Vi (m : Int)]) func80 rfl rfl rfl<|Wi<|C0 1 rfl<|Wh<|C0 1 rfl<|I0 (Bf (Q1 rfl rfl) (dN (by omega))) rfl<|C0 2 rfl<|Q0 rfl<|I0 (Bf (Y1 rfl rfl) (dN (by omega))) rfl<|C0 1 rfl<|Wa<|E1 rfl (rfl)<|Wk<|C0 1 rfl<|C1 (cn func122) rfl rfl (high_c _ m h hm) fun w1 h1 =>C0 1 rfl<|We<|C0 1 rfl<|I0 (R0 (n := ((hi m).length : Int)) (E3 underlying9 rfl rfl) rfl) rfl<|I0 (W4 underlying3 underlying5 (m := (hi m).length) rfl rfl) rfl<|X2 (vs := (([UInt8.ofNat (hi m).length] : List UInt8)).map V8) h1 rfl underlying120 inf5 rfl rfl rfl rfl rfl fun lit15 w2 h2=>I0 (X1 (u := .string (bs [UInt8.ofNat (hi m).length])) (Y5 underlying120 underlying5 underlying9 rfl rfl (bs := [UInt8.ofNat (hi m).length]) (.inr ⟨_, rfl, fun j b hb => by rw [add_mk, Nat.zero_add]; exact h2.ocell (i := 0) rfl (one_el hb)⟩)) rfl) rfl<|C0 1 rfl<|I0 (M3 (a := [UInt8.ofNat (hi m).length]) (b := hi m) rfl rfl (by have := hi_six hm; simp; omega)) rfl<|C0 1 rfl<|Wg<|ret1 rfl rfl ⟨rfl, h2.drop 0⟩
theorem rnum_c (w : World) (n : Int) (h : St W F cs w) : Calls prog 80 #[Vi n] w fun r w' => r = .returned (.string (bs (numB n))) ∧ St W F cs w' := by
 by_cases hn : mayN n
 ·have e : n = ((n.toNat : Nat) : Int) := by have := hn.1; omega
  have h2 := hn.2
  rw [numB, if_pos hn]
  have := rnum_y w n.toNat h (by omega)
  rwa [← e] at this
 exact rnum_no w n h hn
theorem rtext_c (w : World) (l : List UInt8) (h : St W F cs w) (hl : l.length ≤ 100000) : Calls prog 104 #[.string (bs l)] w fun r w' => r = .returned (.string (bs (textB l))) ∧ St W F cs w'  := by
 refine enter (args := [.string (bs l)]) func104 rfl rfl rfl<|Wi<|C0 1 rfl<|Wh<|C0 1 rfl<|I0 (R0 (n := (l.length : Int)) (E3 underlying9 rfl rfl) rfl) rfl<|I0 (Y1 rfl rfl) rfl<|Wa<|Z0 rfl (fun c1 => ?_) (fun c1 => ?_)
 ·try simp only [DD] at c1
  refine Wi<|C0 1 rfl<|Wg<|ret1 rfl rfl ⟨?_, h⟩
  unfold textB
  rw [if_pos (by omega)]; rfl
 try simp only [DD] at c1
 refine Wk<|C0 1 rfl<|I0 (R0 (n := (l.length : Int)) (E3 underlying9 rfl rfl) rfl) rfl<|C1 (cn func80) rfl rfl (rnum_c _ _ h) fun w2 h2 =>C0 1 rfl<|I0 (M3 rfl rfl (by have := numB_len (l.length : Int); omega)) rfl<|C0 1 rfl<|Wg<|ret1 rfl rfl ⟨?_, h2⟩
 unfold textB
 rw [if_neg (by omega)]
theorem rlist_c (w : World) {A : Option Addr} {cap : Nat} {xs : List Int} (h : St W F cs w) (hR : RdS (Kd.one Vi) F A xs) (hn : xs.length ≤ 100000) : Calls prog 171 #[.slice A xs.length cap] w fun r w' => r = .returned (.string (bs (listB xs))) ∧ St W F cs w'  := by
 refine enter (args := [.slice A xs.length cap]) func171 rfl rfl rfl<|Wi<|C0 1 rfl<|Wh<|C0 1 rfl<|I0 (Y0 underlying33 rfl rfl) rfl<|I0 (Y1 rfl rfl) rfl<|Wa<|Z0 rfl (fun c1 => ?_) (fun c1 => ?_)
 ·try simp only [DD] at c1
  refine Wi<|C0 1 rfl<|Wg<|ret1 rfl rfl ⟨?_, h⟩
  unfold listB
  rw [if_pos (by omega)]; rfl
 try simp only [DD] at c1
 refine Wk<|C0 1 rfl<|I0 (Y0 underlying33 rfl rfl) rfl<|C1 (cn func80) rfl rfl (rnum_c _ _ h) fun w2 h2 =>C0 1 rfl<|Wh<|C0 1 rfl<|Wj<|N4 (σ := Nat) (fun q_ => [(0, .slice A xs.length cap), (3, .string (bs (numB (xs.length : Int) ++ (xs.take q_).flatMap numB))), (4, .int .i64 (q_ : Int))]) (fun q_ w => q_ ≤ xs.length ∧ (∀ j, j < q_ → mayN (xs.getD j 0)) ∧ St W F cs w) (fun q_ => xs.length - q_) (0) ⟨rfl, by simp; rfl, rfl, trivial⟩ (⟨by omega, fun j hj => absurd hj (Nat.not_lt_zero _), h2⟩) ?_
 rintro k w3 ⟨hk, hok, hL⟩
 try dsimp only at hk hok hL
 refine W2 [(0, .slice A xs.length cap), (3, .string (bs (numB (xs.length : Int) ++ (xs.take k).flatMap numB))), (4, .int .i64 (k : Int))] ?_
 have hfl := flat_len (xs.take k)
 rw [List.length_take] at hfl
 refine N0<|Wi<|C0 2 rfl<|I0 (Y0 underlying33 rfl rfl) rfl<|I0 (Q1 rfl rfl) rfl<|Wa<|Z0 rfl (fun c4 => ?_) (fun c4 => ?_)
 ·try simp only [DD] at c4
  refine U0 (H0 (N0 (M1 (N0 ?_))))
  obtain ⟨ad, rfl, hrd⟩ := rd1 hR (by omega)
  refine L0<|C0 2 rfl<|I0 (W0 underlying33 inf3 rfl rfl (n := k) rfl (by omega)) rfl<|I0 (I1 (f := Vi) (0 : Int) hL hrd (n := k) (by omega) underlying3 rfl rfl) rfl<|C1 (cn func80) rfl rfl (rnum_c _ _ hL) fun w5 h5 =>C0 1 rfl<|J0 (H0 (N0 (N0 ?_)))
  by_cases hmy : mayN (xs.getD k 0)
  ·refine L0<|C0 1 rfl<|I0 (Bf (O6 (b := []) rfl rfl) (dN (numB_ne hmy))) rfl<|Wa<|E1 rfl (rfl)<|U0<|H0<|L0<|C0 2 rfl<|I0 (M3 rfl rfl (by have := numB_len (xs.length : Int); have := numB_len (xs.getD k 0); rw [lA]; omega)) rfl<|C0 1 rfl<|J0<|N1<|H0<|L0<|C0 1 rfl<|I0 (V0 rfl rfl (by omega)) rfl<|C0 1 rfl<|J0<|F1 (k + 1) (by show xs.length - (k + 1) < xs.length - k; omega) ⟨rfl, ?_, rfl, trivial⟩ ⟨by show k + 1 ≤ _; omega, fun j hj => ?_, h5⟩
   ·show _ = some (Value.string (bs (numB (xs.length : Int) ++ (xs.take (k + 1)).flatMap numB)))
    rw [flat_take (by omega), ← List.append_assoc]
    rfl
   by_cases e : j = k
   ·subst e; exact hmy
   exact hok j (by omega)
  refine L0<|C0 1 rfl<|I0 (Bt (O6 (b := []) rfl rfl) (dA (if_neg hmy))) rfl<|Wa<|J1 rfl (rfl)<|Wi<|C0 1 rfl<|Wg<|ret1 rfl rfl ⟨?_, h5⟩
  unfold listB
  rw [if_neg (by omega), if_neg (fun hh => hmy (hh _ (by
   rw [gD, gE (by omega)]; exact List.getElem_mem _)))]; rfl
 try simp only [DD] at c4
 refine U1 (B2 (WX.cut (E2 (H0 (N0 ?_)))))
 obtain rfl : k = xs.length := by omega
 rw [List.take_of_length_le (Nat.le_refl _)] at *
 refine L0<|C0 2 rfl<|J0 (H0 (O1 ?_))
 have hall : okL xs := fun x hx => by
  obtain ⟨j, hj, e⟩ := List.getElem_of_mem hx
  have := hok j hj
  rwa [gD, gE hj, Option.getD_some, e] at this
 refine ret1 rfl rfl ⟨?_, hL⟩
 unfold listB
 rw [if_neg (by omega), if_pos hall]
theorem rmay_c (w : World) (m : M) (h : St W F cs w) : Calls prog 37 #[m.val] w fun r w' => r = .returned (.bool (decide (mayM m))) ∧ St W F cs w'  := by
 refine enter (args := [.agg #[Vi m.k, Vi m.f, Vi m.t, Vi m.j, Vi m.ep, Vi m.st, Vi m.ar, .string (bs m.tx)]]) func37 rfl rfl rfl<|Wi<|J3 rfl h rfl fun b1 w1 h1=>C0 1 rfl<|J0 (H0 (N0 ?_))
 rcases conj11 (0 ≤ m.k) (m.k ≤ 9) (-1 ≤ m.f) (m.f ≤ 15) (-1 ≤ m.t) (m.t ≤ 15) (numB m.j ≠ []) (numB m.ep ≠ []) (numB m.st ≠ []) (numB m.ar ≠ []) ((m.tx.length : Int) ≤ 4096) with q0 | ⟨q0, q1⟩ | ⟨q0, q1, q2⟩ | ⟨q0, q1, q2, q3⟩ | ⟨q0, q1, q2, q3, q4⟩ | ⟨q0, q1, q2, q3, q4, q5⟩ | ⟨q0, q1, q2, q3, q4, q5, q6⟩ | ⟨q0, q1, q2, q3, q4, q5, q6, q7⟩ | ⟨q0, q1, q2, q3, q4, q5, q6, q7, q8⟩ | ⟨q0, q1, q2, q3, q4, q5, q6, q7, q8, q9⟩ | ⟨q0, q1, q2, q3, q4, q5, q6, q7, q8, q9, q10⟩ | ⟨q0, q1, q2, q3, q4, q5, q6, q7, q8, q9, q10⟩
 ·refine L0<|H1 h1 [0] 2 rfl<|I0 (Bf (T1 rfl rfl) (dN q0)) rfl<|C0 56 rfl<|Wg<|ret1 rfl rfl ⟨?_, h1.drop 0⟩
  rw [dN (fun hm => q0 ((may_eq m).2 hm).1)]; rfl
 ·refine L0<|H1 h1 [0] 2 rfl<|I0 (Bt (T1 rfl rfl) (dA q0)) rfl<|H1 h1 [0] 3 rfl<|Q0 rfl<|I0 (Bf (Z1 rfl rfl) (dN q1)) rfl<|C0 52 rfl<|Wg<|ret1 rfl rfl ⟨?_, h1.drop 0⟩
  rw [dN (fun hm => q1 ((may_eq m).2 hm).2.1)]; rfl
 ·refine L0<|H1 h1 [0] 2 rfl<|I0 (Bt (T1 rfl rfl) (dA q0)) rfl<|H1 h1 [0] 3 rfl<|Q0 rfl<|I0 (Bt (Z1 rfl rfl) (dA q1)) rfl<|H1 h1 [0] 4 rfl<|Q0 rfl<|I0 (Bf (T1 rfl rfl) (dN q2)) rfl<|C0 47 rfl<|Wg<|ret1 rfl rfl ⟨?_, h1.drop 0⟩
  rw [dN (fun hm => q2 ((may_eq m).2 hm).2.2.1)]; rfl
 ·refine L0<|H1 h1 [0] 2 rfl<|I0 (Bt (T1 rfl rfl) (dA q0)) rfl<|H1 h1 [0] 3 rfl<|Q0 rfl<|I0 (Bt (Z1 rfl rfl) (dA q1)) rfl<|H1 h1 [0] 4 rfl<|Q0 rfl<|I0 (Bt (T1 rfl rfl) (dA q2)) rfl<|H1 h1 [0] 4 rfl<|Q0 rfl<|I0 (Bf (Z1 rfl rfl) (dN q3)) rfl<|C0 42 rfl<|Wg<|ret1 rfl rfl ⟨?_, h1.drop 0⟩
  rw [dN (fun hm => q3 ((may_eq m).2 hm).2.2.2.1)]; rfl
 ·refine L0<|H1 h1 [0] 2 rfl<|I0 (Bt (T1 rfl rfl) (dA q0)) rfl<|H1 h1 [0] 3 rfl<|Q0 rfl<|I0 (Bt (Z1 rfl rfl) (dA q1)) rfl<|H1 h1 [0] 4 rfl<|Q0 rfl<|I0 (Bt (T1 rfl rfl) (dA q2)) rfl<|H1 h1 [0] 4 rfl<|Q0 rfl<|I0 (Bt (Z1 rfl rfl) (dA q3)) rfl<|H1 h1 [0] 4 rfl<|Q0 rfl<|I0 (Bf (T1 rfl rfl) (dN q4)) rfl<|C0 37 rfl<|Wg<|ret1 rfl rfl ⟨?_, h1.drop 0⟩
  rw [dN (fun hm => q4 ((may_eq m).2 hm).2.2.2.2.1)]; rfl
 ·refine L0<|H1 h1 [0] 2 rfl<|I0 (Bt (T1 rfl rfl) (dA q0)) rfl<|H1 h1 [0] 3 rfl<|Q0 rfl<|I0 (Bt (Z1 rfl rfl) (dA q1)) rfl<|H1 h1 [0] 4 rfl<|Q0 rfl<|I0 (Bt (T1 rfl rfl) (dA q2)) rfl<|H1 h1 [0] 4 rfl<|Q0 rfl<|I0 (Bt (Z1 rfl rfl) (dA q3)) rfl<|H1 h1 [0] 4 rfl<|Q0 rfl<|I0 (Bt (T1 rfl rfl) (dA q4)) rfl<|H1 h1 [0] 4 rfl<|Q0 rfl<|I0 (Bf (Z1 rfl rfl) (dN q5)) rfl<|C0 32 rfl<|Wg<|ret1 rfl rfl ⟨?_, h1.drop 0⟩
  rw [dN (fun hm => q5 ((may_eq m).2 hm).2.2.2.2.2.1)]; rfl
 ·refine L0<|H1 h1 [0] 2 rfl<|I0 (Bt (T1 rfl rfl) (dA q0)) rfl<|H1 h1 [0] 3 rfl<|Q0 rfl<|I0 (Bt (Z1 rfl rfl) (dA q1)) rfl<|H1 h1 [0] 4 rfl<|Q0 rfl<|I0 (Bt (T1 rfl rfl) (dA q2)) rfl<|H1 h1 [0] 4 rfl<|Q0 rfl<|I0 (Bt (Z1 rfl rfl) (dA q3)) rfl<|H1 h1 [0] 4 rfl<|Q0 rfl<|I0 (Bt (T1 rfl rfl) (dA q4)) rfl<|H1 h1 [0] 4 rfl<|Q0 rfl<|I0 (Bt (Z1 rfl rfl) (dA q5)) rfl<|H1 h1 [0] 4 rfl<|Q0 rfl<|C1 (cn func80) rfl rfl (rnum_c _ _ h1) fun w2 h2 =>Q0 rfl<|I0 (Bf (Y3 (b := []) rfl rfl) (by rw [dA (Classical.not_not.1 q6)]; rfl)) rfl<|C0 26 rfl<|Wg<|ret1 rfl rfl ⟨?_, h2.drop 0⟩
  rw [dN (fun hm => q6 ((may_eq m).2 hm).2.2.2.2.2.2.1)]; rfl
 ·refine L0<|H1 h1 [0] 2 rfl<|I0 (Bt (T1 rfl rfl) (dA q0)) rfl<|H1 h1 [0] 3 rfl<|Q0 rfl<|I0 (Bt (Z1 rfl rfl) (dA q1)) rfl<|H1 h1 [0] 4 rfl<|Q0 rfl<|I0 (Bt (T1 rfl rfl) (dA q2)) rfl<|H1 h1 [0] 4 rfl<|Q0 rfl<|I0 (Bt (Z1 rfl rfl) (dA q3)) rfl<|H1 h1 [0] 4 rfl<|Q0 rfl<|I0 (Bt (T1 rfl rfl) (dA q4)) rfl<|H1 h1 [0] 4 rfl<|Q0 rfl<|I0 (Bt (Z1 rfl rfl) (dA q5)) rfl<|H1 h1 [0] 4 rfl<|Q0 rfl<|C1 (cn func80) rfl rfl (rnum_c _ _ h1) fun w3 h3 =>Q0 rfl<|I0 (Bt (Y3 (b := []) rfl rfl) (by rw [dN q6]; rfl)) rfl<|H1 h3 [0] 4 rfl<|Q0 rfl<|C1 (cn func80) rfl rfl (rnum_c _ _ h3) fun w4 h4 =>Q0 rfl<|I0 (Bf (Y3 (b := []) rfl rfl) (by rw [dA (Classical.not_not.1 q7)]; rfl)) rfl<|C0 20 rfl<|Wg<|ret1 rfl rfl ⟨?_, h4.drop 0⟩
  rw [dN (fun hm => q7 ((may_eq m).2 hm).2.2.2.2.2.2.2.1)]; rfl
 ·refine L0<|H1 h1 [0] 2 rfl<|I0 (Bt (T1 rfl rfl) (dA q0)) rfl<|H1 h1 [0] 3 rfl<|Q0 rfl<|I0 (Bt (Z1 rfl rfl) (dA q1)) rfl<|H1 h1 [0] 4 rfl<|Q0 rfl<|I0 (Bt (T1 rfl rfl) (dA q2)) rfl<|H1 h1 [0] 4 rfl<|Q0 rfl<|I0 (Bt (Z1 rfl rfl) (dA q3)) rfl<|H1 h1 [0] 4 rfl<|Q0 rfl<|I0 (Bt (T1 rfl rfl) (dA q4)) rfl<|H1 h1 [0] 4 rfl<|Q0 rfl<|I0 (Bt (Z1 rfl rfl) (dA q5)) rfl<|H1 h1 [0] 4 rfl<|Q0 rfl<|C1 (cn func80) rfl rfl (rnum_c _ _ h1) fun w5 h5 =>Q0 rfl<|I0 (Bt (Y3 (b := []) rfl rfl) (by rw [dN q6]; rfl)) rfl<|H1 h5 [0] 4 rfl<|Q0 rfl<|C1 (cn func80) rfl rfl (rnum_c _ _ h5) fun w6 h6 =>Q0 rfl<|I0 (Bt (Y3 (b := []) rfl rfl) (by rw [dN q7]; rfl)) rfl<|H1 h6 [0] 4 rfl<|Q0 rfl<|C1 (cn func80) rfl rfl (rnum_c _ _ h6) fun w7 h7 =>Q0 rfl<|I0 (Bf (Y3 (b := []) rfl rfl) (by rw [dA (Classical.not_not.1 q8)]; rfl)) rfl<|C0 14 rfl<|Wg<|ret1 rfl rfl ⟨?_, h7.drop 0⟩
  rw [dN (fun hm => q8 ((may_eq m).2 hm).2.2.2.2.2.2.2.2.1)]; rfl
 ·refine L0<|H1 h1 [0] 2 rfl<|I0 (Bt (T1 rfl rfl) (dA q0)) rfl<|H1 h1 [0] 3 rfl<|Q0 rfl<|I0 (Bt (Z1 rfl rfl) (dA q1)) rfl<|H1 h1 [0] 4 rfl<|Q0 rfl<|I0 (Bt (T1 rfl rfl) (dA q2)) rfl<|H1 h1 [0] 4 rfl<|Q0 rfl<|I0 (Bt (Z1 rfl rfl) (dA q3)) rfl<|H1 h1 [0] 4 rfl<|Q0 rfl<|I0 (Bt (T1 rfl rfl) (dA q4)) rfl<|H1 h1 [0] 4 rfl<|Q0 rfl<|I0 (Bt (Z1 rfl rfl) (dA q5)) rfl<|H1 h1 [0] 4 rfl<|Q0 rfl<|C1 (cn func80) rfl rfl (rnum_c _ _ h1) fun w8 h8 =>Q0 rfl<|I0 (Bt (Y3 (b := []) rfl rfl) (by rw [dN q6]; rfl)) rfl<|H1 h8 [0] 4 rfl<|Q0 rfl<|C1 (cn func80) rfl rfl (rnum_c _ _ h8) fun w9 h9 =>Q0 rfl<|I0 (Bt (Y3 (b := []) rfl rfl) (by rw [dN q7]; rfl)) rfl<|H1 h9 [0] 4 rfl<|Q0 rfl<|C1 (cn func80) rfl rfl (rnum_c _ _ h9) fun w10 h10 =>Q0 rfl<|I0 (Bt (Y3 (b := []) rfl rfl) (by rw [dN q8]; rfl)) rfl<|H1 h10 [0] 4 rfl<|Q0 rfl<|C1 (cn func80) rfl rfl (rnum_c _ _ h10) fun w11 h11 =>Q0 rfl<|I0 (Bf (Y3 (b := []) rfl rfl) (by rw [dA (Classical.not_not.1 q9)]; rfl)) rfl<|C0 8 rfl<|Wg<|ret1 rfl rfl ⟨?_, h11.drop 0⟩
  rw [dN (fun hm => q9 ((may_eq m).2 hm).2.2.2.2.2.2.2.2.2.1)]; rfl
 ·refine L0<|H1 h1 [0] 2 rfl<|I0 (Bt (T1 rfl rfl) (dA q0)) rfl<|H1 h1 [0] 3 rfl<|Q0 rfl<|I0 (Bt (Z1 rfl rfl) (dA q1)) rfl<|H1 h1 [0] 4 rfl<|Q0 rfl<|I0 (Bt (T1 rfl rfl) (dA q2)) rfl<|H1 h1 [0] 4 rfl<|Q0 rfl<|I0 (Bt (Z1 rfl rfl) (dA q3)) rfl<|H1 h1 [0] 4 rfl<|Q0 rfl<|I0 (Bt (T1 rfl rfl) (dA q4)) rfl<|H1 h1 [0] 4 rfl<|Q0 rfl<|I0 (Bt (Z1 rfl rfl) (dA q5)) rfl<|H1 h1 [0] 4 rfl<|Q0 rfl<|C1 (cn func80) rfl rfl (rnum_c _ _ h1) fun w12 h12 =>Q0 rfl<|I0 (Bt (Y3 (b := []) rfl rfl) (by rw [dN q6]; rfl)) rfl<|H1 h12 [0] 4 rfl<|Q0 rfl<|C1 (cn func80) rfl rfl (rnum_c _ _ h12) fun w13 h13 =>Q0 rfl<|I0 (Bt (Y3 (b := []) rfl rfl) (by rw [dN q7]; rfl)) rfl<|H1 h13 [0] 4 rfl<|Q0 rfl<|C1 (cn func80) rfl rfl (rnum_c _ _ h13) fun w14 h14 =>Q0 rfl<|I0 (Bt (Y3 (b := []) rfl rfl) (by rw [dN q8]; rfl)) rfl<|H1 h14 [0] 4 rfl<|Q0 rfl<|C1 (cn func80) rfl rfl (rnum_c _ _ h14) fun w15 h15 =>Q0 rfl<|I0 (Bt (Y3 (b := []) rfl rfl) (by rw [dN q9]; rfl)) rfl<|H1 h15 [0] 4 rfl<|Q0 rfl<|I0 (R0 (n := (m.tx.length : Int)) (E3 underlying9 rfl rfl) rfl) rfl<|Q0 rfl<|I0 (Bf (Z1 rfl rfl) (dN q10)) rfl<|C0 2 rfl<|Wg<|ret1 rfl rfl ⟨?_, h15.drop 0⟩
  rw [dN (fun hm => q10 ((may_eq m).2 hm).2.2.2.2.2.2.2.2.2.2)]; rfl
 refine L0<|H1 h1 [0] 2 rfl<|I0 (Bt (T1 rfl rfl) (dA q0)) rfl<|H1 h1 [0] 3 rfl<|Q0 rfl<|I0 (Bt (Z1 rfl rfl) (dA q1)) rfl<|H1 h1 [0] 4 rfl<|Q0 rfl<|I0 (Bt (T1 rfl rfl) (dA q2)) rfl<|H1 h1 [0] 4 rfl<|Q0 rfl<|I0 (Bt (Z1 rfl rfl) (dA q3)) rfl<|H1 h1 [0] 4 rfl<|Q0 rfl<|I0 (Bt (T1 rfl rfl) (dA q4)) rfl<|H1 h1 [0] 4 rfl<|Q0 rfl<|I0 (Bt (Z1 rfl rfl) (dA q5)) rfl<|H1 h1 [0] 4 rfl<|Q0 rfl<|C1 (cn func80) rfl rfl (rnum_c _ _ h1) fun w16 h16 =>Q0 rfl<|I0 (Bt (Y3 (b := []) rfl rfl) (by rw [dN q6]; rfl)) rfl<|H1 h16 [0] 4 rfl<|Q0 rfl<|C1 (cn func80) rfl rfl (rnum_c _ _ h16) fun w17 h17 =>Q0 rfl<|I0 (Bt (Y3 (b := []) rfl rfl) (by rw [dN q7]; rfl)) rfl<|H1 h17 [0] 4 rfl<|Q0 rfl<|C1 (cn func80) rfl rfl (rnum_c _ _ h17) fun w18 h18 =>Q0 rfl<|I0 (Bt (Y3 (b := []) rfl rfl) (by rw [dN q8]; rfl)) rfl<|H1 h18 [0] 4 rfl<|Q0 rfl<|C1 (cn func80) rfl rfl (rnum_c _ _ h18) fun w19 h19 =>Q0 rfl<|I0 (Bt (Y3 (b := []) rfl rfl) (by rw [dN q9]; rfl)) rfl<|H1 h19 [0] 4 rfl<|Q0 rfl<|I0 (R0 (n := (m.tx.length : Int)) (E3 underlying9 rfl rfl) rfl) rfl<|Q0 rfl<|I0 (Bt (Z1 rfl rfl) (dA q10)) rfl<|C0 2 rfl<|Wg<|ret1 rfl rfl ⟨?_, h19.drop 0⟩
 rw [dA ((may_eq m).1 ⟨q0, q1, q2, q3, q4, q5, q6, q7, q8, q9, q10⟩)]; rfl
theorem renc_c (w : World) (m : M) (h : St W F cs w) (hl : m.tx.length ≤ 100000) : Calls prog 61 #[m.val] w fun r w' => r = .returned (.string (bs (encB m))) ∧ St W F cs w'  := by
 refine enter (args := [.agg #[Vi m.k, Vi m.f, Vi m.t, Vi m.j, Vi m.ep, Vi m.st, Vi m.ar, .string (bs m.tx)]]) func61 rfl rfl rfl<|Wi<|J3 rfl h rfl fun b1 w1 h1=>C0 1 rfl<|J0 (H0 (N0 (N0 ?_)))
 by_cases hmy : mayM m
 ·refine L0<|I0 (U2 h1 0 rfl underlying42 rfl inf42 rfl rfl) rfl<|C1 (cn func37) rfl rfl (rmay_c _ m h1) fun w2 h2 =>C0 1 rfl<|Wa<|E1 rfl ((by rw [dA hmy]; rfl))<|U0 (H0 (N0 ?_))
  have hmy2 := hmy
  obtain ⟨q0, q1, q2, q3, q4, q5, q6, q7, q8⟩ := hmy2
  refine T5 h2 (fun s_ => ([] : List Nat).any (Nat.beq s_)) mixed (by kernel_rfl)<|fun hx =>fun w3 h3=>J4 hx 12 [1, 4] [0, 3, 8, 13, 17, 21, 25, 29, 1, 4] [0, 0] rfl<|Z2 hx 5 (by rfl) (fun w_ => V0 rfl rfl (by omega)) rfl<|J4 hx 12 [9] [9] [0] rfl<|Z2 hx 10 (by rfl) (fun w_ => V0 rfl rfl (by omega)) rfl<|J4 hx 12 [14, 18, 22, 26, 30] [14, 18, 22, 26, 30] [0, 0, 0, 0, 0] rfl<|F3 2 h3 (by rfl)<|C1 (cn func80) rfl rfl (rnum_c _ _ h3) fun w4 h4 =>J0<|H2<|F3 6 h4 (by rfl)<|C1 (cn func80) rfl rfl (rnum_c _ _ h4) fun w5 h5 =>J0<|H2<|Z2 hx 7 (by rfl) (fun w_ => M3 rfl rfl (by have := text_len hl; have := numB_len m.k; have := numB_len (m.f + 1); have := numB_len (m.t + 1); have := numB_len m.j; have := numB_len m.ep; have := numB_len m.st; have := numB_len m.ar; (try simp only [lA]); omega)) rfl<|F3 11 h5 (by rfl)<|C1 (cn func80) rfl rfl (rnum_c _ _ h5) fun w6 h6 =>J0<|H2<|Z2 hx 12 (by rfl) (fun w_ => M3 rfl rfl (by have := text_len hl; have := numB_len m.k; have := numB_len (m.f + 1); have := numB_len (m.t + 1); have := numB_len m.j; have := numB_len m.ep; have := numB_len m.st; have := numB_len m.ar; (try simp only [lA]); omega)) rfl<|F3 15 h6 (by rfl)<|C1 (cn func80) rfl rfl (rnum_c _ _ h6) fun w7 h7 =>J0<|H2<|Z2 hx 16 (by rfl) (fun w_ => M3 rfl rfl (by have := text_len hl; have := numB_len m.k; have := numB_len (m.f + 1); have := numB_len (m.t + 1); have := numB_len m.j; have := numB_len m.ep; have := numB_len m.st; have := numB_len m.ar; (try simp only [lA]); omega)) rfl<|F3 19 h7 (by rfl)<|C1 (cn func80) rfl rfl (rnum_c _ _ h7) fun w8 h8 =>J0<|H2<|Z2 hx 20 (by rfl) (fun w_ => M3 rfl rfl (by have := text_len hl; have := numB_len m.k; have := numB_len (m.f + 1); have := numB_len (m.t + 1); have := numB_len m.j; have := numB_len m.ep; have := numB_len m.st; have := numB_len m.ar; (try simp only [lA]); omega)) rfl<|F3 23 h8 (by rfl)<|C1 (cn func80) rfl rfl (rnum_c _ _ h8) fun w9 h9 =>J0<|H2<|Z2 hx 24 (by rfl) (fun w_ => M3 rfl rfl (by have := text_len hl; have := numB_len m.k; have := numB_len (m.f + 1); have := numB_len (m.t + 1); have := numB_len m.j; have := numB_len m.ep; have := numB_len m.st; have := numB_len m.ar; (try simp only [lA]); omega)) rfl<|F3 27 h9 (by rfl)<|C1 (cn func80) rfl rfl (rnum_c _ _ h9) fun w10 h10 =>J0<|H2<|Z2 hx 28 (by rfl) (fun w_ => M3 rfl rfl (by have := text_len hl; have := numB_len m.k; have := numB_len (m.f + 1); have := numB_len (m.t + 1); have := numB_len m.j; have := numB_len m.ep; have := numB_len m.st; have := numB_len m.ar; (try simp only [lA]); omega)) rfl<|F3 31 h10 (by rfl)<|C1 (cn func104) rfl rfl (rtext_c _ _ h10 hl) fun w11 h11 =>J0<|H2<|Z2 hx 32 (by rfl) (fun w_ => M3 rfl rfl (by have := text_len hl; have := numB_len m.k; have := numB_len (m.f + 1); have := numB_len (m.t + 1); have := numB_len m.j; have := numB_len m.ep; have := numB_len m.st; have := numB_len m.ar; (try simp only [lA]); omega)) rfl<|L3 hx [33] rfl<|H3 (.inr h11) (by kernel_rfl)<|H0<|O1<|ret1 rfl rfl ⟨?_, h11.drop 0⟩
  unfold encB
  rw [if_pos hmy]
  simp [numsM]
 refine L0<|I0 (U2 h1 0 rfl underlying42 rfl inf42 rfl rfl) rfl<|C1 (cn func37) rfl rfl (rmay_c _ m h1) fun w12 h12 =>C0 1 rfl<|Wa<|J1 rfl ((by rw [dN hmy]; rfl))<|Wi<|C0 1 rfl<|Wg<|ret1 rfl rfl ⟨?_, h12.drop 0⟩
 unfold encB
 rw [if_neg hmy]; rfl
theorem dig_at {l : List UInt8} {p k : Nat} (hk : k < szB l p) : (dig l p).getD k 0 = l.getD (p + 1 + k) 0 := by
 unfold dig
 rw [gD, List.getElem?_take, if_pos hk, List.getElem?_drop, ← gD]
theorem qnum_c (w : World) {i rb : Nat} {p : Nat} {l : List UInt8} {e : Int} (h : St W F cs w) (hi : cs[i]? = some [(rb, .cells #[.string (bs l), Vi p, Vi e] 87 (0, 0))]) (hl : l.length ≤ 9223372036854775807) (hp : p ≤ l.length ∧ p ≤ 90000) : Calls prog 34 #[pz rb] w fun r w' => r = .returned (Vi ((rdN l p e).1 : Nat)) ∧ St W F (cs.set i [(rb, .cells #[.string (bs l), Vi ((rdN l p e).2.1 : Nat), Vi (rdN l p e).2.2] 87 (0, 0))]) w'  := by
 refine enter (args := [pz rb]) func34 rfl rfl rfl<|Wi<|C0 1 rfl<|J0 (H0 (N0 (N0 ?_)))
 by_cases he0 : e = 0
 ·refine L0<|C0 3 rfl<|I0 (K0 underlying43 rfl rfl (h.ocell hi rfl)) rfl<|I0 (Bf (J2 rfl rfl) (by rw [dA he0]; rfl)) rfl<|Wa<|E1 rfl (rfl)<|U0 (H0 (N0 (N0 ?_)))
  have hcase : p = l.length ∨ p < l.length := by omega
  rcases hcase with hpe | hpl
  ·refine T2 (C := fun w_ => St W _ _ w_) mixed (by kernel_rfl) (h.drew)<|M2 3 rfl<|X0 (fun w_ hC_ => K0 underlying3 rfl rfl (hC_.ocell hi rfl)) rfl<|M2 3 rfl<|X0 (fun w_ hC_ => K0 underlying9 rfl rfl (hC_.ocell hi rfl)) rfl<|X0 (fun w_ hC_ => R0 (n := (l.length : Int)) (E3 underlying9 rfl rfl) rfl) rfl<|X0 (fun w_ hC_ => Bt (L1 rfl rfl) (dA (by omega))) rfl<|K3 fun w1 h1=>H0<|J1 rfl (rfl)<|Wi<|C0 3 rfl<|C4 h1 i hi rfl rfl inf43 rfl rfl (Free.zero _) (Nat.le_of_ble_eq_true rfl) ?_
   intro  w2 h2
   try simp only [ZZ] at h2
   refine We<|C0 1 rfl<|J0 (H0 (O1 ?_))
   have he2 : rerr l p = 2 := by unfold rerr; rw [if_pos (by omega)]
   have e1 : rdN l p e = (0, p, 2) := by unfold rdN; rw [if_neg (by rw [he0]; simp), if_neg (by rw [he2]; decide), he2]
   rw [e1]
   exact ret1 rfl rfl ⟨rfl, h2⟩
  refine T2 (C := fun w_ => St W _ _ w_) mixed (by kernel_rfl) (h.drew)<|M2 3 rfl<|X0 (fun w_ hC_ => K0 underlying3 rfl rfl (hC_.ocell hi rfl)) rfl<|M2 3 rfl<|X0 (fun w_ hC_ => K0 underlying9 rfl rfl (hC_.ocell hi rfl)) rfl<|X0 (fun w_ hC_ => R0 (n := (l.length : Int)) (E3 underlying9 rfl rfl) rfl) rfl<|X0 (fun w_ hC_ => Bf (L1 rfl rfl) (dN (by omega))) rfl<|K3 fun w3 h3=>H0<|E1 rfl (rfl)<|U0<|H0<|N0<|T2 (C := fun w_ => St W _ _ w_) mixed (by kernel_rfl) (h3.drew)<|M2 3 rfl<|X0 (fun w_ hC_ => K0 underlying9 rfl rfl (hC_.ocell hi rfl)) rfl<|M2 3 rfl<|X0 (fun w_ hC_ => K0 underlying3 rfl rfl (hC_.ocell hi rfl)) rfl<|X0 (fun w_ hC_ => C5 underlying9 rfl rfl (n := p) rfl (by omega)) rfl<|X0 (fun w_ hC_ => R0 (n := (szB l p : Int)) (V5 underlying5 underlying3 rfl) rfl) rfl<|M2 1 rfl<|K3 fun w4 h4=>H0 (N0 (N0 ?_))
  have hcase : 6 < szB l p ∨ szB l p ≤ 6 := by omega
  rcases hcase with hs6 | hs6
  ·refine L0<|C0 1 rfl<|I0 (Bt (Y1 rfl rfl) (dA (by omega))) rfl<|Wa<|J1 rfl (rfl)<|Wi<|C0 3 rfl<|C4 h4 i hi rfl rfl inf43 rfl rfl (Free.zero _) (Nat.le_of_ble_eq_true rfl) ?_
   intro  w5 h5
   try simp only [ZZ] at h5
   refine We<|C0 1 rfl<|J0 (H0 (O1 ?_))
   have he2 : rerr l p = 3 := by unfold rerr; rw [if_neg (by omega), if_pos hs6]
   have e1 : rdN l p e = (0, p, 3) := by unfold rdN; rw [if_neg (by rw [he0]; simp), if_neg (by rw [he2]; decide), he2]
   rw [e1]
   exact ret1 rfl rfl ⟨rfl, h5⟩
  refine L0<|C0 1 rfl<|I0 (Bf (Y1 rfl rfl) (dN (by omega))) rfl<|Wa<|E1 rfl (rfl)<|U0 (H0 (N0 (N0 ?_)))
  have hcase : l.length < p + 1 + szB l p ∨ p + 1 + szB l p ≤ l.length := by omega
  rcases hcase with hse | hsl
  ·refine T2 (C := fun w_ => St W _ _ w_) mixed (by kernel_rfl) (h4.drew)<|M2 3 rfl<|X0 (fun w_ hC_ => K0 underlying3 rfl rfl (hC_.ocell hi rfl)) rfl<|X0 (fun w_ hC_ => V0 rfl rfl (by omega)) rfl<|M2 1 rfl<|X0 (fun w_ hC_ => V0 rfl rfl (by omega)) rfl<|M2 3 rfl<|X0 (fun w_ hC_ => K0 underlying9 rfl rfl (hC_.ocell hi rfl)) rfl<|X0 (fun w_ hC_ => R0 (n := (l.length : Int)) (E3 underlying9 rfl rfl) rfl) rfl<|X0 (fun w_ hC_ => Bt (Y1 rfl rfl) (dA (by omega))) rfl<|K3 fun w6 h6=>H0<|J1 rfl (rfl)<|Wi<|C0 3 rfl<|C4 h6 i hi rfl rfl inf43 rfl rfl (Free.zero _) (Nat.le_of_ble_eq_true rfl) ?_
   intro  w7 h7
   try simp only [ZZ] at h7
   refine We<|C0 1 rfl<|J0 (H0 (O1 ?_))
   have he2 : rerr l p = 2 := by unfold rerr; rw [if_neg (by omega), if_neg (by omega), if_pos hse]
   have e1 : rdN l p e = (0, p, 2) := by unfold rdN; rw [if_neg (by rw [he0]; simp), if_neg (by rw [he2]; decide), he2]
   rw [e1]
   exact ret1 rfl rfl ⟨rfl, h7⟩
  have hdl := dig_len hsl
  refine T2 (C := fun w_ => St W _ _ w_) mixed (by kernel_rfl) (h4.drew)<|M2 3 rfl<|X0 (fun w_ hC_ => K0 underlying3 rfl rfl (hC_.ocell hi rfl)) rfl<|X0 (fun w_ hC_ => V0 rfl rfl (by omega)) rfl<|M2 1 rfl<|X0 (fun w_ hC_ => V0 rfl rfl (by omega)) rfl<|M2 3 rfl<|X0 (fun w_ hC_ => K0 underlying9 rfl rfl (hC_.ocell hi rfl)) rfl<|X0 (fun w_ hC_ => R0 (n := (l.length : Int)) (E3 underlying9 rfl rfl) rfl) rfl<|X0 (fun w_ hC_ => Bf (Y1 rfl rfl) (dN (by omega))) rfl<|K3 fun w8 h8=>H0<|E1 rfl (rfl)<|Wk<|C0 1 rfl<|Wh<|C0 1 rfl<|Wj<|B3 (σ := Nat) (fun q_ => [(0, pz rb), (3, .int .i64 (szB l p : Int)), (4, .int .i64 (valN ((dig l p).take q_) : Int)), (5, .int .i64 (q_ : Int))]) (fun q_ w => q_ ≤ szB l p ∧ St W F cs w) (fun q_ => szB l p - q_) (0) (⟨by omega, h8⟩) ?_
  rintro k w9 ⟨hk, hL⟩
  try dsimp only at hk hL
  refine W2 [(0, pz rb), (3, .int .i64 (szB l p : Int)), (4, .int .i64 (valN ((dig l p).take k) : Int)), (5, .int .i64 (k : Int))] ?_
  have hvl := valN_lt ((dig l p).take k)
  rw [List.length_take, Nat.min_eq_left (by omega)] at hvl
  have hpw := pow_le (n := k) (by omega)
  refine N0<|Wi<|C0 2 rfl<|I0 (Q1 rfl rfl) rfl<|Wa<|Z0 rfl (fun c10 => ?_) (fun c10 => ?_)
  ·try simp only [DD] at c10
   refine U0<|H0<|N0<|M1<|T2 (C := fun w_ => St W _ _ w_) mixed (by kernel_rfl) (hL.drew)<|M2 1 rfl<|X0 (fun w_ hC_ => R0 (n := ((256 * valN ((dig l p).take k) : Nat) : Int)) (B4 rfl rfl (by omega)) (by omega)) rfl<|M2 3 rfl<|X0 (fun w_ hC_ => K0 underlying9 rfl rfl (hC_.ocell hi rfl)) rfl<|M2 3 rfl<|X0 (fun w_ hC_ => K0 underlying3 rfl rfl (hC_.ocell hi rfl)) rfl<|X0 (fun w_ hC_ => V0 rfl rfl (by omega)) rfl<|M2 1 rfl<|X0 (fun w_ hC_ => V0 rfl rfl (by omega)) rfl<|X0 (fun w_ hC_ => X1 (u := V8 ((dig l p).getD k 0)) (C5 underlying9 rfl rfl (n := p + 1 + k) (by omega) (by omega)) (by rw [dig_at (by omega)])) rfl<|X0 (fun w_ hC_ => V5 underlying5 underlying3 rfl) rfl<|X0 (fun w_ hC_ => R0 (n := ((256 * valN ((dig l p).take k) + ((dig l p).getD k 0).toNat : Nat) : Int)) (V0 rfl rfl (by have := ((dig l p).getD k 0).toNat_lt; omega)) (by omega)) rfl<|M2 1 rfl<|K3 fun w11 h11=>N1<|H0<|L0<|C0 1 rfl<|I0 (V0 rfl rfl (by omega)) rfl<|C0 1 rfl<|J0<|F1 (k + 1) (by omega) ⟨rfl, rfl, ?_, rfl, trivial⟩ ⟨by omega, h11⟩
   show _ = some (Value.int .i64 (valN ((dig l p).take (k + 1)) : Int))
   rw [take_one (by omega), valN_snoc]
   rfl
  try simp only [DD] at c10
  refine U1<|B2<|WX.cut<|E2<|H0<|N0<|N0 ?_
  obtain rfl : k = szB l p := by omega
  rw [show (dig l p).take (szB l p) = dig l p from List.take_of_length_le (by omega)] at *
  have hcase : 1099511627776 < valN (dig l p) ∨ (valN (dig l p) ≤ 1099511627776 ∧ szB l p = 0) ∨ (valN (dig l p) ≤ 1099511627776 ∧ 0 < szB l p ∧ (dig l p).getD 0 0 = 0) ∨ (valN (dig l p) ≤ 1099511627776 ∧ 0 < szB l p ∧ ¬ (dig l p).getD 0 0 = 0) := by
   rcases cases11 (szB l p) (valN (dig l p)) 1099511627776 ((dig l p).getD 0 0 = 0) with h1 | ⟨h1, h2⟩ | ⟨h1, h2, h3⟩ | ⟨h1, h2, h3⟩
   ·rcases Nat.lt_or_ge 1099511627776 (valN (dig l p)) with h4 | h4
    ·exact .inl h4
    exact .inr (.inl ⟨h4, h1⟩)
   ·rcases Nat.lt_or_ge 1099511627776 (valN (dig l p)) with h4 | h4
    ·exact .inl h4
    exact .inr (.inr (.inl ⟨h4, h1, h2⟩))
   ·exact .inl h3
   exact .inr (.inr (.inr ⟨h3, h1, h2⟩))
  rcases hcase with y1 | ⟨y1, y2⟩ | ⟨y1, y2, y3⟩ | ⟨y1, y2, y3⟩
  ·refine T2 (C := fun w_ => St W _ _ w_) mixed (by kernel_rfl) (hL.drew)<|M2 1 rfl<|X0 (fun w_ hC_ => Bt (Y1 rfl rfl) (dA (by omega))) rfl<|M2 4 rfl<|Q2 rfl rfl rfl<|Q2 rfl rfl rfl<|Q2 rfl rfl rfl<|Q2 rfl rfl rfl<|Q2 rfl rfl rfl<|Q2 rfl rfl rfl<|Q2 rfl rfl rfl<|Q2 rfl rfl rfl<|Q2 rfl rfl rfl<|Q2 rfl rfl rfl<|Q2 rfl rfl rfl<|M2 2 rfl<|K3 fun w12 h12=>H0<|J1 rfl (rfl)<|Wi<|C0 3 rfl<|C4 h12 i hi rfl rfl inf43 rfl rfl (Free.zero _) (Nat.le_of_ble_eq_true rfl) ?_
   intro  w13 h13
   try simp only [ZZ] at h13
   refine We<|C0 1 rfl<|J0 (H0 (O1 ?_))
   have he2 : rerr l p = 3 := by unfold rerr; rw [if_neg (by omega), if_neg (by omega), if_neg (by omega), if_pos (.inl y1)]
   have e1 : rdN l p e = (0, p, 3) := by unfold rdN; rw [if_neg (by rw [he0]; simp), if_neg (by rw [he2]; decide), he2]
   rw [e1]
   exact ret1 rfl rfl ⟨rfl, h13⟩
  ·refine T2 (C := fun w_ => St W _ _ w_) mixed (by kernel_rfl) (hL.drew)<|M2 1 rfl<|X0 (fun w_ hC_ => Bf (Y1 rfl rfl) (dN (by omega))) rfl<|M2 2 rfl<|Y2 rfl<|X0 (fun w_ hC_ => Bf (Y1 rfl rfl) (dN (by omega))) rfl<|M2 14 rfl<|K3 fun w14 h14=>H0<|E1 rfl (rfl)<|Wk<|C0 4 rfl<|I0 (K0 underlying3 rfl rfl (h14.ocell hi rfl)) rfl<|I0 (V0 rfl rfl (by omega)) rfl<|C0 1 rfl<|I0 (V0 rfl rfl (by omega)) rfl<|C0 2 rfl<|C4 h14 i hi rfl rfl inf3 rfl rfl (Free.zero _) (Nat.le_of_ble_eq_true rfl) ?_
   intro  w15 h15
   try simp only [ZZ] at h15
   refine We<|C0 2 rfl<|J0 (H0 (O1 ?_))
   have he2 : rerr l p = 0 := by
    unfold rerr
    rw [if_neg (by omega), if_neg (by omega), if_neg (by omega), if_neg]
    rintro (h4 | ⟨h4, h5⟩)
    ·omega
    first | omega | exact absurd h5 y3
   have e1 : rdN l p e = (rval l p, rnx l p, 0) := by unfold rdN; rw [if_neg (by rw [he0]; simp), if_pos he2]
   rw [e1]
   subst he0
   exact ret1 rfl rfl ⟨rfl, h15⟩
  ·refine T2 (C := fun w_ => St W _ _ w_) mixed (by kernel_rfl) (hL.drew)<|M2 1 rfl<|X0 (fun w_ hC_ => Bf (Y1 rfl rfl) (dN (by omega))) rfl<|M2 2 rfl<|Y2 rfl<|X0 (fun w_ hC_ => Bt (Y1 rfl rfl) (dA (by omega))) rfl<|M2 4 rfl<|Y2 rfl<|X0 (fun w_ hC_ => K0 underlying9 rfl rfl (hC_.ocell hi rfl)) rfl<|M2 3 rfl<|Y2 rfl<|X0 (fun w_ hC_ => K0 underlying3 rfl rfl (hC_.ocell hi rfl)) rfl<|Y2 rfl<|X0 (fun w_ hC_ => V0 rfl rfl (by omega)) rfl<|Y2 rfl<|X0 (fun w_ hC_ => X1 (u := V8 ((dig l p).getD 0 0)) (C5 underlying9 rfl rfl (n := p + 1) (by omega) (by omega)) (by rw [dig_at (by omega)])) rfl<|Y2 rfl<|X0 (fun w_ hC_ => Bt (L1 rfl rfl) (by rw [y3]; rfl)) rfl<|M2 2 rfl<|K3 fun w16 h16=>H0<|J1 rfl (rfl)<|Wi<|C0 3 rfl<|C4 h16 i hi rfl rfl inf43 rfl rfl (Free.zero _) (Nat.le_of_ble_eq_true rfl) ?_
   intro  w17 h17
   try simp only [ZZ] at h17
   refine We<|C0 1 rfl<|J0 (H0 (O1 ?_))
   have he2 : rerr l p = 3 := by unfold rerr; rw [if_neg (by omega), if_neg (by omega), if_neg (by omega), if_pos (.inr ⟨y2, y3⟩)]
   have e1 : rdN l p e = (0, p, 3) := by unfold rdN; rw [if_neg (by rw [he0]; simp), if_neg (by rw [he2]; decide), he2]
   rw [e1]
   exact ret1 rfl rfl ⟨rfl, h17⟩
  have y4 := u8_ne y3
  refine T2 (C := fun w_ => St W _ _ w_) mixed (by kernel_rfl) (hL.drew)<|M2 1 rfl<|X0 (fun w_ hC_ => Bf (Y1 rfl rfl) (dN (by omega))) rfl<|M2 2 rfl<|Y2 rfl<|X0 (fun w_ hC_ => Bt (Y1 rfl rfl) (dA (by omega))) rfl<|M2 4 rfl<|Y2 rfl<|X0 (fun w_ hC_ => K0 underlying9 rfl rfl (hC_.ocell hi rfl)) rfl<|M2 3 rfl<|Y2 rfl<|X0 (fun w_ hC_ => K0 underlying3 rfl rfl (hC_.ocell hi rfl)) rfl<|Y2 rfl<|X0 (fun w_ hC_ => V0 rfl rfl (by omega)) rfl<|Y2 rfl<|X0 (fun w_ hC_ => X1 (u := V8 ((dig l p).getD 0 0)) (C5 underlying9 rfl rfl (n := p + 1) (by omega) (by omega)) (by rw [dig_at (by omega)])) rfl<|Y2 rfl<|X0 (fun w_ hC_ => Bf (L1 rfl rfl) (dN y4)) rfl<|M2 2 rfl<|K3 fun w18 h18=>H0<|E1 rfl (rfl)<|Wk<|C0 4 rfl<|I0 (K0 underlying3 rfl rfl (h18.ocell hi rfl)) rfl<|I0 (V0 rfl rfl (by omega)) rfl<|C0 1 rfl<|I0 (V0 rfl rfl (by omega)) rfl<|C0 2 rfl<|C4 h18 i hi rfl rfl inf3 rfl rfl (Free.zero _) (Nat.le_of_ble_eq_true rfl) ?_
  intro  w19 h19
  try simp only [ZZ] at h19
  refine We<|C0 2 rfl<|J0 (H0 (O1 ?_))
  have he2 : rerr l p = 0 := by
   unfold rerr
   rw [if_neg (by omega), if_neg (by omega), if_neg (by omega), if_neg]
   rintro (h4 | ⟨h4, h5⟩)
   ·omega
   first | omega | exact absurd h5 y3
  have e1 : rdN l p e = (rval l p, rnx l p, 0) := by unfold rdN; rw [if_neg (by rw [he0]; simp), if_pos he2]
  rw [e1]
  subst he0
  exact ret1 rfl rfl ⟨rfl, h19⟩
 refine L0<|C0 3 rfl<|I0 (K0 underlying43 rfl rfl (h.ocell hi rfl)) rfl<|I0 (Bt (J2 rfl rfl) (by rw [dN he0]; rfl)) rfl<|Wa<|J1 rfl (rfl)<|Wi<|C0 1 rfl<|J0 (H0 (O1 ?_))
 have e1 : rdN l p e = (0, p, e) := by unfold rdN; rw [if_pos he0]
 rw [e1]
 refine ret1 rfl rfl ⟨rfl, ?_⟩
 rw [setS hi]; exact h
theorem fail_c (w : World) {i rb : Nat} {q e : Int} {l : List UInt8} (a b : Int) (h : St W F cs w) (hi : cs[i]? = some [(rb, .cells #[.string (bs l), Vi q, Vi e] 87 (0, 0))]) : Calls prog 79 #[pz rb, Vi a, Vi b] w fun r w' => r = .returned (.tuple #[]) ∧ St W F (cs.set i [(rb, .cells #[.string (bs l), Vi a, Vi b] 87 (0, 0))]) w'  := by
 refine enter (args := [pz rb, Vi a, Vi b]) func79 rfl rfl rfl<|Wi<|C0 4 rfl<|C4 h i hi rfl rfl inf3 rfl rfl (Free.zero _) (Nat.le_of_ble_eq_true rfl) ?_
 intro  w1 h1
 try simp only [ZZ] at h1
 refine Wf<|C0 4 rfl<|C4 h1 i (show (cs.set i [(rb, .cells #[.string (bs l), Vi a, Vi e] 87 (0, 0))])[i]? = some [(rb, .cells #[.string (bs l), Vi a, Vi e] 87 (0, 0))] by rw [List.getElem?_set_self (List.getElem?_eq_some_iff.1 hi).1]) rfl rfl inf43 rfl rfl (Free.zero _) (Nat.le_of_ble_eq_true rfl) ?_
 intro  w2 h2
 try simp only [ZZ] at h2
 rw [List.set_set] at h2
 refine J0<|end0 rfl ⟨rfl, h2⟩
theorem qend_c (w : World) {i rb : Nat} {p : Nat} {l : List UInt8} {e : Int} (h : St W F cs w) (hi : cs[i]? = some [(rb, .cells #[.string (bs l), Vi p, Vi e] 87 (0, 0))]) : Calls prog 36 #[pz rb] w fun r w' => r = .returned (.tuple #[Vi (rdEnd l p e).1, Vi ((rdEnd l p e).2 : Nat)]) ∧ St W F cs w'  := by
 refine enter (args := [pz rb]) func36 rfl rfl rfl<|Wi<|C0 2 rfl<|J0 (H0 (N0 (N0 ?_)))
 rcases cases5 e p l.length with hx1 | ⟨hx1, hx2⟩ | ⟨hx1, hx2⟩
 ·refine T2 (C := fun w_ => St W _ _ w_) mixed (by kernel_rfl) (h.drew)<|M2 3 rfl<|X0 (fun w_ hC_ => K0 underlying43 rfl rfl (hC_.ocell hi rfl)) rfl<|X0 (fun w_ hC_ => Bf (L1 rfl rfl) (dN hx1)) rfl<|M2 12 rfl<|K3 fun w1 h1=>H0<|E1 rfl (rfl)<|U0<|H0<|N0<|T2 (C := fun w_ => St W _ _ w_) mixed (by kernel_rfl) (h1.drew)<|M2 3 rfl<|X0 (fun w_ hC_ => K0 underlying43 rfl rfl (hC_.ocell hi rfl)) rfl<|M2 3 rfl<|X0 (fun w_ hC_ => K0 underlying3 rfl rfl (hC_.ocell hi rfl)) rfl<|M2 2 rfl<|K3 fun w2 h2=>H0<|O1<|ret2 rfl rfl rfl ⟨?_, h2⟩
  unfold rdEnd
  rw [if_neg (fun h => hx1 h.1)]
  rfl
 ·refine T2 (C := fun w_ => St W _ _ w_) mixed (by kernel_rfl) (h.drew)<|M2 3 rfl<|X0 (fun w_ hC_ => K0 underlying43 rfl rfl (hC_.ocell hi rfl)) rfl<|X0 (fun w_ hC_ => Bt (L1 rfl rfl) (dA hx1)) rfl<|M2 4 rfl<|Y2 rfl<|X0 (fun w_ hC_ => K0 underlying3 rfl rfl (hC_.ocell hi rfl)) rfl<|M2 3 rfl<|Y2 rfl<|X0 (fun w_ hC_ => K0 underlying9 rfl rfl (hC_.ocell hi rfl)) rfl<|Y2 rfl<|X0 (fun w_ hC_ => R0 (n := (l.length : Int)) (E3 underlying9 rfl rfl) rfl) rfl<|Y2 rfl<|X0 (fun w_ hC_ => Bt (Q1 rfl rfl) (dA (by omega))) rfl<|M2 1 rfl<|K3 fun w3 h3=>H0<|J1 rfl (rfl)<|N0<|T2 (C := fun w_ => St W _ _ w_) mixed (by kernel_rfl) (h3.drew)<|M2 3 rfl<|X0 (fun w_ hC_ => K0 underlying3 rfl rfl (hC_.ocell hi rfl)) rfl<|M2 2 rfl<|K3 fun w4 h4=>H0<|O1<|ret2 rfl rfl rfl ⟨?_, h4⟩
  unfold rdEnd
  rw [if_pos ⟨hx1, hx2⟩]
  rfl
 refine T2 (C := fun w_ => St W _ _ w_) mixed (by kernel_rfl) (h.drew)<|M2 3 rfl<|X0 (fun w_ hC_ => K0 underlying43 rfl rfl (hC_.ocell hi rfl)) rfl<|X0 (fun w_ hC_ => Bt (L1 rfl rfl) (dA hx1)) rfl<|M2 4 rfl<|Y2 rfl<|X0 (fun w_ hC_ => K0 underlying3 rfl rfl (hC_.ocell hi rfl)) rfl<|M2 3 rfl<|Y2 rfl<|X0 (fun w_ hC_ => K0 underlying9 rfl rfl (hC_.ocell hi rfl)) rfl<|Y2 rfl<|X0 (fun w_ hC_ => R0 (n := (l.length : Int)) (E3 underlying9 rfl rfl) rfl) rfl<|Y2 rfl<|X0 (fun w_ hC_ => Bf (Q1 rfl rfl) (dN (by omega))) rfl<|M2 1 rfl<|K3 fun w5 h5=>H0<|E1 rfl (rfl)<|U0<|H0<|N0<|T2 (C := fun w_ => St W _ _ w_) mixed (by kernel_rfl) (h5.drew)<|M2 3 rfl<|X0 (fun w_ hC_ => K0 underlying43 rfl rfl (hC_.ocell hi rfl)) rfl<|M2 3 rfl<|X0 (fun w_ hC_ => K0 underlying3 rfl rfl (hC_.ocell hi rfl)) rfl<|M2 2 rfl<|K3 fun w6 h6=>H0<|O1<|ret2 rfl rfl rfl ⟨?_, h6⟩
 unfold rdEnd
 rw [if_neg (fun h => hx2 h.2)]
 rfl
theorem rdN_pl (l : List UInt8) (p : Nat) (e : Int) : (rdN l p e).2.1 ≤ p + 7 := by
 unfold rdN
 split
 ·exact Nat.le_add_right _ _
 split
 ·rename_i h
  show rnx l p ≤ _
  unfold rerr at h
  unfold rnx
  split at h
  ·cases h
  split at h
  ·cases h
  omega
 exact Nat.le_add_right _ _
theorem rdT_er {l : List UInt8} {p : Nat} {e : Int} (h : (rdN l p e).2.2 ≠ 0) : rdT l p e = ([], (rdN l p e).2.1, (rdN l p e).2.2) := by
 by_cases he : e = 0
 ·subst he
  by_cases hr : rerr l p = 0
  ·have hN : rdN l p 0 = (rval l p, rnx l p, 0) := by unfold rdN; rw [if_neg (by simp), if_pos hr]
   rw [hN] at h; exact absurd rfl h
  have hN : rdN l p 0 = (0, p, rerr l p) := by unfold rdN; rw [if_neg (by simp), if_neg hr]
  have hc : cerr l p 4096 = rerr l p := if_pos hr
  rw [hN]
  unfold rdT
  rw [if_neg (by simp), if_pos (by rw [hc]; exact hr), hc]
 have hN : rdN l p e = (0, p, e) := by unfold rdN; rw [if_pos he]
 rw [hN]
 unfold rdT
 rw [if_pos he]
theorem qtext_c (w : World) {i rb : Nat} {p : Nat} {l : List UInt8} {e : Int} (h : St W F cs w) (hi : cs[i]? = some [(rb, .cells #[.string (bs l), Vi p, Vi e] 87 (0, 0))]) (hl : l.length ≤ 9223372036854775807) (hp : p ≤ l.length ∧ p ≤ 90000) : Calls prog 35 #[pz rb] w fun r w' => r = .returned (.string (bs (rdT l p e).1)) ∧ St W F (cs.set i [(rb, .cells #[.string (bs l), Vi ((rdT l p e).2.1 : Nat), Vi (rdT l p e).2.2] 87 (0, 0))]) w'  := by
 refine enter (args := [pz rb]) func35 rfl rfl rfl<|Wi<|C0 1 rfl<|We<|C0 3 rfl<|I0 (K0 underlying3 rfl rfl (h.ocell hi rfl)) rfl<|C0 1 rfl<|We<|C0 1 rfl<|C1 (cn func34) rfl rfl (qnum_c _ h hi hl hp) fun w1 h1 => ?_
 have hi1 : (cs.set i [(rb, .cells #[.string (bs l), Vi ((rdN l p e).2.1 : Nat), Vi (rdN l p e).2.2] 87 (0, 0))])[i]? = some [(rb, .cells #[.string (bs l), Vi ((rdN l p e).2.1 : Nat), Vi (rdN l p e).2.2] 87 (0, 0))] := by rw [List.getElem?_set_self (List.getElem?_eq_some_iff.1 hi).1]
 have hpn := rdN_le (l := l) (p := p) e hp.1
 have hpm := rdN_pl l p e
 have hbn := rdN_bnd l p e
 refine C0 1 rfl<|J0 (H0 (N0 (N0 ?_)))
 by_cases he : (rdN l p e).2.2 = 0
 ·have hok := num_rdN he
  have hrn := hok.2.2
  refine L0<|C0 3 rfl<|I0 (K0 underlying43 rfl rfl (h1.ocell hi1 rfl)) rfl<|I0 (Bf (J2 rfl rfl) (by rw [dA he]; rfl)) rfl<|Wa<|E1 rfl (rfl)<|U0 (H0 (N0 (N0 ?_)))
  have hcase : 4096 < rval l p ∨ rval l p ≤ 4096 := by omega
  rcases hcase with hm | hm
  ·refine L0<|C0 1 rfl<|I0 (Bt (Y1 rfl rfl) (by rw [decide_eq_true_eq, hrn]; show (4096 : Int) < ((rval l p : Nat) : Int); omega)) rfl<|Wa<|J1 rfl (rfl)<|Wi<|C0 2 rfl<|C1 (cn func79) rfl rfl (fail_c _ p 3 h1 hi1) fun w2 h2 => ?_
   rw [List.set_set] at h2
   refine We<|C0 1 rfl<|J0 (H0 (O1 ?_))
   have e1 : rdT l p e = ([], p, 3) := by
    unfold rdT cerr
    rw [if_neg (by rw [hok.1]; simp), hok.2.1, if_pos (by rw [if_neg (by simp), if_pos (by omega)]; decide), if_neg (by simp), if_pos (by omega)]
   rw [e1]
   exact ret1 rfl rfl ⟨rfl, h2⟩
  refine L0<|C0 1 rfl<|I0 (Bf (Y1 rfl rfl) (by rw [decide_eq_false_iff_not, hrn]; show ¬ (4096 : Int) < ((rval l p : Nat) : Int); omega)) rfl<|Wa<|E1 rfl (rfl)<|U0 (H0 (N0 (N0 ?_)))
  have hrx := rnx_le hok.2.1
  have hcase : l.length < rnx l p + rval l p ∨ rnx l p + rval l p ≤ l.length := by omega
  rcases hcase with hn | hn
  ·refine T2 (C := fun w_ => St W _ _ w_) mixed (by kernel_rfl) (h1.drew)<|M2 3 rfl<|X0 (fun w_ hC_ => K0 underlying3 rfl rfl (hC_.ocell hi1 rfl)) rfl<|M2 1 rfl<|X0 (fun w_ hC_ => V0 rfl rfl (by omega)) rfl<|M2 3 rfl<|X0 (fun w_ hC_ => K0 underlying9 rfl rfl (hC_.ocell hi1 rfl)) rfl<|X0 (fun w_ hC_ => R0 (n := (l.length : Int)) (E3 underlying9 rfl rfl) rfl) rfl<|X0 (fun w_ hC_ => Bt (Y1 rfl rfl) (by rw [decide_eq_true_eq, hrn]; show (l.length : Int) < ((rnx l p : Nat) : Int) + ((rval l p : Nat) : Int); omega)) rfl<|K3 fun w3 h3=>H0<|J1 rfl (rfl)<|Wi<|C0 3 rfl<|C4 h3 i hi1 rfl rfl inf43 rfl rfl (Free.zero _) (Nat.le_of_ble_eq_true rfl) ?_
   intro  w4 h4
   try simp only [ZZ] at h4
   rw [List.set_set] at h4
   refine We<|C0 1 rfl<|J0 (H0 (O1 ?_))
   have hc0 : cerr l p 4096 = 0 := by unfold cerr; rw [if_neg (by rw [hok.2.1]; simp), if_neg (by omega)]
   have e1 : rdT l p e = ([], rnx l p, 2) := by
    unfold rdT
    rw [if_neg (by rw [hok.1]; simp), if_neg (by rw [hc0]; simp), if_pos hn]
   rw [e1]
   rw [hrn] at h4
   exact ret1 rfl rfl ⟨rfl, h4⟩
  refine T2 (C := fun w_ => St W _ _ w_) mixed (by kernel_rfl) (h1.drew)<|M2 3 rfl<|X0 (fun w_ hC_ => K0 underlying3 rfl rfl (hC_.ocell hi1 rfl)) rfl<|M2 1 rfl<|X0 (fun w_ hC_ => V0 rfl rfl (by omega)) rfl<|M2 3 rfl<|X0 (fun w_ hC_ => K0 underlying9 rfl rfl (hC_.ocell hi1 rfl)) rfl<|X0 (fun w_ hC_ => R0 (n := (l.length : Int)) (E3 underlying9 rfl rfl) rfl) rfl<|X0 (fun w_ hC_ => Bf (Y1 rfl rfl) (by rw [decide_eq_false_iff_not, hrn]; show ¬ (l.length : Int) < ((rnx l p : Nat) : Int) + ((rval l p : Nat) : Int); omega)) rfl<|K3 fun w5 h5=>H0<|E1 rfl (rfl)<|Wk<|C0 4 rfl<|I0 (K0 underlying3 rfl rfl (h5.ocell hi1 rfl)) rfl<|C0 1 rfl<|I0 (R0 (n := ((rnx l p + rval l p : Nat) : Int)) (V0 rfl rfl (by omega)) (by rw [hrn]; show ((rnx l p : Nat) : Int) + ((rval l p : Nat) : Int) = _; omega)) rfl<|C0 2 rfl<|C4 h5 i hi1 rfl rfl inf3 rfl rfl (Free.zero _) (Nat.le_of_ble_eq_true rfl) ?_
  intro  w6 h6
  try simp only [ZZ] at h6
  rw [List.set_set] at h6
  have hi2 : (cs.set i [(rb, .cells #[.string (bs l), Vi ((rnx l p + rval l p : Nat) : Int), Vi (rdN l p e).2.2] 87 (0, 0))])[i]? = some [(rb, .cells #[.string (bs l), Vi ((rnx l p + rval l p : Nat) : Int), Vi (rdN l p e).2.2] 87 (0, 0))] := by rw [List.getElem?_set_self (List.getElem?_eq_some_iff.1 hi).1]
  refine Wb<|T2 (C := fun w_ => St W _ _ w_) mixed (by kernel_rfl) (h6.drew)<|M2 3 rfl<|X0 (fun w_ hC_ => K0 underlying9 rfl rfl (hC_.ocell hi2 rfl)) rfl<|M2 3 rfl<|X0 (fun w_ hC_ => K0 underlying3 rfl rfl (hC_.ocell hi2 rfl)) rfl<|M2 1 rfl<|X0 (fun w_ hC_ => R0 (n := ((rnx l p : Nat) : Int)) (N3 rfl rfl (by rw [hrn]; show _ ≤ ((rnx l p + rval l p : Nat) : Int) - ((rval l p : Nat) : Int) ∧ ((rnx l p + rval l p : Nat) : Int) - ((rval l p : Nat) : Int) ≤ _; omega)) (by rw [hrn]; show ((rnx l p + rval l p : Nat) : Int) - ((rval l p : Nat) : Int) = _; omega)) rfl<|M2 3 rfl<|X0 (fun w_ hC_ => K0 underlying3 rfl rfl (hC_.ocell hi2 rfl)) rfl<|X0 (fun w_ hC_ => X1 (u := .string (bs ((l.drop (rnx l p)).take (rval l p)))) (Runs.lssl underlying9 rfl rfl rfl (n := rnx l p) (m := rnx l p + rval l p) rfl rfl (by omega) (by omega)) (by rw [show rnx l p + rval l p - rnx l p = rval l p by omega])) rfl<|M2 1 rfl<|K3 fun w7 h7=>H0 (O1 ?_)
  have hc0 : cerr l p 4096 = 0 := by unfold cerr; rw [if_neg (by rw [hok.2.1]; simp), if_neg (by omega)]
  have e1 : rdT l p e = ((l.drop (rnx l p)).take (rval l p), rnx l p + rval l p, 0) := by
   unfold rdT
   rw [if_neg (by rw [hok.1]; simp), if_neg (by rw [hc0]; simp), if_neg (by omega)]
  rw [e1]
  rw [hrn] at h7
  exact ret1 rfl rfl ⟨rfl, h7⟩
 refine L0<|C0 3 rfl<|I0 (K0 underlying43 rfl rfl (h1.ocell hi1 rfl)) rfl<|I0 (Bt (J2 rfl rfl) (by rw [dN he]; rfl)) rfl<|Wa<|J1 rfl (rfl)<|Wi<|C0 1 rfl<|J0 (H0 (O1 ?_))
 have e1 : rdT l p e = ([], (rdN l p e).2.1, (rdN l p e).2.2) := rdT_er he
 rw [e1]
 exact ret1 rfl rfl ⟨rfl, h1⟩
theorem qdec_c (w : World) (l : List UInt8) (h : St W F cs w) (hl : l.length ≤ 9223372036854775807) : Calls prog 15 #[.string (bs l)] w fun r w' => r = .returned (.tuple #[(decB l).1.val, Vi (decB l).2]) ∧ St W F cs w'  := by
 refine enter (args := [.string (bs l)]) func15 rfl rfl rfl<|Wi<|O2 rfl h inf42 fun b2 w1 h1=>C0 1 rfl<|We<|C0 1 rfl<|I0 (R2 (vs := [(0, .string (bs l))]) (cells := #[.string (bs l), Vi 0, Vi 0]) rfl (by kernel_rfl)) rfl<|J3 rfl h1 rfl fun b10 w2 h2=>C0 1 rfl<|We<|I0 (R2 (vs := []) (cells := #[Vi 0, Vi 0, Vi 0, Vi 0, Vi 0, Vi 0, Vi 0, .string ⟨#[]⟩]) rfl (by kernel_rfl)) rfl<|O2 rfl h2 inf42 fun b5 w3 h3=>F4 h3 0 rfl rfl rfl inf42 rfl rfl rfl ?_
 intro  w4 h4
 try simp only [ZZ] at h4
 refine We<|C0 1 rfl<|C1 (cn func34) rfl rfl (qnum_c _ (p := 0) (e := 0) h4 (i := 1) rfl hl (by omega)) fun w5 h5 => ?_
 replace h5 : St W F ([(b5, .cells #[Vi 0, Vi 0, Vi 0, Vi 0, Vi 0, Vi 0, Vi 0, .string ⟨#[]⟩] 42 (0, 0))] :: [(b10, .cells #[.string (bs l), Vi (((D0 l).2.1 : Nat)), Vi ((D0 l).2.2)] 87 (0, 0))] :: [(b2, .cells #[Vi 0, Vi 0, Vi 0, Vi 0, Vi 0, Vi 0, Vi 0, .string ⟨#[]⟩] 42 (0, 0))] :: cs) w5 := h5
 have hg0 : (D0 l).2.1 ≤ 7 := Nat.le_trans (rdN_pl l 0 0) (by omega)
 have hp0 : (D0 l).2.1 ≤ l.length ∧ (D0 l).2.1 ≤ 90000 := ⟨rdN_le _ (by omega), by omega⟩
 have hb0 : (D0 l).1 ≤ 1099511627776 := rdN_bnd _ _ _
 refine C0 1 rfl<|O3 h5 0 rfl rfl rfl inf3 rfl rfl ?_
 intro  w6 h6
 try simp only [ZZ] at h6
 replace h6 : St W F ([(b5, .cells #[Vi ((D0 l).1 : Nat), Vi 0, Vi 0, Vi 0, Vi 0, Vi 0, Vi 0, .string ⟨#[]⟩] 42 (0, 0))] :: [(b10, .cells #[.string (bs l), Vi (((D0 l).2.1 : Nat)), Vi ((D0 l).2.2)] 87 (0, 0))] :: [(b2, .cells #[Vi 0, Vi 0, Vi 0, Vi 0, Vi 0, Vi 0, Vi 0, .string ⟨#[]⟩] 42 (0, 0))] :: cs) w6 := h6
 refine We<|C0 1 rfl<|C1 (cn func34) rfl rfl (qnum_c _ (p := (D0 l).2.1) (e := (D0 l).2.2) h6 (i := 1) rfl hl hp0) fun w7 h7 => ?_
 replace h7 : St W F ([(b5, .cells #[Vi ((D0 l).1 : Nat), Vi 0, Vi 0, Vi 0, Vi 0, Vi 0, Vi 0, .string ⟨#[]⟩] 42 (0, 0))] :: [(b10, .cells #[.string (bs l), Vi (((D1 l).2.1 : Nat)), Vi ((D1 l).2.2)] 87 (0, 0))] :: [(b2, .cells #[Vi 0, Vi 0, Vi 0, Vi 0, Vi 0, Vi 0, Vi 0, .string ⟨#[]⟩] 42 (0, 0))] :: cs) w7 := h7
 have hg1 : (D1 l).2.1 ≤ 14 := Nat.le_trans (rdN_pl l (D0 l).2.1 (D0 l).2.2) (by omega)
 have hp1 : (D1 l).2.1 ≤ l.length ∧ (D1 l).2.1 ≤ 90000 := ⟨rdN_le _ hp0.1, by omega⟩
 have hb1 : (D1 l).1 ≤ 1099511627776 := rdN_bnd _ _ _
 refine I0 (N3 (m := ((D1 l).1 : Int)) rfl rfl (by omega)) rfl<|C0 1 rfl<|O3 h7 0 rfl rfl rfl inf3 rfl rfl ?_
 intro  w8 h8
 try simp only [ZZ] at h8
 replace h8 : St W F ([(b5, .cells #[Vi ((D0 l).1 : Nat), Vi (((D1 l).1 : Int) - 1), Vi 0, Vi 0, Vi 0, Vi 0, Vi 0, .string ⟨#[]⟩] 42 (0, 0))] :: [(b10, .cells #[.string (bs l), Vi (((D1 l).2.1 : Nat)), Vi ((D1 l).2.2)] 87 (0, 0))] :: [(b2, .cells #[Vi 0, Vi 0, Vi 0, Vi 0, Vi 0, Vi 0, Vi 0, .string ⟨#[]⟩] 42 (0, 0))] :: cs) w8 := h8
 refine We<|C0 1 rfl<|C1 (cn func34) rfl rfl (qnum_c _ (p := (D1 l).2.1) (e := (D1 l).2.2) h8 (i := 1) rfl hl hp1) fun w9 h9 => ?_
 replace h9 : St W F ([(b5, .cells #[Vi ((D0 l).1 : Nat), Vi (((D1 l).1 : Int) - 1), Vi 0, Vi 0, Vi 0, Vi 0, Vi 0, .string ⟨#[]⟩] 42 (0, 0))] :: [(b10, .cells #[.string (bs l), Vi (((D2 l).2.1 : Nat)), Vi ((D2 l).2.2)] 87 (0, 0))] :: [(b2, .cells #[Vi 0, Vi 0, Vi 0, Vi 0, Vi 0, Vi 0, Vi 0, .string ⟨#[]⟩] 42 (0, 0))] :: cs) w9 := h9
 have hg2 : (D2 l).2.1 ≤ 21 := Nat.le_trans (rdN_pl l (D1 l).2.1 (D1 l).2.2) (by omega)
 have hp2 : (D2 l).2.1 ≤ l.length ∧ (D2 l).2.1 ≤ 90000 := ⟨rdN_le _ hp1.1, by omega⟩
 have hb2 : (D2 l).1 ≤ 1099511627776 := rdN_bnd _ _ _
 refine I0 (N3 (m := ((D2 l).1 : Int)) rfl rfl (by omega)) rfl<|C0 1 rfl<|O3 h9 0 rfl rfl rfl inf3 rfl rfl ?_
 intro  w10 h10
 try simp only [ZZ] at h10
 replace h10 : St W F ([(b5, .cells #[Vi ((D0 l).1 : Nat), Vi (((D1 l).1 : Int) - 1), Vi (((D2 l).1 : Int) - 1), Vi 0, Vi 0, Vi 0, Vi 0, .string ⟨#[]⟩] 42 (0, 0))] :: [(b10, .cells #[.string (bs l), Vi (((D2 l).2.1 : Nat)), Vi ((D2 l).2.2)] 87 (0, 0))] :: [(b2, .cells #[Vi 0, Vi 0, Vi 0, Vi 0, Vi 0, Vi 0, Vi 0, .string ⟨#[]⟩] 42 (0, 0))] :: cs) w10 := h10
 refine We<|C0 1 rfl<|C1 (cn func34) rfl rfl (qnum_c _ (p := (D2 l).2.1) (e := (D2 l).2.2) h10 (i := 1) rfl hl hp2) fun w11 h11 => ?_
 replace h11 : St W F ([(b5, .cells #[Vi ((D0 l).1 : Nat), Vi (((D1 l).1 : Int) - 1), Vi (((D2 l).1 : Int) - 1), Vi 0, Vi 0, Vi 0, Vi 0, .string ⟨#[]⟩] 42 (0, 0))] :: [(b10, .cells #[.string (bs l), Vi (((D3 l).2.1 : Nat)), Vi ((D3 l).2.2)] 87 (0, 0))] :: [(b2, .cells #[Vi 0, Vi 0, Vi 0, Vi 0, Vi 0, Vi 0, Vi 0, .string ⟨#[]⟩] 42 (0, 0))] :: cs) w11 := h11
 have hg3 : (D3 l).2.1 ≤ 28 := Nat.le_trans (rdN_pl l (D2 l).2.1 (D2 l).2.2) (by omega)
 have hp3 : (D3 l).2.1 ≤ l.length ∧ (D3 l).2.1 ≤ 90000 := ⟨rdN_le _ hp2.1, by omega⟩
 have hb3 : (D3 l).1 ≤ 1099511627776 := rdN_bnd _ _ _
 refine C0 1 rfl<|O3 h11 0 rfl rfl rfl inf3 rfl rfl ?_
 intro  w12 h12
 try simp only [ZZ] at h12
 replace h12 : St W F ([(b5, .cells #[Vi ((D0 l).1 : Nat), Vi (((D1 l).1 : Int) - 1), Vi (((D2 l).1 : Int) - 1), Vi ((D3 l).1 : Nat), Vi 0, Vi 0, Vi 0, .string ⟨#[]⟩] 42 (0, 0))] :: [(b10, .cells #[.string (bs l), Vi (((D3 l).2.1 : Nat)), Vi ((D3 l).2.2)] 87 (0, 0))] :: [(b2, .cells #[Vi 0, Vi 0, Vi 0, Vi 0, Vi 0, Vi 0, Vi 0, .string ⟨#[]⟩] 42 (0, 0))] :: cs) w12 := h12
 refine We<|C0 1 rfl<|C1 (cn func34) rfl rfl (qnum_c _ (p := (D3 l).2.1) (e := (D3 l).2.2) h12 (i := 1) rfl hl hp3) fun w13 h13 => ?_
 replace h13 : St W F ([(b5, .cells #[Vi ((D0 l).1 : Nat), Vi (((D1 l).1 : Int) - 1), Vi (((D2 l).1 : Int) - 1), Vi ((D3 l).1 : Nat), Vi 0, Vi 0, Vi 0, .string ⟨#[]⟩] 42 (0, 0))] :: [(b10, .cells #[.string (bs l), Vi (((D4 l).2.1 : Nat)), Vi ((D4 l).2.2)] 87 (0, 0))] :: [(b2, .cells #[Vi 0, Vi 0, Vi 0, Vi 0, Vi 0, Vi 0, Vi 0, .string ⟨#[]⟩] 42 (0, 0))] :: cs) w13 := h13
 have hg4 : (D4 l).2.1 ≤ 35 := Nat.le_trans (rdN_pl l (D3 l).2.1 (D3 l).2.2) (by omega)
 have hp4 : (D4 l).2.1 ≤ l.length ∧ (D4 l).2.1 ≤ 90000 := ⟨rdN_le _ hp3.1, by omega⟩
 have hb4 : (D4 l).1 ≤ 1099511627776 := rdN_bnd _ _ _
 refine C0 1 rfl<|O3 h13 0 rfl rfl rfl inf3 rfl rfl ?_
 intro  w14 h14
 try simp only [ZZ] at h14
 replace h14 : St W F ([(b5, .cells #[Vi ((D0 l).1 : Nat), Vi (((D1 l).1 : Int) - 1), Vi (((D2 l).1 : Int) - 1), Vi ((D3 l).1 : Nat), Vi ((D4 l).1 : Nat), Vi 0, Vi 0, .string ⟨#[]⟩] 42 (0, 0))] :: [(b10, .cells #[.string (bs l), Vi (((D4 l).2.1 : Nat)), Vi ((D4 l).2.2)] 87 (0, 0))] :: [(b2, .cells #[Vi 0, Vi 0, Vi 0, Vi 0, Vi 0, Vi 0, Vi 0, .string ⟨#[]⟩] 42 (0, 0))] :: cs) w14 := h14
 refine We<|C0 1 rfl<|C1 (cn func34) rfl rfl (qnum_c _ (p := (D4 l).2.1) (e := (D4 l).2.2) h14 (i := 1) rfl hl hp4) fun w15 h15 => ?_
 replace h15 : St W F ([(b5, .cells #[Vi ((D0 l).1 : Nat), Vi (((D1 l).1 : Int) - 1), Vi (((D2 l).1 : Int) - 1), Vi ((D3 l).1 : Nat), Vi ((D4 l).1 : Nat), Vi 0, Vi 0, .string ⟨#[]⟩] 42 (0, 0))] :: [(b10, .cells #[.string (bs l), Vi (((D5 l).2.1 : Nat)), Vi ((D5 l).2.2)] 87 (0, 0))] :: [(b2, .cells #[Vi 0, Vi 0, Vi 0, Vi 0, Vi 0, Vi 0, Vi 0, .string ⟨#[]⟩] 42 (0, 0))] :: cs) w15 := h15
 have hg5 : (D5 l).2.1 ≤ 42 := Nat.le_trans (rdN_pl l (D4 l).2.1 (D4 l).2.2) (by omega)
 have hp5 : (D5 l).2.1 ≤ l.length ∧ (D5 l).2.1 ≤ 90000 := ⟨rdN_le _ hp4.1, by omega⟩
 have hb5 : (D5 l).1 ≤ 1099511627776 := rdN_bnd _ _ _
 refine C0 1 rfl<|O3 h15 0 rfl rfl rfl inf3 rfl rfl ?_
 intro  w16 h16
 try simp only [ZZ] at h16
 replace h16 : St W F ([(b5, .cells #[Vi ((D0 l).1 : Nat), Vi (((D1 l).1 : Int) - 1), Vi (((D2 l).1 : Int) - 1), Vi ((D3 l).1 : Nat), Vi ((D4 l).1 : Nat), Vi ((D5 l).1 : Nat), Vi 0, .string ⟨#[]⟩] 42 (0, 0))] :: [(b10, .cells #[.string (bs l), Vi (((D5 l).2.1 : Nat)), Vi ((D5 l).2.2)] 87 (0, 0))] :: [(b2, .cells #[Vi 0, Vi 0, Vi 0, Vi 0, Vi 0, Vi 0, Vi 0, .string ⟨#[]⟩] 42 (0, 0))] :: cs) w16 := h16
 refine We<|C0 1 rfl<|C1 (cn func34) rfl rfl (qnum_c _ (p := (D5 l).2.1) (e := (D5 l).2.2) h16 (i := 1) rfl hl hp5) fun w17 h17 => ?_
 replace h17 : St W F ([(b5, .cells #[Vi ((D0 l).1 : Nat), Vi (((D1 l).1 : Int) - 1), Vi (((D2 l).1 : Int) - 1), Vi ((D3 l).1 : Nat), Vi ((D4 l).1 : Nat), Vi ((D5 l).1 : Nat), Vi 0, .string ⟨#[]⟩] 42 (0, 0))] :: [(b10, .cells #[.string (bs l), Vi (((D6 l).2.1 : Nat)), Vi ((D6 l).2.2)] 87 (0, 0))] :: [(b2, .cells #[Vi 0, Vi 0, Vi 0, Vi 0, Vi 0, Vi 0, Vi 0, .string ⟨#[]⟩] 42 (0, 0))] :: cs) w17 := h17
 have hg6 : (D6 l).2.1 ≤ 49 := Nat.le_trans (rdN_pl l (D5 l).2.1 (D5 l).2.2) (by omega)
 have hp6 : (D6 l).2.1 ≤ l.length ∧ (D6 l).2.1 ≤ 90000 := ⟨rdN_le _ hp5.1, by omega⟩
 have hb6 : (D6 l).1 ≤ 1099511627776 := rdN_bnd _ _ _
 refine C0 1 rfl<|O3 h17 0 rfl rfl rfl inf3 rfl rfl ?_
 intro  w18 h18
 try simp only [ZZ] at h18
 replace h18 : St W F ([(b5, .cells #[Vi ((D0 l).1 : Nat), Vi (((D1 l).1 : Int) - 1), Vi (((D2 l).1 : Int) - 1), Vi ((D3 l).1 : Nat), Vi ((D4 l).1 : Nat), Vi ((D5 l).1 : Nat), Vi ((D6 l).1 : Nat), .string ⟨#[]⟩] 42 (0, 0))] :: [(b10, .cells #[.string (bs l), Vi (((D6 l).2.1 : Nat)), Vi ((D6 l).2.2)] 87 (0, 0))] :: [(b2, .cells #[Vi 0, Vi 0, Vi 0, Vi 0, Vi 0, Vi 0, Vi 0, .string ⟨#[]⟩] 42 (0, 0))] :: cs) w18 := h18
 refine We<|C0 1 rfl<|C1 (cn func35) rfl rfl (qtext_c _ (p := (D6 l).2.1) (e := (D6 l).2.2) h18 (i := 1) rfl hl hp6) fun w19 h19 => ?_
 replace h19 : St W F ([(b5, .cells #[Vi ((D0 l).1 : Nat), Vi (((D1 l).1 : Int) - 1), Vi (((D2 l).1 : Int) - 1), Vi ((D3 l).1 : Nat), Vi ((D4 l).1 : Nat), Vi ((D5 l).1 : Nat), Vi ((D6 l).1 : Nat), .string ⟨#[]⟩] 42 (0, 0))] :: [(b10, .cells #[.string (bs l), Vi (((DT l).2.1 : Nat)), Vi ((DT l).2.2)] 87 (0, 0))] :: [(b2, .cells #[Vi 0, Vi 0, Vi 0, Vi 0, Vi 0, Vi 0, Vi 0, .string ⟨#[]⟩] 42 (0, 0))] :: cs) w19 := h19
 refine C0 1 rfl<|O3 h19 0 rfl rfl rfl inf9 rfl rfl ?_
 intro  w20 h20
 try simp only [ZZ] at h20
 replace h20 : St W F ([(b5, .cells #[Vi ((D0 l).1 : Nat), Vi (((D1 l).1 : Int) - 1), Vi (((D2 l).1 : Int) - 1), Vi ((D3 l).1 : Nat), Vi ((D4 l).1 : Nat), Vi ((D5 l).1 : Nat), Vi ((D6 l).1 : Nat), .string (bs (DT l).1)] 42 (0, 0))] :: [(b10, .cells #[.string (bs l), Vi (((DT l).2.1 : Nat)), Vi ((DT l).2.2)] 87 (0, 0))] :: [(b2, .cells #[Vi 0, Vi 0, Vi 0, Vi 0, Vi 0, Vi 0, Vi 0, .string ⟨#[]⟩] 42 (0, 0))] :: cs) w20 := h20
 refine We<|C0 1 rfl<|C1 (cn func36) rfl rfl (qend_c _ (p := (DT l).2.1) (e := (DT l).2.2) h20 (i := 1) rfl) fun w21 h21 =>C0 5 rfl<|J0 (H0 (N0 (N0 ?_)))
 by_cases hde : decE l = 0
 ·refine L0<|C0 1 rfl<|I0 (Bf (J2 rfl rfl) (by show (!decide (decE l = 0)) = false; rw [dA hde]; rfl)) rfl<|Wa<|E1 rfl (rfl)<|U0 (H0 (N0 (N0 ?_)))
  by_cases hmy : mayM (decM l)
  ·refine L0<|I0 (U2 h21 0 rfl underlying42 rfl inf42 rfl rfl) rfl<|C1 (cn func37) rfl rfl (rmay_c _ (decM l) h21) fun w22 h22 =>C0 1 rfl<|Wa<|E1 rfl ((by rw [dA hmy]; rfl))<|Wk<|I0 (U2 h22 0 rfl underlying42 rfl inf42 rfl rfl) rfl<|F4 h22 2 rfl rfl rfl inf42 rfl rfl rfl ?_
   intro  w23 h23
   try simp only [ZZ] at h23
   refine C0 1 rfl<|Wg<|retB rfl (v := .agg #[Vi ((D0 l).1 : Nat), Vi (((D1 l).1 : Int) - 1), Vi (((D2 l).1 : Int) - 1), Vi ((D3 l).1 : Nat), Vi ((D4 l).1 : Nat), Vi ((D5 l).1 : Nat), Vi ((D6 l).1 : Nat), .string (bs (DT l).1)]) ⟨_, rfl, run_loadVarA (vs := [Vi ((D0 l).1 : Nat), Vi (((D1 l).1 : Int) - 1), Vi (((D2 l).1 : Int) - 1), Vi ((D3 l).1 : Nat), Vi ((D4 l).1 : Nat), Vi ((D5 l).1 : Nat), Vi ((D6 l).1 : Nat), .string (bs (DT l).1)]) underlying42 rfl inf42 rfl (fun j v hv => by rw [add_mk, Nat.zero_add]; exact h23.ocell (i := 2) rfl (by simpa using hv))⟩ (show lk _ _ = _ from rfl) ⟨by unfold decB; rw [if_neg (by rw [hde]; simp), if_pos hmy]; rfl, ((h23.drop 0).drop 0).drop 0⟩
  refine L0<|I0 (U2 h21 0 rfl underlying42 rfl inf42 rfl rfl) rfl<|C1 (cn func37) rfl rfl (rmay_c _ (decM l) h21) fun w24 h24 =>C0 1 rfl<|Wa<|J1 rfl ((by rw [dN hmy]; rfl))<|Wi<|I0 (R2 (vs := []) (cells := #[Vi 0, Vi 0, Vi 0, Vi 0, Vi 0, Vi 0, Vi 0, .string ⟨#[]⟩]) rfl (by kernel_rfl)) rfl<|F4 h24 2 rfl rfl rfl inf42 rfl rfl rfl ?_
  intro  w25 h25
  try simp only [ZZ] at h25
  refine C0 1 rfl<|Wg<|retB rfl (v := .agg #[Vi 0, Vi 0, Vi 0, Vi 0, Vi 0, Vi 0, Vi 0, .string ⟨#[]⟩]) ⟨_, rfl, run_loadVarA (vs := [Vi 0, Vi 0, Vi 0, Vi 0, Vi 0, Vi 0, Vi 0, .string ⟨#[]⟩]) underlying42 rfl inf42 rfl (fun j v hv => by rw [add_mk, Nat.zero_add]; exact h25.ocell (i := 2) rfl (by simpa using hv))⟩ (show lk _ _ = _ from rfl) ⟨by unfold decB; rw [if_neg (by rw [hde]; simp), if_neg hmy]; rfl, ((h25.drop 0).drop 0).drop 0⟩
 refine L0<|C0 1 rfl<|I0 (Bt (J2 rfl rfl) (by show (!decide (decE l = 0)) = true; rw [dN hde]; rfl)) rfl<|Wa<|J1 rfl (rfl)<|Wi<|I0 (R2 (vs := []) (cells := #[Vi 0, Vi 0, Vi 0, Vi 0, Vi 0, Vi 0, Vi 0, .string ⟨#[]⟩]) rfl (by kernel_rfl)) rfl<|C0 1 rfl<|F4 h21 2 rfl rfl rfl inf42 rfl rfl rfl ?_
 intro  w26 h26
 try simp only [ZZ] at h26
 refine C0 1 rfl<|Wg<|retB rfl (v := .agg #[Vi 0, Vi 0, Vi 0, Vi 0, Vi 0, Vi 0, Vi 0, .string ⟨#[]⟩]) ⟨_, rfl, run_loadVarA (vs := [Vi 0, Vi 0, Vi 0, Vi 0, Vi 0, Vi 0, Vi 0, .string ⟨#[]⟩]) underlying42 rfl inf42 rfl (fun j v hv => by rw [add_mk, Nat.zero_add]; exact h26.ocell (i := 2) rfl (by simpa using hv))⟩ (show lk _ _ = _ from rfl) ⟨by unfold decB; rw [if_pos hde]; rfl, ((h26.drop 0).drop 0).drop 0⟩
def rdn (l : List UInt8) : Nat → Nat → List Int → List Int × Nat × Int
 |0, q, acc => (acc, q, 0)
 |n + 1, q, acc => if rerr l q = 0 then rdn l n (rnx l q) (acc ++ [(rval l q : Int)]) else ([], q, rerr l q)
def rdL (l : List UInt8) (p : Nat) (e m : Int) : List Int × Nat × Int := if e ≠ 0 then ([], p, e) else if cerr l p m ≠ 0 then ([], p, cerr l p m) else rdn l (rval l p) (rnx l p) []
theorem same_c (w : World) {A B : Option Addr} {cap cap2 : Nat} {xs : List Int} (h : St W F cs w) (hA : RdS (Kd.one Vi) F A xs) (hB : RdS (Kd.one Vi) F B xs) (hn : xs.length ≤ 100000) : Calls prog 51 #[.slice A xs.length cap, .slice B xs.length cap2] w fun e w' => e = .returned (.bool true) ∧ St W F cs w'  := by
 refine enter (args := [.slice A xs.length cap, .slice B xs.length cap2]) func51 rfl rfl rfl<|Wi<|C0 1 rfl<|Wh<|C0 1 rfl<|I0 (Y0 underlying33 rfl rfl) rfl<|C0 1 rfl<|I0 (Y0 underlying33 rfl rfl) rfl<|I0 (Bf (J2 rfl rfl) (by simp)) rfl<|Wa<|E1 rfl (rfl)<|U0<|H0<|N0<|Wi<|C0 1 rfl<|Wj<|B3 (σ := Nat) (fun q_ => [(0, .slice A xs.length cap), (1, .slice B xs.length cap2), (5, .int .i64 (q_ : Int))]) (fun q_ w => q_ ≤ xs.length ∧ St W F cs w) (fun q_ => xs.length - q_) (0) (⟨by omega, h⟩) ?_
 rintro i w1 ⟨hi, hL⟩
 try dsimp only at hi hL
 refine W2 [(0, .slice A xs.length cap), (1, .slice B xs.length cap2), (5, .int .i64 (i : Int))]<|N0<|Wi<|C0 2 rfl<|I0 (Y0 underlying33 rfl rfl) rfl<|I0 (Q1 rfl rfl) rfl<|Wa<|Z0 rfl (fun c2 => ?_) (fun c2 => ?_)
 ·try simp only [DD] at c2
  refine U0 (H0 (N0 (M1 (N0 ?_))))
  obtain ⟨a1, rfl, hra⟩ := rd1 hA (by omega)
  obtain ⟨b1, rfl, hrb⟩ := rd1 hB (by omega)
  refine T2 (C := fun w_ => St W F _ w_) mixed (by kernel_rfl) (hL.drew)<|M2 2 rfl<|X0 (fun w_ hC_ => W0 underlying33 inf3 rfl rfl (n := i) rfl (by omega)) rfl<|X0 (fun w_ hC_ => I1 (f := Vi) (0 : Int) hC_ hra (n := i) (by omega) underlying3 rfl rfl) rfl<|M2 2 rfl<|X0 (fun w_ hC_ => W0 underlying33 inf3 rfl rfl (n := i) rfl (by omega)) rfl<|X0 (fun w_ hC_ => I1 (f := Vi) (0 : Int) hC_ hrb (n := i) (by omega) underlying3 rfl rfl) rfl<|X0 (fun w_ hC_ => Bf (J2 rfl rfl) (by simp)) rfl<|K3 fun w3 h3=>H0<|E1 rfl (rfl)<|U0<|N1<|H0<|L0<|C0 1 rfl<|I0 (V0 rfl rfl (by omega)) rfl<|C0 1 rfl<|J0<|F1 (i + 1) (by omega) ⟨rfl, rfl, rfl, trivial⟩ ⟨by omega, h3⟩
 try simp only [DD] at c2
 refine U1<|B2<|WX.cut<|E2<|H0<|Wi<|C0 1 rfl<|Wg<|ret1 rfl rfl ⟨rfl, hL⟩
end Wir
namespace ShaM
abbrev Wd := BitVec 32
def rotr (x : Wd) (n : Nat) : Wd := (x >>> n) ||| (x <<< (32 - n))
def K : List Wd := [
 0x428a2f98, 0x71374491, 0xb5c0fbcf, 0xe9b5dba5, 0x3956c25b, 0x59f111f1, 0x923f82a4, 0xab1c5ed5,
 0xd807aa98, 0x12835b01, 0x243185be, 0x550c7dc3, 0x72be5d74, 0x80deb1fe, 0x9bdc06a7, 0xc19bf174,
 0xe49b69c1, 0xefbe4786, 0x0fc19dc6, 0x240ca1cc, 0x2de92c6f, 0x4a7484aa, 0x5cb0a9dc, 0x76f988da,
 0x983e5152, 0xa831c66d, 0xb00327c8, 0xbf597fc7, 0xc6e00bf3, 0xd5a79147, 0x06ca6351, 0x14292967,
 0x27b70a85, 0x2e1b2138, 0x4d2c6dfc, 0x53380d13, 0x650a7354, 0x766a0abb, 0x81c2c92e, 0x92722c85,
 0xa2bfe8a1, 0xa81a664b, 0xc24b8b70, 0xc76c51a3, 0xd192e819, 0xd6990624, 0xf40e3585, 0x106aa070,
 0x19a4c116, 0x1e376c08, 0x2748774c, 0x34b0bcb5, 0x391c0cb3, 0x4ed8aa4a, 0x5b9cca4f, 0x682e6ff3,
 0x748f82ee, 0x78a5636f, 0x84c87814, 0x8cc70208, 0x90befffa, 0xa4506ceb, 0xbef9a3f7, 0xc67178f2]
def by4 (a b c d : UInt8) : Wd := (((BitVec.ofNat 32 a.toNat <<< 24) ||| (BitVec.ofNat 32 b.toNat <<< 16)) ||| (BitVec.ofNat 32 c.toNat <<< 8)) ||| BitVec.ofNat 32 d.toNat
def w0 (b : List UInt8) (i : Nat) : Wd := by4 (b.getD (4 * i) 0) (b.getD (4 * i + 1) 0) (b.getD (4 * i + 2) 0) (b.getD (4 * i + 3) 0)
def firsts (b : List UInt8) (n : Nat) : List Wd := (List.range n).map (w0 b)
def s0 (y : Wd) : Wd := rotr y 7 ^^^ rotr y 18 ^^^ (y >>> 3)
def s1 (z : Wd) : Wd := rotr z 17 ^^^ rotr z 19 ^^^ (z >>> 10)
def ext (w : List Wd) : Wd := w.getD (w.length - 16) 0 + s0 (w.getD (w.length - 15) 0) + w.getD (w.length - 7) 0 + s1 (w.getD (w.length - 2) 0)
def grow : Nat → List Wd → List Wd
 |0, w => w
 |n + 1, w => grow n w ++ [ext (grow n w)]
def sched (b : List UInt8) : List Wd := grow 48 (firsts b 16)
theorem grow_len : ∀ (n : Nat) (w : List Wd), (grow n w).length = w.length + n
 |0, w => rfl
 |n + 1, w => by simp [grow, grow_len n]; omega
theorem firsts_len (b : List UInt8) (n : Nat) : (firsts b n).length = n := by simp [firsts]
theorem firsts_succ (b : List UInt8) (n : Nat) : firsts b (n + 1) = firsts b n ++ [w0 b n] := by simp [firsts, List.range_succ]
theorem sched_len (b : List UInt8) : (sched b).length = 64 := by simp [sched, grow_len, firsts_len]
structure D8 where
 a : Wd
 b : Wd
 c : Wd
 d : Wd
 e : Wd
 f : Wd
 g : Wd
 h : Wd
def D8.list (v : D8) : List Wd := [v.a, v.b, v.c, v.d, v.e, v.f, v.g, v.h]
def D8.of (l : List Wd) : D8 := ⟨l.getD 0 0, l.getD 1 0, l.getD 2 0, l.getD 3 0, l.getD 4 0, l.getD 5 0, l.getD 6 0, l.getD 7 0⟩
def first : D8 := ⟨0x6a09e667, 0xbb67ae85, 0x3c6ef372, 0xa54ff53a, 0x510e527f, 0x9b05688c, 0x1f83d9ab, 0x5be0cd19⟩
def tt (k w : Wd) (v : D8) : Wd := v.h + (rotr v.e 6 ^^^ rotr v.e 11 ^^^ rotr v.e 25) + ((v.e &&& v.f) ^^^ (~~~v.e &&& v.g)) + k + w
def uu (v : D8) : Wd := (rotr v.a 2 ^^^ rotr v.a 13 ^^^ rotr v.a 22) + ((v.a &&& v.b) ^^^ (v.a &&& v.c) ^^^ (v.b &&& v.c))
def rnd (k w : Wd) (v : D8) : D8 := ⟨tt k w v + uu v, v.a, v.b, v.c, v.d + tt k w v, v.e, v.f, v.g⟩
def rounds (ws : List Wd) : Nat → D8 → D8
 |0, v => v
 |n + 1, v => rnd (K.getD n 0) (ws.getD n 0) (rounds ws n v)
def part (d v : D8) (i : Nat) : List Wd := (List.zipWith (· + ·) d.list v.list).take i ++ d.list.drop i
def block (d : D8) (b : List UInt8) : D8 := D8.of (part d (rounds (sched b) 64 d) 8)
def blocks : Nat → D8 → List UInt8 → D8
 |0, d, _ => d
 |n + 1, d, b => blocks n (block d (b.take 64)) (b.drop 64)
def pads (n : Nat) : Nat := (119 - n % 64) % 64
def lenb (n : Nat) (i : Nat) : List UInt8 := (List.range i).map fun j => UInt8.ofNat (8 * n / 2 ^ (56 - 8 * j))
def pad (s : List UInt8) : List UInt8 := s ++ [0x80] ++ List.replicate (pads s.length) 0 ++ lenb s.length 8
def out4 (x : Wd) : List UInt8 := [UInt8.ofNat (x >>> 24).toNat, UInt8.ofNat (x >>> 16).toNat, UInt8.ofNat (x >>> 8).toNat, UInt8.ofNat x.toNat]
def of (s : List UInt8) : List UInt8 := (blocks ((pad s).length / 64) first (pad s)).list.flatMap out4
def padded (key : List UInt8) (by_ : UInt8) : List UInt8 := (List.range 64).map fun i => (key.getD i 0) ^^^ by_
def hmac (key s : List UInt8) : List UInt8 :=
 let key := if key.length > 64 then of key else key
 of (padded key 0x5c ++ of (padded key 0x36 ++ s))
theorem part_len (d v : D8) {i : Nat} (hi : i ≤ 8) : (part d v i).length = 8 := by
 simp [part, D8.list]; omega
theorem D8.list_of {l : List Wd} (h : l.length = 8) : (D8.of l).list = l := by
 match l, h with
 |[a, b, c, d, e, f, g, h], _ => rfl
theorem part_at (d v : D8) {i : Nat} (hi : i < 8) : (part d v i).getD i 0 = d.list.getD i 0 := by
 have : i = 0 ∨ i = 1 ∨ i = 2 ∨ i = 3 ∨ i = 4 ∨ i = 5 ∨ i = 6 ∨ i = 7 := by omega
 rcases this with rfl | rfl | rfl | rfl | rfl | rfl | rfl | rfl <;> rfl
theorem part_set (d v : D8) {i : Nat} (hi : i < 8) : (part d v i).set i (d.list.getD i 0 + v.list.getD i 0) = part d v (i + 1) := by
 have : i = 0 ∨ i = 1 ∨ i = 2 ∨ i = 3 ∨ i = 4 ∨ i = 5 ∨ i = 6 ∨ i = 7 := by omega
 rcases this with rfl | rfl | rfl | rfl | rfl | rfl | rfl | rfl <;> rfl
end ShaM
open ShaM (rotr Wd D8)
namespace ShaR
theorem rotr0 (x : Wd) : rotr x 0 = x := by
 apply BitVec.eq_of_getLsbD_eq
 intro i hi
 simp [rotr]
theorem rotr_bits (x : Wd) (n i : Nat) (hn : n < 32) (hi : i < 32) : (rotr x n).getLsbD i = if i + n < 32 then x.getLsbD (i + n) else x.getLsbD (i + n - 32) := by
 unfold rotr
 rw [BitVec.getLsbD_or, BitVec.getLsbD_ushiftRight, BitVec.getLsbD_shiftLeft]
 by_cases h : i + n < 32
 ·rw [if_pos h]
  simp [hi, show i < 32 - n by omega, Nat.add_comm]
 rw [if_neg h]
 rw [show x.getLsbD (n + i) = false from BitVec.getLsbD_of_ge _ _ (by omega)]
 simp [hi, show ¬ i < 32 - n by omega, show i - (32 - n) = i + n - 32 by omega]
theorem rotr_step (x : Wd) (n : Nat) (hn : n < 31) : rotr x (n + 1) = rotr (rotr x n) 1 := by
 apply BitVec.eq_of_getLsbD_eq
 intro i hi
 rw [rotr_bits _ _ _ (by omega) hi, rotr_bits _ _ _ (by omega) hi]
 by_cases h : i + 1 < 32
 ·rw [if_pos h, rotr_bits _ _ _ (by omega) (by omega)]
  rw [show i + (n + 1) = i + 1 + n by omega]
 rw [if_neg h, if_neg (by omega), rotr_bits _ _ _ (by omega) (by omega), if_pos (by omega)]
 congr 1; omega
theorem disj_or {a b k : Nat} (h : b < 2 ^ k) : (a * 2 ^ k) ||| b = a * 2 ^ k + b := by
 rw [Nat.mul_comm, ← Nat.two_pow_add_eq_or_of_lt h]
theorem rotr1 (x : Wd) : (rotr x 1).toNat = x.toNat / 2 + x.toNat % 2 * 2147483648 := by
 unfold rotr
 have e2 : (x <<< (32 - 1)).toNat = x.toNat % 2 * 2 ^ 31 := by
  rw [BitVec.toNat_shiftLeft, Nat.shiftLeft_eq]
  show x.toNat * 2147483648 % 4294967296 = x.toNat % 2 * 2147483648
  omega
 have e1 : (x >>> 1).toNat = x.toNat / 2 := by rw [BitVec.toNat_ushiftRight, Nat.shiftRight_eq_div_pow]
 rw [BitVec.toNat_or, e1, e2, Nat.or_comm, disj_or (by have := x.isLt; omega)]
 omega
theorem rot_next (x : Wd) (n : Nat) (hn : n < 31) : ((rotr x n).toNat : Int) / 2 + ((rotr x n).toNat : Int) % 2 * 2147483648 = ((rotr x (n + 1)).toNat : Int) := by
 rw [rotr_step x n hn, rotr1]
 omega
theorem shr_toNat (x : Wd) (n : Nat) : (x >>> n).toNat = x.toNat / 2 ^ n := by rw [BitVec.toNat_ushiftRight, Nat.shiftRight_eq_div_pow]
theorem div_next (a n : Nat) : ((a / 2 ^ n : Nat) : Int) / 2 = ((a / 2 ^ (n + 1) : Nat) : Int) := by
 rw [Nat.pow_succ, ← Nat.div_div_eq_div_mul]; simp
theorem by8 (x : UInt8) (k : Nat) (hk : k ≤ 24) : (BitVec.ofNat 32 x.toNat <<< k).toNat = x.toNat * 2 ^ k := by
 have := x.toNat_lt
 rw [BitVec.toNat_shiftLeft, Nat.shiftLeft_eq, BitVec.toNat_ofNat, Nat.mod_eq_of_lt (a := x.toNat) (by omega)]
 apply Nat.mod_eq_of_lt
 have h1 : 2 ^ k ≤ 2 ^ 24 := Nat.pow_le_pow_right (by decide) hk
 have h2 : x.toNat * 2 ^ k ≤ 255 * 2 ^ 24 := Nat.mul_le_mul (by omega) h1
 omega
theorem by4_sum (a b c d : UInt8) : (a.toNat : Int) * 16777216 + (b.toNat : Int) * 65536 + (c.toNat : Int) * 256 + (d.toNat : Int) = ((ShaM.by4 a b c d).toNat : Int) := by
 have ha := a.toNat_lt; have hb := b.toNat_lt; have hc := c.toNat_lt; have hd := d.toNat_lt
 unfold ShaM.by4
 rw [BitVec.toNat_or, BitVec.toNat_or, BitVec.toNat_or, by8 _ _ (by decide), by8 _ _ (by decide), by8 _ _ (by decide)]
 rw [BitVec.toNat_ofNat, Nat.mod_eq_of_lt (a := d.toNat) (by omega), Nat.or_assoc, Nat.or_assoc]
 rw [disj_or (k := 8) (by omega), disj_or (k := 16) (by omega), disj_or (k := 24) (by omega)]
 omega
theorem add2 (a b : Wd) : ((a.toNat : Int) + b.toNat) % 4294967296 = ((a + b).toNat : Int) := by
 rw [BitVec.toNat_add]; omega
theorem add4 (a b c d : Wd) : ((a.toNat : Int) + b.toNat + c.toNat + d.toNat) % 4294967296 = ((a + b + c + d).toNat : Int) := by
 simp only [BitVec.toNat_add]; omega
theorem addT (a b c d e u v : Wd) : ((a.toNat : Int) + b.toNat + c.toNat + d.toNat + e.toNat + ((u.toNat : Int) + v.toNat)) % 4294967296 = ((a + b + c + d + e + (u + v)).toNat : Int) := by
 simp only [BitVec.toNat_add]; omega
theorem addD (z a b c d e : Wd) : ((z.toNat : Int) + ((a.toNat : Int) + b.toNat + c.toNat + d.toNat + e.toNat)) % 4294967296 = ((z + (a + b + c + d + e)).toNat : Int) := by
 simp only [BitVec.toNat_add]; omega
theorem len_byte (n i : Nat) : (((n / 2 ^ i : Nat) : Int) % 256) = ((UInt8.ofNat (n / 2 ^ i)).toNat : Int) := by
 rw [UInt8.toNat_ofNat']; omega
theorem ext_at (X : List Wd) (j : Nat) (h : X.length = 16 + j) : ShaM.ext X = X.getD j 0 + ShaM.s0 (X.getD (j + 1) 0) + X.getD (j + 9) 0 + ShaM.s1 (X.getD (j + 14) 0) := by
 unfold ShaM.ext
 rw [h, show 16 + j - 16 = j by omega, show 16 + j - 15 = j + 1 by omega, show 16 + j - 7 = j + 9 by omega, show 16 + j - 2 = j + 14 by omega]
def S1 (x : Wd) : Wd := rotr x 6 ^^^ rotr x 11 ^^^ rotr x 25
def S0 (x : Wd) : Wd := rotr x 2 ^^^ rotr x 13 ^^^ rotr x 22
def ch (e f g : Wd) : Wd := (e &&& f) ^^^ (~~~e &&& g)
def mj (a b c : Wd) : Wd := (a &&& b) ^^^ (a &&& c) ^^^ (b &&& c)
def sum8 (d v : D8) : List Wd := List.zipWith (· + ·) d.list v.list
theorem sum8_at (d v : D8) {i : Nat} (hi : i < 8) : (sum8 d v).getD i 0 = d.list.getD i 0 + v.list.getD i 0 := by
 have : i = 0 ∨ i = 1 ∨ i = 2 ∨ i = 3 ∨ i = 4 ∨ i = 5 ∨ i = 6 ∨ i = 7 := by omega
 rcases this with rfl | rfl | rfl | rfl | rfl | rfl | rfl | rfl <;> rfl
theorem sum8_len (d v : D8) : (sum8 d v).length = 8 := rfl
theorem block_list (d : D8) (b : List UInt8) : (ShaM.block d b).list = sum8 d (ShaM.rounds (ShaM.sched b) 64 d) := ShaM.D8.list_of (l := ShaM.part d (ShaM.rounds (ShaM.sched b) 64 d) 8) (ShaM.part_len _ _ (by omega))
theorem o24 (x : Wd) : ((UInt8.ofNat (x.toNat / 16777216)).toNat : Int) = ((UInt8.ofNat (x >>> 24).toNat).toNat : Int) := by rw [shr_toNat]
theorem o16 (x : Wd) : ((UInt8.ofNat (x.toNat / 65536 % 256)).toNat : Int) = ((UInt8.ofNat (x >>> 16).toNat).toNat : Int) := by
 rw [shr_toNat, UInt8.toNat_ofNat', UInt8.toNat_ofNat', Nat.mod_mod]
theorem o8 (x : Wd) : ((UInt8.ofNat (x.toNat / 256 % 256)).toNat : Int) = ((UInt8.ofNat (x >>> 8).toNat).toNat : Int) := by
 rw [shr_toNat, UInt8.toNat_ofNat', UInt8.toNat_ofNat', Nat.mod_mod]
theorem o0 (x : Wd) : ((UInt8.ofNat (x.toNat % 256)).toNat : Int) = ((UInt8.ofNat x.toNat).toNat : Int) := by
 rw [UInt8.toNat_ofNat', UInt8.toNat_ofNat', Nat.mod_mod]
theorem bl_step (n : Nat) (d : D8) (l : List UInt8) : ShaM.blocks n (ShaM.block d (l.take 64)) (l.drop 64) = ShaM.blocks (n + 1) d l := rfl
theorem word_a (k w : Wd) (V : D8) : ((V.h.toNat : Int) + (S1 V.e).toNat + (ch V.e V.f V.g).toNat + k.toNat + w.toNat + (((S0 V.a).toNat : Int) + (mj V.a V.b V.c).toNat)) % 4294967296 = ((ShaM.tt k w V + ShaM.uu V).toNat : Int) := by
 rw [addT]
 unfold ShaM.tt ShaM.uu S1 ch S0 mj
 rfl
theorem word_d (k w : Wd) (V : D8) : ((V.d.toNat : Int) + ((V.h.toNat : Int) + (S1 V.e).toNat + (ch V.e V.f V.g).toNat + k.toNat + w.toNat)) % 4294967296 = ((V.d + ShaM.tt k w V).toNat : Int) := by
 rw [addD]
 unfold ShaM.tt S1 ch
 rfl
theorem K_len : ShaM.K.length = 64 := rfl
end ShaR
namespace Sha
theorem mixed : prog.follows .mixedOrders = true := by kernel_rfl
theorem inf216 : Inf prog 216 (.agg #[.int .u32 0, .int .u32 0, .int .u32 0, .int .u32 0, .int .u32 0, .int .u32 0, .int .u32 0, .int .u32 0]) 8 32 := by unfold Inf; kernel_rfl
theorem inf222 : Inf prog 222 (.agg (List.replicate 64 (.int .u32 0)).toArray) 64 256 := by unfold Inf; kernel_rfl
theorem set_first {α : Type} (pre : List α) (z v : α) (n : Nat) (h : pre.length < n) : (pre ++ List.replicate (n - pre.length) z).set pre.length v = pre ++ [v] ++ List.replicate (n - (pre ++ [v]).length) z := by
 rw [List.set_append_right _ _ (Nat.le_refl _), Nat.sub_self, show n - pre.length = (n - (pre ++ [v]).length) + 1 by simp; omega, List.replicate_succ, List.set_cons_zero]
 simp
theorem getD_pre {α : Type} (pre : List α) (z d : α) (n j : Nat) (h : j < pre.length) : (pre ++ List.replicate (n - pre.length) z).getD j d = pre.getD j d := by
 rw [gD, gD, List.getElem?_append_left h]
theorem u64sub {P : Program} {sl : Sl} {w : World} {t T T' : TypeId} {x y : Operand} {m n : Int} (hx : evs sl x = some (.int .u64 m)) (hy : evs sl y = some (.int .u64 n)) (h : 0 ≤ m - n ∧ m - n ≤ 32) : Runs P sl (.binOp .sub T x y T') t w (.int .u64 (m - n)) := by
 have := Runs.sub (P := P) (t := t) (w := w) (T := T) (T' := T') hx hy
 have e : IntKind.u64.wrap (m - n) = m - n := by
  simp only [IntKind.wrap, IntKind.bits, IntKind.signed, Bool.false_and, Bool.false_eq_true, if_false]
  omega
 rwa [e] at this
theorem build_first (sl : Sl) (w : World) : Runs prog sl (.build 216 #[(0, .const (.int .u32 1779033703)), (1, .const (.int .u32 3144134277)), (2, .const (.int .u32 1013904242)), (3, .const (.int .u32 2773480762)), (4, .const (.int .u32 1359893119)), (5, .const (.int .u32 2600822924)), (6, .const (.int .u32 528734635)), (7, .const (.int .u32 1541459225))]) 216 w (.agg (ShaM.first.list.map V32).toArray) := fun ρ hρ o ho _ => by
 have hc : ∀ v, ρ (.const v) = v := fun v => hρ (.const v) v rfl
 simp only [execOp, ho, hc, List.map_toArray, List.map_cons, List.map_nil]
 refine Eq.trans (b := Result.ok (Next.value (.agg (ShaM.first.list.map V32).toArray)) w) ?_ rfl
 kernel_rfl
theorem build_K (sl : Sl) (w : World) : Runs prog sl (.build 222 #[(0, .const (.int .u32 1116352408)), (1, .const (.int .u32 1899447441)), (2, .const (.int .u32 3049323471)), (3, .const (.int .u32 3921009573)), (4, .const (.int .u32 961987163)), (5, .const (.int .u32 1508970993)), (6, .const (.int .u32 2453635748)), (7, .const (.int .u32 2870763221)), (8, .const (.int .u32 3624381080)), (9, .const (.int .u32 310598401)), (10, .const (.int .u32 607225278)), (11, .const (.int .u32 1426881987)), (12, .const (.int .u32 1925078388)), (13, .const (.int .u32 2162078206)), (14, .const (.int .u32 2614888103)), (15, .const (.int .u32 3248222580)), (16, .const (.int .u32 3835390401)), (17, .const (.int .u32 4022224774)), (18, .const (.int .u32 264347078)), (19, .const (.int .u32 604807628)), (20, .const (.int .u32 770255983)), (21, .const (.int .u32 1249150122)), (22, .const (.int .u32 1555081692)), (23, .const (.int .u32 1996064986)), (24, .const (.int .u32 2554220882)), (25, .const (.int .u32 2821834349)), (26, .const (.int .u32 2952996808)), (27, .const (.int .u32 3210313671)), (28, .const (.int .u32 3336571891)), (29, .const (.int .u32 3584528711)), (30, .const (.int .u32 113926993)), (31, .const (.int .u32 338241895)), (32, .const (.int .u32 666307205)), (33, .const (.int .u32 773529912)), (34, .const (.int .u32 1294757372)), (35, .const (.int .u32 1396182291)), (36, .const (.int .u32 1695183700)), (37, .const (.int .u32 1986661051)), (38, .const (.int .u32 2177026350)), (39, .const (.int .u32 2456956037)), (40, .const (.int .u32 2730485921)), (41, .const (.int .u32 2820302411)), (42, .const (.int .u32 3259730800)), (43, .const (.int .u32 3345764771)), (44, .const (.int .u32 3516065817)), (45, .const (.int .u32 3600352804)), (46, .const (.int .u32 4094571909)), (47, .const (.int .u32 275423344)), (48, .const (.int .u32 430227734)), (49, .const (.int .u32 506948616)), (50, .const (.int .u32 659060556)), (51, .const (.int .u32 883997877)), (52, .const (.int .u32 958139571)), (53, .const (.int .u32 1322822218)), (54, .const (.int .u32 1537002063)), (55, .const (.int .u32 1747873779)), (56, .const (.int .u32 1955562222)), (57, .const (.int .u32 2024104815)), (58, .const (.int .u32 2227730452)), (59, .const (.int .u32 2361852424)), (60, .const (.int .u32 2428436474)), (61, .const (.int .u32 2756734187)), (62, .const (.int .u32 3204031479)), (63, .const (.int .u32 3329325298))]) 222 w (.agg (ShaM.K.map V32).toArray) := fun ρ hρ o ho _ => by
 have hc : ∀ v, ρ (.const v) = v := fun v => hρ (.const v) v rfl
 simp only [execOp, ho, hc, List.map_toArray, List.map_cons, List.map_nil]
 refine Eq.trans (b := Result.ok (Next.value (.agg (ShaM.K.map V32).toArray)) w) ?_ rfl
 kernel_rfl
theorem rot_c (x : Wd) (n : Int) (w : World) (hn : 0 ≤ n ∧ n ≤ 32) : Calls prog 194 #[V32 x, .int .u64 n] w fun e w' => e = .returned (V32 (rotr x n.toNat)) ∧ w' = w := by
 refine enter (args := [V32 x, .int .u64 n]) func194 rfl rfl rfl<|Wi<|C0 1 rfl<|We<|C0 2 rfl<|I0 (U5 rfl rfl (by omega)) rfl<|C0 2 rfl<|I0 (u64sub rfl rfl (by omega)) rfl<|I0 (L6 rfl rfl (by omega)) rfl<|I0 (Y6 rfl rfl) rfl<|C0 1 rfl<|Wg<|ret1 rfl rfl ⟨?_, rfl⟩
 unfold rotr
 rw [show (32 - n).toNat = 32 - n.toNat by omega]
theorem first_c (w : World) (h : St W F cs w) : Calls prog 185 #[] w fun e w' => e = .returned (.agg (ShaM.first.list.map V32).toArray) ∧ St W F cs w'  := by
 refine enter (args := []) func185 rfl rfl rfl<|Wi<|O2 rfl h inf216 fun b0 w1 h1=>We<|I0 (build_first _ _) rfl<|F4 h1 0 rfl rfl rfl inf216 rfl rfl rfl ?_
 intro  w2 h2
 try simp only [ZZ] at h2
 refine Wg<|retA rfl ⟨_, rfl, run_loadVarA (vs := ShaM.first.list.map V32) underlying216 rfl inf216 rfl (fun j v hv => by rw [add_mk, Nat.zero_add]; exact h2.ocell (i := 0) rfl (by simpa using hv))⟩ ⟨rfl, h2.drop 0⟩
theorem constants_c (w : World) (h : St W F cs w) : Calls prog 193 #[] w fun e w' => e = .returned (.agg (ShaM.K.map V32).toArray) ∧ St W F cs w'  := by
 refine enter (args := []) func193 rfl rfl rfl<|Wi<|O2 rfl h inf222 fun b0 w1 h1=>We<|I0 (build_K _ _) rfl<|F4 h1 0 rfl rfl rfl inf222 rfl rfl rfl ?_
 intro  w2 h2
 try simp only [ZZ] at h2
 refine Wg<|retA rfl ⟨_, rfl, run_loadVarA (vs := ShaM.K.map V32) underlying222 rfl inf222 rfl (fun j v hv => by rw [add_mk, Nat.zero_add]; exact h2.ocell (i := 0) rfl (by simpa using hv))⟩ ⟨rfl, h2.drop 0⟩
theorem inf5 : Inf prog 5 (.int .u8 0) 1 1 := by unfold Inf; kernel_rfl
theorem inf199 : Inf prog 199 (.int .u32 0) 1 4 := by unfold Inf; kernel_rfl
theorem set_first' {α : Type} {pre : List α} {z v : α} {n i : Nat} (h : pre.length = i) (hn : i < n) : (pre ++ List.replicate (n - i) z).set i v = pre ++ [v] ++ List.replicate (n - (i + 1)) z := by
 subst h
 have := set_first pre z v n hn
 simpa using this
theorem grow_step (bs : List UInt8) (j : Nat) (hj : j < 48) : (ShaM.grow j (ShaM.firsts bs 16) ++ List.replicate (64 - (16 + j)) (0 : Wd)).set (16 + j)
  ((ShaM.grow j (ShaM.firsts bs 16) ++ List.replicate (64 - (16 + j)) (0 : Wd)).getD j 0 + ShaM.s0 ((ShaM.grow j (ShaM.firsts bs 16) ++ List.replicate (64 - (16 + j)) (0 : Wd)).getD (j + 1) 0) + (ShaM.grow j (ShaM.firsts bs 16) ++ List.replicate (64 - (16 + j)) (0 : Wd)).getD (j + 9) 0 + ShaM.s1 ((ShaM.grow j (ShaM.firsts bs 16) ++ List.replicate (64 - (16 + j)) (0 : Wd)).getD (j + 14) 0)) =
  ShaM.grow (j + 1) (ShaM.firsts bs 16) ++ List.replicate (64 - (16 + (j + 1))) (0 : Wd) := by
 have hl : (ShaM.grow j (ShaM.firsts bs 16)).length = 16 + j := by rw [ShaM.grow_len, ShaM.firsts_len]
 have g : ∀ k, k < 16 + j → (ShaM.grow j (ShaM.firsts bs 16) ++ List.replicate (64 - (16 + j)) (0 : Wd)).getD k 0 = (ShaM.grow j (ShaM.firsts bs 16)).getD k 0 := by
  intro k hk
  have := getD_pre (ShaM.grow j (ShaM.firsts bs 16)) (0 : Wd) 0 64 k (by omega)
  rwa [hl] at this
 rw [g _ (by omega), g _ (by omega), g _ (by omega), g _ (by omega), set_first' hl (by omega)]
 show _ = (ShaM.grow j (ShaM.firsts bs 16) ++ [ShaM.ext (ShaM.grow j (ShaM.firsts bs 16))]) ++ _
 unfold ShaM.ext
 rw [hl, show 16 + j - 16 = j by omega, show 16 + j - 15 = j + 1 by omega, show 16 + j - 7 = j + 9 by omega, show 16 + j - 2 = j + 14 by omega, show 16 + j + 1 = 16 + (j + 1) by omega]
theorem first_step (bs : List UInt8) (i : Nat) (hi : i < 16) : (ShaM.firsts bs i ++ List.replicate (64 - i) (0 : Wd)).set i (ShaM.w0 bs i) = ShaM.firsts bs (i + 1) ++ List.replicate (64 - (i + 1)) (0 : Wd) := by
 rw [set_first' (ShaM.firsts_len bs i) (by omega), ShaM.firsts_succ]
theorem schedule_c {ad : Addr} {cap : Nat} {bs : List UInt8} (w : World) (h : St W F cs w) (hrd : ∀ i x, bs[i]? = some x → cellF F (ad.add i) = some (V8 x)) (hl : bs.length = 64) : Calls prog 192 #[.slice (some ad) bs.length cap] w fun e w' => e = .returned (.agg ((ShaM.sched bs).map V32).toArray) ∧ St W F cs w'  := by
 refine enter (args := [.slice (some ad) bs.length cap]) func192 rfl rfl rfl<|Wi<|O2 rfl h inf222 fun b2 w1 h1=>We<|O2 rfl h1 inf222 fun b3 w2 h2=>Wh<|C0 1 rfl<|Wj<|N4 (σ := Nat) (fun i => [(0, .slice (some ad) bs.length cap), (2, pz b2), (3, pz b3), (8, .int .i64 (i : Int))]) (fun i w => i ≤ 16 ∧ St W F ([(b3, .cells ((ShaM.firsts bs i ++ List.replicate (64 - i) (0 : Wd)).map V32).toArray 222 (0, 0))] :: [(b2, .cells ((List.replicate 64 (0 : Wd)).map V32).toArray 222 (0, 0))] :: cs) w) (fun i => 16 - i) (0) ⟨rfl, rfl, rfl, rfl, trivial⟩ (⟨by omega, h2⟩) ?_
 rintro i w3 ⟨hi, hL⟩
 try dsimp only at hi hL
 refine Wi<|I0 (Q1 rfl rfl) rfl<|Wb<|Z0 rfl (fun c4 => ?_) (fun c4 => ?_)
 ·try simp only [DD] at c4
  refine U0<|H0<|N0<|M1<|Wi<|C0 2 rfl<|Wa<|Q4 (fun w_ => St W F _ w_) (fun k => Nat.beq k 35) mixed (by kernel_rfl) (hL.drew)<|fun hx =>K4 hx 3 rfl<|F2 hx (by rfl) rfl (fun w_ => B4 rfl rfl (by omega)) rfl<|F2 hx (by rfl) rfl (fun w_ => W0 underlying120 inf5 rfl rfl (n := 4 * i) (by omega) (by omega)) rfl<|W3 3 hx (by rfl) rfl (by kernel_rfl) (fun w_ hC_ => I1 (0 : UInt8) hC_ hrd (n := 4 * i) (by omega) underlying5 rfl rfl) rfl<|F2 hx (by rfl) rfl (fun w_ => E6 underlying5 underlying199 rfl) rfl<|F2 hx (by rfl) rfl (fun w_ => L6 rfl rfl (by decide)) rfl<|K4 hx 2 rfl<|F2 hx (by rfl) rfl (fun w_ => B4 rfl rfl (by omega)) rfl<|F2 hx (by rfl) rfl (fun w_ => V0 rfl rfl (by omega)) rfl<|F2 hx (by rfl) rfl (fun w_ => W0 underlying120 inf5 rfl rfl (n := 4 * i + 1) (by omega) (by omega)) rfl<|W3 3 hx (by rfl) rfl (by kernel_rfl) (fun w_ hC_ => I1 (0 : UInt8) hC_ hrd (n := 4 * i + 1) (by omega) underlying5 rfl rfl) rfl<|F2 hx (by rfl) rfl (fun w_ => E6 underlying5 underlying199 rfl) rfl<|F2 hx (by rfl) rfl (fun w_ => L6 rfl rfl (by decide)) rfl<|F2 hx (by rfl) rfl (fun w_ => Y6 rfl rfl) rfl<|K4 hx 2 rfl<|F2 hx (by rfl) rfl (fun w_ => B4 rfl rfl (by omega)) rfl<|F2 hx (by rfl) rfl (fun w_ => V0 rfl rfl (by omega)) rfl<|F2 hx (by rfl) rfl (fun w_ => W0 underlying120 inf5 rfl rfl (n := 4 * i + 2) (by omega) (by omega)) rfl<|W3 3 hx (by rfl) rfl (by kernel_rfl) (fun w_ hC_ => I1 (0 : UInt8) hC_ hrd (n := 4 * i + 2) (by omega) underlying5 rfl rfl) rfl<|F2 hx (by rfl) rfl (fun w_ => E6 underlying5 underlying199 rfl) rfl<|F2 hx (by rfl) rfl (fun w_ => L6 rfl rfl (by decide)) rfl<|F2 hx (by rfl) rfl (fun w_ => Y6 rfl rfl) rfl<|K4 hx 2 rfl<|F2 hx (by rfl) rfl (fun w_ => B4 rfl rfl (by omega)) rfl<|F2 hx (by rfl) rfl (fun w_ => V0 rfl rfl (by omega)) rfl<|F2 hx (by rfl) rfl (fun w_ => W0 underlying120 inf5 rfl rfl (n := 4 * i + 3) (by omega) (by omega)) rfl<|W3 3 hx (by rfl) rfl (by kernel_rfl) (fun w_ hC_ => I1 (0 : UInt8) hC_ hrd (n := 4 * i + 3) (by omega) underlying5 rfl rfl) rfl<|F2 hx (by rfl) rfl (fun w_ => E6 underlying5 underlying199 rfl) rfl<|F2 hx (by rfl) rfl (fun w_ => Y6 rfl rfl) rfl<|F2 hx (by rfl) rfl (fun w_ => Q3 underlying222 inf199 rfl rfl (n := i) (by omega) (by omega)) rfl<|Z4 hx rfl (by decide) (by kernel_rfl) fun w5 h5=>F5 (by rfl) rfl (by kernel_rfl)<|S5 h5 0 rfl rfl (u := ShaM.w0 bs i) rfl inf199 rfl rfl (Free.zero _) (by simp [ShaM.firsts_len]; omega) ?_
  intro  w6 h6
  try simp only [ZZ] at h6
  refine J0<|I4<|B5 rfl (by kernel_rfl)<|N1<|H0<|L0<|I0 (V0 rfl rfl (by omega)) rfl<|C0 1 rfl<|J0<|F1 (i + 1) (by omega) ⟨rfl, rfl, rfl, rfl, trivial⟩ ⟨by omega, ?_⟩
  rw [← first_step bs i (by omega)]
  exact h6
 try simp only [DD] at c4
 refine U1<|B2<|WX.cut<|E2<|H0<|N0<|Wi<|C0 1 rfl<|Wj<|N4 (σ := Nat) (fun j => [(2, pz b2), (3, pz b3), (5, .int .i64 ((16 + j : Nat) : Int))]) (fun j w => j ≤ 48 ∧ St W F ([(b3, .cells ((ShaM.grow j (ShaM.firsts bs 16) ++ List.replicate (64 - (16 + j)) (0 : Wd)).map V32).toArray 222 (0, 0))] :: [(b2, .cells ((List.replicate 64 (0 : Wd)).map V32).toArray 222 (0, 0))] :: cs) w) (fun j => 48 - j) (0) ⟨rfl, rfl, rfl, trivial⟩ (⟨by omega, by obtain rfl : i = 16 := (by omega); exact hL⟩) ?_
 rintro j w7 ⟨hj, hL⟩
 try dsimp only at hj hL
 refine N0<|Wi<|C0 1 rfl<|I0 (Q1 rfl rfl) rfl<|Wa<|Z0 rfl (fun c8 => ?_) (fun c8 => ?_)
 ·try simp only [DD] at c8
  refine U0<|H0<|N0<|M1<|N0<|T2 (C := fun w_ => St W F _ w_) mixed (by kernel_rfl) (hL.drew)<|M2 1 rfl<|X0 (fun w_ hC_ => N3 rfl rfl (by omega)) rfl<|X0 (fun w_ hC_ => Q3 underlying222 inf199 rfl rfl (n := j + 1) (by omega) (by omega)) rfl<|X0 (fun w_ hC_ => R3 (0 : Wd) hC_ 0 rfl (n := j + 1) (by simp [ShaM.grow_len, ShaM.firsts_len]; omega) underlying199 rfl rfl) rfl<|M2 1 rfl<|X0 (fun w_ hC_ => N3 rfl rfl (by omega)) rfl<|X0 (fun w_ hC_ => Q3 underlying222 inf199 rfl rfl (n := j + 14) (by omega) (by omega)) rfl<|X0 (fun w_ hC_ => R3 (0 : Wd) hC_ 0 rfl (n := j + 14) (by simp [ShaM.grow_len, ShaM.firsts_len]; omega) underlying199 rfl rfl) rfl<|M2 2 rfl<|K3 fun w9 h9=>H0<|Q4 (fun w_ => St W F _ w_) (fun k => Nat.beq k 29) mixed (by kernel_rfl) (h9.drew)<|fun hx =>K4 hx 2 rfl<|F2 hx (by rfl) rfl (fun w_ => N3 rfl rfl (by omega)) rfl<|F2 hx (by rfl) rfl (fun w_ => Q3 underlying222 inf199 rfl rfl (n := j) (by omega) (by omega)) rfl<|W3 3 hx (by rfl) rfl (by kernel_rfl) (fun w_ hC_ => R3 (0 : Wd) hC_ 0 rfl (n := j) (by simp [ShaM.grow_len, ShaM.firsts_len]; omega) underlying199 rfl rfl) rfl<|K4 hx 1 rfl<|W5 3 hx (by rfl) rfl (by kernel_rfl) (cn func194) rfl rfl (fun w_ hC_ => (rot_c _ _ _ (by decide)).mono fun e w1 he => ⟨he.1, by rw [he.2]; exact hC_⟩)<|K4 hx 1 rfl<|W5 3 hx (by rfl) rfl (by kernel_rfl) (cn func194) rfl rfl (fun w_ hC_ => (rot_c _ _ _ (by decide)).mono fun e w1 he => ⟨he.1, by rw [he.2]; exact hC_⟩)<|F2 hx (by rfl) rfl (fun w_ => T4 rfl rfl) rfl<|K4 hx 1 rfl<|F2 hx (by rfl) rfl (fun w_ => U5 rfl rfl (by decide)) rfl<|F2 hx (by rfl) rfl (fun w_ => T4 rfl rfl) rfl<|F2 hx (by rfl) rfl (fun w_ => S4 rfl rfl) rfl<|K4 hx 1 rfl<|F2 hx (by rfl) rfl (fun w_ => N3 rfl rfl (by omega)) rfl<|F2 hx (by rfl) rfl (fun w_ => Q3 underlying222 inf199 rfl rfl (n := j + 9) (by omega) (by omega)) rfl<|W3 3 hx (by rfl) rfl (by kernel_rfl) (fun w_ hC_ => R3 (0 : Wd) hC_ 0 rfl (n := j + 9) (by simp [ShaM.grow_len, ShaM.firsts_len]; omega) underlying199 rfl rfl) rfl<|F2 hx (by rfl) rfl (fun w_ => S4 rfl rfl) rfl<|K4 hx 1 rfl<|W5 3 hx (by rfl) rfl (by kernel_rfl) (cn func194) rfl rfl (fun w_ hC_ => (rot_c _ _ _ (by decide)).mono fun e w1 he => ⟨he.1, by rw [he.2]; exact hC_⟩)<|K4 hx 1 rfl<|W5 3 hx (by rfl) rfl (by kernel_rfl) (cn func194) rfl rfl (fun w_ hC_ => (rot_c _ _ _ (by decide)).mono fun e w1 he => ⟨he.1, by rw [he.2]; exact hC_⟩)<|F2 hx (by rfl) rfl (fun w_ => T4 rfl rfl) rfl<|K4 hx 1 rfl<|F2 hx (by rfl) rfl (fun w_ => U5 rfl rfl (by decide)) rfl<|F2 hx (by rfl) rfl (fun w_ => T4 rfl rfl) rfl<|F2 hx (by rfl) rfl (fun w_ => S4 rfl rfl) rfl<|F2 hx (by rfl) rfl (fun w_ => Q3 underlying222 inf199 rfl rfl (n := 16 + j) (by omega) (by omega)) rfl<|Z4 hx rfl (by decide) (by kernel_rfl) fun w10 h10=>F5 (by rfl) rfl (by kernel_rfl)<|S5 h10 0 rfl rfl rfl inf199 rfl rfl (Free.zero _) (by simp [ShaM.grow_len, ShaM.firsts_len]; omega) ?_
  intro  w11 h11
  try simp only [ZZ] at h11
  refine J0<|I4<|B5 rfl (by kernel_rfl)<|N1<|H0<|L0<|C0 1 rfl<|I0 (V0 rfl rfl (by omega)) rfl<|C0 1 rfl<|J0<|F1 (j + 1) (by omega) ⟨rfl, rfl, rfl, trivial⟩ ⟨by omega, ?_⟩
  rw [← grow_step bs j (by omega)]
  exact h11
 try simp only [DD] at c8
 refine U1<|B2<|WX.cut<|E2<|H0<|N0<|L0 ?_
 obtain rfl : j = 48 := by omega
 have hS : St W F ([(b3, .cells ((ShaM.sched bs).map V32).toArray 222 (0, 0))] :: [(b2, .cells ((List.replicate 64 (0 : Wd)).map V32).toArray 222 (0, 0))] :: cs) w7 := by
  have e : ShaM.grow 48 (ShaM.firsts bs 16) ++ List.replicate (64 - (16 + 48)) (0 : Wd) = ShaM.sched bs := by simp [ShaM.sched]
  rw [← e]; exact hL
 refine I0 (U2 hS 0 rfl underlying222 rfl inf222 (by simp [ShaM.sched_len]) rfl) rfl<|T6 hS 1 rfl rfl rfl inf222 (by simp [ShaM.sched_len]) (by simp [ShaM.sched_len]) (by rw [List.all_eq_true]; intro v hv; simp at hv; obtain ⟨a, _, rfl⟩ := hv; rfl) (Free.zero _) ?_
 intro  w12 h12
 try simp only [ZZ] at h12
 refine Wg<|retA rfl ⟨_, rfl, run_loadVarA (vs := (ShaM.sched bs).map V32) underlying222 rfl inf222 (by simp [ShaM.sched_len]) (fun j v hv => by rw [add_mk, Nat.zero_add]; exact h12.ocell (i := 1) rfl (by simpa using hv))⟩ ⟨rfl, (h12.drop 0).drop 0⟩
theorem okb_lo {l : Int} {len cap : Nat} (h : 0 ≤ l ∧ l ≤ len) : okb (some l) none len cap := ⟨fun h e => (by cases e), fun l' e => by injection e with e; subst e; exact h⟩
theorem okb_hi {l : Int} {len cap : Nat} (h : 0 ≤ l ∧ l ≤ cap) : okb none (some l) len cap := ⟨fun h' e => (by injection e with e; subst e; exact h), fun l' e => (by cases e)⟩
theorem okb_lh {l h : Int} {len cap : Nat} (h0 : 0 ≤ l ∧ l ≤ h) (h1 : h ≤ cap) : okb (some l) (some h) len cap := ⟨fun h' e => (by injection e with e; subst e; omega), fun l' e => by injection e with e; subst e; simp only [hi_, Option.map_some, Option.getD_some]; omega⟩
theorem okb_no {len cap : Nat} : okb none none len cap := ⟨fun h e => (by cases e), fun l e => (by cases e)⟩
theorem first_own {P : Program} {W w : World} {F : Snap} {cs : List Res} (h : St W F cs w) (i : Nat) {b : Nat} {arr : Array Value} {tt : TypeId} {fz : Nat × Nat} (hi : cs[i]? = some [(b, .cells arr tt fz)]) (n m c : Nat) (hn : n ≤ arr.size) :
  (Builtin.firstCells 1 n (.slice (some ⟨b, 0, none⟩) m c)).run P w = .ok (arr.toList.take n).toArray w := by
 have hl : (arr.toList.take n).length = n := by rw [List.length_take, Array.length_toList]; omega
 have := B.run_loadCells (P := P) (w := w) (a := ⟨b, 0, none⟩) (arr.toList.take n) 0 #[] (fun j v hv => by
  rw [add_mk]
  refine h.ocell hi ?_
  rw [List.getElem?_take] at hv
  split at hv
  ·simpa using hv
  cases hv)
 rw [hl] at this
 simpa [Builtin.firstCells, loadCells] using this
theorem block_c {b : Nat} {ad : Addr} {cap : Nat} {bs : List UInt8} (w : World) (d : D8) (h : St W F ([(b, .cells ((d.list).map V32).toArray 216 (0, 0))] :: cs) w) (hrd : ∀ i x, bs[i]? = some x → cellF F (ad.add i) = some (V8 x)) (hl : bs.length = 64) : Calls prog 186 #[pz b, .slice (some ad) bs.length cap] w fun e w' => e = .returned (.tuple #[]) ∧ St W F ([(b, .cells (((ShaM.block d bs).list).map V32).toArray 216 (0, 0))] :: cs) w'  := by
 refine enter (args := [pz b, .slice (some ad) bs.length cap]) func186 rfl rfl rfl<|Wi<|C0 1 rfl<|C1 (cn func192) rfl rfl (schedule_c _ h hrd hl) fun w1 h1 =>C1 (cn func193) rfl rfl (constants_c _ h1) fun w2 h2 =>O2 rfl h2 inf222 fun b4 w3 h3=>O2 rfl h3 inf222 fun b5 w4 h4=>T6 h4 1 rfl rfl rfl inf222 (by simp [ShaM.sched_len]) (by simp [ShaM.sched_len, Value.cells]) (by rw [List.all_eq_true]; intro v hv; simp at hv; obtain ⟨a, _, rfl⟩ := hv; rfl) (Free.zero _) ?_
 intro  w5 h5
 try simp only [ZZ] at h5
 refine F4 h5 0 rfl rfl rfl inf222 rfl rfl rfl ?_
 intro  w6 h6
 try simp only [ZZ] at h6
 refine We<|C0 2 rfl<|I0 (U2 h6 2 rfl underlying216 rfl inf216 rfl rfl) rfl<|O2 rfl h6 inf216 fun b6 w7 h7=>F4 h7 0 rfl rfl rfl inf216 rfl rfl rfl ?_
 intro  w8 h8
 try simp only [ZZ] at h8
 refine Wh<|C0 1 rfl<|Wj<|N4 (σ := Nat) (fun i => [(0, pz b), (4, pz b4), (5, pz b5), (6, pz b6), (19, .int .i64 (i : Int))]) (fun i w => i ≤ 64 ∧ St W F ([(b6, .cells (((ShaM.rounds (ShaM.sched bs) i d).list).map V32).toArray 216 (0, 0))] :: [(b5, .cells ((ShaM.K).map V32).toArray 222 (0, 0))] :: [(b4, .cells ((ShaM.sched bs).map V32).toArray 222 (0, 0))] :: [(b, .cells ((d.list).map V32).toArray 216 (0, 0))] :: cs) w) (fun i => 64 - i) (0) ⟨rfl, rfl, rfl, rfl, rfl, trivial⟩ (⟨by omega, h8⟩) ?_
 rintro i w9 ⟨hi, hL⟩
 try dsimp only at hi hL
 refine Wi<|I0 (Q1 rfl rfl) rfl<|Wb<|Z0 rfl (fun c10 => ?_) (fun c10 => ?_)
 ·try simp only [DD] at c10
  refine U0<|H0<|N0<|M1<|Wi<|C0 2 rfl<|Wb<|T2 (C := fun w_ => St W F _ w_) mixed (by kernel_rfl) (hL.drew)<|X0 (fun w_ hC_ => Q3 underlying216 inf199 rfl rfl (n := 0) (by omega) (by omega)) rfl<|X0 (fun w_ hC_ => R3 (0 : Wd) hC_ 0 rfl (n := 0) (by show _ < 8; omega) underlying199 rfl rfl) rfl<|X0 (fun w_ hC_ => Q3 underlying216 inf199 rfl rfl (n := 4) (by omega) (by omega)) rfl<|X0 (fun w_ hC_ => R3 (0 : Wd) hC_ 0 rfl (n := 4) (by show _ < 8; omega) underlying199 rfl rfl) rfl<|M2 2 rfl<|K3 fun w11 h11=>H0<|N0<|T2 (C := fun w_ => St W F _ w_) mixed (by kernel_rfl) (h11.drew)<|X0 (fun w_ hC_ => Q3 underlying216 inf199 rfl rfl (n := 7) (by omega) (by omega)) rfl<|X0 (fun w_ hC_ => R3 (0 : Wd) hC_ 0 rfl (n := 7) (by show _ < 8; omega) underlying199 rfl rfl) rfl<|M2 1 rfl<|H4 (cn func194) rfl rfl (fun w_ hC_ => (rot_c _ _ _ (by decide)).mono fun e w1 he => ⟨he.1, by rw [he.2]; exact hC_⟩)<|M2 1 rfl<|H4 (cn func194) rfl rfl (fun w_ hC_ => (rot_c _ _ _ (by decide)).mono fun e w1 he => ⟨he.1, by rw [he.2]; exact hC_⟩)<|X0 (fun w_ hC_ => T4 rfl rfl) rfl<|M2 1 rfl<|H4 (cn func194) rfl rfl (fun w_ hC_ => (rot_c _ _ _ (by decide)).mono fun e w1 he => ⟨he.1, by rw [he.2]; exact hC_⟩)<|X0 (fun w_ hC_ => T4 rfl rfl) rfl<|X0 (fun w_ hC_ => S4 rfl rfl) rfl<|M2 1 rfl<|X0 (fun w_ hC_ => Q3 underlying216 inf199 rfl rfl (n := 5) (by omega) (by omega)) rfl<|X0 (fun w_ hC_ => R3 (0 : Wd) hC_ 0 rfl (n := 5) (by show _ < 8; omega) underlying199 rfl rfl) rfl<|X0 (fun w_ hC_ => B6 rfl rfl) rfl<|M2 1 rfl<|X0 (fun w_ hC_ => Runs.com32 rfl) rfl<|X0 (fun w_ hC_ => Q3 underlying216 inf199 rfl rfl (n := 6) (by omega) (by omega)) rfl<|X0 (fun w_ hC_ => R3 (0 : Wd) hC_ 0 rfl (n := 6) (by show _ < 8; omega) underlying199 rfl rfl) rfl<|X0 (fun w_ hC_ => B6 rfl rfl) rfl<|X0 (fun w_ hC_ => T4 rfl rfl) rfl<|X0 (fun w_ hC_ => S4 rfl rfl) rfl<|M2 1 rfl<|X0 (fun w_ hC_ => Q3 underlying222 inf199 rfl rfl (n := i) (by omega) (by omega)) rfl<|X0 (fun w_ hC_ => R3 (0 : Wd) hC_ 1 rfl (n := i) (by show _ < 64; omega) underlying199 rfl rfl) rfl<|X0 (fun w_ hC_ => S4 rfl rfl) rfl<|M2 1 rfl<|X0 (fun w_ hC_ => Q3 underlying222 inf199 rfl rfl (n := i) (by omega) (by omega)) rfl<|X0 (fun w_ hC_ => R3 (0 : Wd) hC_ 2 rfl (n := i) (by rw [ShaM.sched_len]; omega) underlying199 rfl rfl) rfl<|X0 (fun w_ hC_ => S4 rfl rfl) rfl<|M2 1 rfl<|K3 fun w12 h12=>H0<|N0<|T2 (C := fun w_ => St W F _ w_) mixed (by kernel_rfl) (h12.drew)<|M2 1 rfl<|H4 (cn func194) rfl rfl (fun w_ hC_ => (rot_c _ _ _ (by decide)).mono fun e w1 he => ⟨he.1, by rw [he.2]; exact hC_⟩)<|M2 1 rfl<|H4 (cn func194) rfl rfl (fun w_ hC_ => (rot_c _ _ _ (by decide)).mono fun e w1 he => ⟨he.1, by rw [he.2]; exact hC_⟩)<|X0 (fun w_ hC_ => T4 rfl rfl) rfl<|M2 1 rfl<|H4 (cn func194) rfl rfl (fun w_ hC_ => (rot_c _ _ _ (by decide)).mono fun e w1 he => ⟨he.1, by rw [he.2]; exact hC_⟩)<|X0 (fun w_ hC_ => T4 rfl rfl) rfl<|M2 1 rfl<|X0 (fun w_ hC_ => Q3 underlying216 inf199 rfl rfl (n := 1) (by omega) (by omega)) rfl<|X0 (fun w_ hC_ => R3 (0 : Wd) hC_ 0 rfl (n := 1) (by show _ < 8; omega) underlying199 rfl rfl) rfl<|X0 (fun w_ hC_ => B6 rfl rfl) rfl<|M2 1 rfl<|X0 (fun w_ hC_ => Q3 underlying216 inf199 rfl rfl (n := 2) (by omega) (by omega)) rfl ?_
  refine X0 (fun w_ hC_ => R3 (0 : Wd) hC_ 0 rfl (n := 2) (by show _ < 8; omega) underlying199 rfl rfl) rfl<|X0 (fun w_ hC_ => B6 rfl rfl) rfl<|X0 (fun w_ hC_ => T4 rfl rfl) rfl<|X0 (fun w_ hC_ => Q3 underlying216 inf199 rfl rfl (n := 1) (by omega) (by omega)) rfl<|X0 (fun w_ hC_ => R3 (0 : Wd) hC_ 0 rfl (n := 1) (by show _ < 8; omega) underlying199 rfl rfl) rfl<|X0 (fun w_ hC_ => Q3 underlying216 inf199 rfl rfl (n := 2) (by omega) (by omega)) rfl<|X0 (fun w_ hC_ => R3 (0 : Wd) hC_ 0 rfl (n := 2) (by show _ < 8; omega) underlying199 rfl rfl) rfl<|X0 (fun w_ hC_ => B6 rfl rfl) rfl<|X0 (fun w_ hC_ => T4 rfl rfl) rfl<|X0 (fun w_ hC_ => S4 rfl rfl) rfl<|M2 1 rfl<|K3 fun w13 h13=>H0<|N0<|Q4 (fun w_ => St W F _ w_) (fun k => Nat.beq k 2) mixed (by kernel_rfl) (h13.drew)<|fun hx =>F2 hx (by rfl) rfl (fun w_ => Runs.asl underlying216 inf199 rfl (l := some 1) (h := none) rfl rfl (okb_lo (by decide))) rfl<|F2 hx (by rfl) rfl (fun w_ => Runs.asl underlying216 inf199 rfl (l := none) (h := some 7) rfl rfl (okb_hi (by decide))) rfl<|Z4 hx rfl (by decide) (by kernel_rfl) fun w14 h14=>F5 (by rfl) rfl (by kernel_rfl)<|WL.copy (m := 7) (off := 1) (len := 7) (cap := 7) (src := ((ShaM.rounds (ShaM.sched bs) i d).list.map V32).take 7) h14 0 rfl rfl underlying226 (inf199.elem rfl rfl) rfl rfl rfl (first_own h14 0 rfl 7 7 8 (Nat.le_of_ble_eq_true rfl)) rfl (Free.zero _) (Nat.le_of_ble_eq_true rfl) ?_
  intro  w15 h15
  try simp only [ZZ] at h15
  refine J0<|I4<|B5 rfl (by kernel_rfl)<|H0 (N0 (L0 ?_))
  replace h15 : St W F ([(b6, .cells ((([(ShaM.rounds (ShaM.sched bs) i d).a, (ShaM.rounds (ShaM.sched bs) i d).a, (ShaM.rounds (ShaM.sched bs) i d).b, (ShaM.rounds (ShaM.sched bs) i d).c, (ShaM.rounds (ShaM.sched bs) i d).d, (ShaM.rounds (ShaM.sched bs) i d).e, (ShaM.rounds (ShaM.sched bs) i d).f, (ShaM.rounds (ShaM.sched bs) i d).g] : List Wd)).map V32).toArray 216 (0, 0))] :: [(b5, .cells ((ShaM.K).map V32).toArray 222 (0, 0))] :: [(b4, .cells ((ShaM.sched bs).map V32).toArray 222 (0, 0))] :: [(b, .cells ((d.list).map V32).toArray 216 (0, 0))] :: cs) w15 := h15
  refine I0 (Q3 underlying216 inf199 rfl rfl (n := 4) (by omega) (by omega)) rfl<|I0 (R3 (0 : Wd) h15 0 rfl (n := 4) (by show _ < 8; omega) underlying199 rfl rfl) rfl<|C0 1 rfl<|I0 (S4 rfl rfl) rfl<|I0 (Q3 underlying216 inf199 rfl rfl (n := 4) (by omega) (by omega)) rfl<|S5 h15 0 rfl rfl rfl inf199 rfl rfl (Free.zero _) (by show _ < 8; omega) ?_
  intro  w16 h16
  try simp only [ZZ] at h16
  refine Wf<|C0 2 rfl<|I0 (S4 rfl rfl) rfl<|I0 (Q3 underlying216 inf199 rfl rfl (n := 0) (by omega) (by omega)) rfl<|S5 h16 0 rfl rfl rfl inf199 rfl rfl (Free.zero _) (by show _ < 8; omega) ?_
  intro  w17 h17
  try simp only [ZZ] at h17
  refine J0<|N1<|H0<|L0<|I0 (V0 rfl rfl (by omega)) rfl<|C0 1 rfl<|J0<|F1 (i + 1) (by omega) ⟨rfl, rfl, rfl, rfl, rfl, trivial⟩ ⟨by omega, h17⟩
 try simp only [DD] at c10
 refine U1<|B2<|WX.cut<|E2<|H0<|Wi<|C0 1 rfl<|Wj<|N4 (σ := Nat) (fun j => [(0, pz b), (6, pz b6), (93, .int .i64 (j : Int))]) (fun j w => j ≤ 8 ∧ St W F ([(b6, .cells (((ShaM.rounds (ShaM.sched bs) 64 d).list).map V32).toArray 216 (0, 0))] :: [(b5, .cells ((ShaM.K).map V32).toArray 222 (0, 0))] :: [(b4, .cells ((ShaM.sched bs).map V32).toArray 222 (0, 0))] :: [(b, .cells ((ShaM.part d (ShaM.rounds (ShaM.sched bs) 64 d) j).map V32).toArray 216 (0, 0))] :: cs) w) (fun j => 8 - j) (0) ⟨rfl, rfl, rfl, trivial⟩ (⟨by omega, by obtain rfl : i = 64 := (by omega); exact hL⟩) ?_
 rintro j w18 ⟨hj, hL⟩
 try dsimp only at hj hL
 refine Wi<|I0 (Q1 rfl rfl) rfl<|Wb<|Z0 rfl (fun c19 => ?_) (fun c19 => ?_)
 ·try simp only [DD] at c19
  refine U0<|H0<|N0<|M1<|Wi<|C0 2 rfl<|Wa<|Q4 (fun w_ => St W F _ w_) (fun k => Nat.beq k 11) mixed (by kernel_rfl) (hL.drew)<|fun hx =>K4 hx 3 rfl<|F2 hx (by rfl) rfl (fun w_ => Q3 underlying216 inf199 rfl rfl (n := j) (by omega) (by omega)) rfl<|W3 3 hx (by rfl) rfl (by kernel_rfl) (fun w_ hC_ => R3 (0 : Wd) hC_ 3 rfl (n := j) (by rw [ShaM.part_len _ _ (by omega)]; omega) underlying199 rfl rfl) rfl<|K4 hx 1 rfl<|F2 hx (by rfl) rfl (fun w_ => Q3 underlying216 inf199 rfl rfl (n := j) (by omega) (by omega)) rfl<|W3 3 hx (by rfl) rfl (by kernel_rfl) (fun w_ hC_ => R3 (0 : Wd) hC_ 0 rfl (n := j) (by show _ < 8; omega) underlying199 rfl rfl) rfl<|F2 hx (by rfl) rfl (fun w_ => S4 rfl rfl) rfl<|K4 hx 1 rfl<|F2 hx (by rfl) rfl (fun w_ => Q3 underlying216 inf199 rfl rfl (n := j) (by omega) (by omega)) rfl<|Z4 hx rfl (by decide) (by kernel_rfl) fun w20 h20=>F5 (by rfl) rfl (by kernel_rfl)<|S5 h20 3 rfl rfl rfl inf199 rfl rfl (Free.zero _) (by rw [ShaM.part_len _ _ (by omega)]; omega) ?_
  intro  w21 h21
  try simp only [ZZ] at h21
  refine J0<|I4<|B5 rfl (by kernel_rfl)<|N1<|H0<|L0<|I0 (V0 rfl rfl (by omega)) rfl<|C0 1 rfl<|J0<|F1 (j + 1) (by omega) ⟨rfl, rfl, rfl, trivial⟩ ⟨by omega, ?_⟩
  rw [← ShaM.part_set _ _ (by omega), ← ShaM.part_at d (ShaM.rounds (ShaM.sched bs) 64 d) (by omega)]
  exact h21
 try simp only [DD] at c19
 refine U1 (B2 (WX.cut (E2 ?_)))
 obtain rfl : j = 8 := by omega
 refine end0 rfl ⟨rfl, ?_⟩
 have e : (ShaM.block d bs).list = ShaM.part d (ShaM.rounds (ShaM.sched bs) 64 d) 8 := D8.list_of (ShaM.part_len _ _ (by omega))
 rw [e]
 exact ((hL.drop 0).drop 0).drop 0
theorem lenb_succ (n i : Nat) : ShaM.lenb n (i + 1) = ShaM.lenb n i ++ [UInt8.ofNat (8 * n / 2 ^ (56 - 8 * i))] := by simp [ShaM.lenb, List.range_succ]
theorem lenb_len (n i : Nat) : (ShaM.lenb n i).length = i := by simp [ShaM.lenb]
theorem pad_len (S : List UInt8) : (ShaM.pad S).length = S.length + 1 + ShaM.pads S.length + 8 := by simp [ShaM.pad, lenb_len]; omega
theorem take_flat {l : List Wd} {i : Nat} (hi : i < l.length) : (l.take (i + 1)).flatMap ShaM.out4 = (l.take i).flatMap ShaM.out4 ++ ShaM.out4 (l.getD i 0) := by
 rw [List.take_succ_eq_append_getElem hi, List.flatMap_append, gD, gE hi]; simp
theorem flat_len (l : List Wd) : (l.flatMap ShaM.out4).length = 4 * l.length := by
 induction l with
 |nil => rfl
 |cons a l ih => rw [List.flatMap_cons, lA, ih]; simp [ShaM.out4]; omega
theorem list_len (d : D8) : d.list.length = 8 := rfl
theorem of_c (w : World) (s : ByteArray) (h : St W F cs w) (hs : s.size ≤ 1000000) : Calls prog 177 #[.string s] w fun e w' => e = .returned (.string ⟨(ShaM.of s.data.toList).toArray⟩) ∧ St W F cs w'  := by
 refine enter (args := [.string s]) func177 rfl rfl rfl ?_
 obtain ⟨S, hS⟩ : ∃ S, S = s.data.toList := ⟨_, rfl⟩
 have hSl : S.length = s.size := by rw [hS]; simp
 have hp : ShaM.pads S.length = (119 - S.length % 64) % 64 := rfl
 rw [← hS]
 refine Wi<|C0 1 rfl<|We<|C0 1 rfl<|WL.s2b h rfl underlying9 underlying120 underlying5 rfl ?_
 intro r0 v0 w1 hr0 h1
 try simp only [ZZ] at h1
 have hrb : Row 5 V8 r0 v0 S := by unfold Row; rw [hSl, hS]; exact hr0
 refine X2 (vs := (([0x80] : List UInt8)).map V8) h1 rfl underlying120 inf5 rfl rfl rfl rfl rfl fun lit11 w2 h2=>I3 (ys := ([0x80] : List UInt8)) 1 h2 rfl rfl rfl rfl underlying120 underlying120 (.inr ⟨_, rfl⟩) inf5 rfl hrb (Src.lit h2 0 rfl rfl rfl) rfl rfl (by first | omega | (simp [lenb_len, flat_len, list_len, ShaM.out4]; done) | (simp [lenb_len, flat_len, list_len, ShaM.out4]; omega)) (by first | omega | (simp [lenb_len, flat_len, list_len, ShaM.out4]; done) | (simp [lenb_len, flat_len, list_len, ShaM.out4]; omega)) ?_
 intro r3 v3 w4 hr3 h4
 simp only [lz, ls] at h4
 replace h4 := h4.drop 0
 simp only [ez, es'] at h4
 refine C0 1 rfl<|Wb<|M1<|N4 (σ := Nat × Res × Value) (fun q_ => [(0, .string s), (3, q_.2.2)]) (fun q_ w => q_.1 ≤ ShaM.pads S.length ∧ Row 5 V8 q_.2.1 q_.2.2 (S ++ [0x80] ++ List.replicate q_.1 0) ∧ St W F (q_.2.1 :: cs) w) (fun q_ => ShaM.pads S.length - q_.1) (⟨0, r3, v3⟩) (by repeat (first | exact trivial | refine ⟨rfl, ?_⟩)) (⟨by omega, by simpa using hr3, h4⟩) ?_
 rintro ⟨k, r, v⟩ w5 ⟨hk, hrb, hL⟩
 try dsimp only at hk hrb hL
 refine WC.sub (s := [(0, .string s), (3, v)]) (by repeat (first | exact trivial | refine ⟨rfl, ?_⟩)) ?_
 obtain ⟨A, cap, rfl, hcap⟩ := hrb.val
 have hlen : (S ++ [0x80] ++ List.replicate k 0).length = S.length + 1 + k := by simp; omega
 refine N0<|Wi<|C0 1 rfl<|I0 (Y0 underlying120 rfl rfl) rfl<|I0 (J5 rfl rfl (by omega) (by omega)) rfl<|I0 (J2 rfl rfl) rfl<|Wa<|Z0 rfl (fun c6 => ?_) (fun c6 => ?_)
 ·try simp only [DD] at c6
  first
  |(exfalso; omega)
  |skip
   refine U0<|H0<|M1<|L0<|C0 1 rfl<|X2 (vs := (([0] : List UInt8)).map V8) hL rfl underlying120 inf5 rfl rfl rfl rfl rfl fun lit18 w7 h7=>I3 (ys := ([0] : List UInt8)) 1 h7 rfl rfl rfl rfl underlying120 underlying120 (.inr ⟨_, rfl⟩) inf5 rfl hrb (Src.lit h7 0 rfl rfl rfl) rfl rfl (by first | omega | (simp [lenb_len, flat_len, list_len, ShaM.out4]; done) | (simp [lenb_len, flat_len, list_len, ShaM.out4]; omega)) (by first | omega | (simp [lenb_len, flat_len, list_len, ShaM.out4]; done) | (simp [lenb_len, flat_len, list_len, ShaM.out4]; omega)) ?_
   intro r8 v8 w9 hr8 h9
   simp only [lz, ls] at h9
   replace h9 := h9.drop 0
   simp only [ez, es'] at h9
   refine C0 1 rfl<|J0<|N1<|F1 (⟨k + 1, r8, v8⟩ : Nat × Res × Value) (by show _ - (k + 1) < _ - k; omega) ⟨rfl, rfl, trivial⟩ ⟨by show k + 1 ≤ _; omega, ?_, h9⟩
   have := hr8
   rwa [List.append_assoc, ← List.replicate_succ'] at this
 try simp only [DD] at c6
 first
 |(exfalso; omega)
 |skip
  refine U1<|B2<|WX.cut<|E2<|H0<|N0<|Wi<|C0 1 rfl<|Wj<|N4 (σ := Nat × Res × Value) (fun q_ => [(0, .string s), (3, q_.2.2), (4, .int .i64 (56 - 8 * (q_.1 : Int)))]) (fun q_ w => q_.1 ≤ 8 ∧ Row 5 V8 q_.2.1 q_.2.2 ((S ++ [0x80] ++ List.replicate (ShaM.pads S.length) 0) ++ ShaM.lenb S.length q_.1) ∧ St W F (q_.2.1 :: cs) w) (fun q_ => 8 - q_.1) (⟨0, r, _⟩) (by repeat (first | exact trivial | refine ⟨rfl, ?_⟩)) (⟨by omega, by obtain rfl : k = ShaM.pads S.length := (by omega); simpa [ShaM.lenb] using hrb, hL⟩) ?_
  rintro ⟨i, r, v⟩ w10 ⟨hi, hrb, hL⟩
  try dsimp only at hi hrb hL
  refine WC.sub (s := [(0, .string s), (3, v), (4, .int .i64 (56 - 8 * (i : Int)))]) (by repeat (first | exact trivial | refine ⟨rfl, ?_⟩)) ?_
  obtain ⟨A, cap, rfl, hcap⟩ := hrb.val
  have hlen : ((S ++ [0x80] ++ List.replicate (ShaM.pads S.length) 0) ++ ShaM.lenb S.length i).length = S.length + 1 + ShaM.pads S.length + i := by simp [lenb_len]; omega
  refine N0<|Wi<|C0 1 rfl<|I0 (T1 rfl rfl) rfl<|Wa<|Z0 rfl (fun c11 => ?_) (fun c11 => ?_)
  ·try simp only [DD] at c11
   first
   |(exfalso; omega)
   |skip
    refine U0<|H0<|N0<|M1<|L0<|C0 2 rfl<|I0 (E3 underlying9 rfl rfl) rfl<|I0 (B4 rfl rfl (by omega)) rfl<|C0 1 rfl<|I0 (X5 rfl rfl (by omega)) rfl<|I0 (W4 underlying3 underlying5 rfl (m := 8 * s.size / 2 ^ (56 - 8 * i)) (shr_nat (a := 8 * s.size) (by omega) (by omega))) rfl<|X2 (vs := (([UInt8.ofNat (8 * s.size / 2 ^ (56 - 8 * i))] : List UInt8)).map V8) hL rfl underlying120 inf5 rfl rfl rfl rfl rfl fun lit31 w12 h12=>I3 (ys := ([UInt8.ofNat (8 * s.size / 2 ^ (56 - 8 * i))] : List UInt8)) 1 h12 rfl rfl rfl rfl underlying120 underlying120 (.inr ⟨_, rfl⟩) inf5 rfl hrb (Src.lit h12 0 rfl rfl rfl) rfl rfl (by first | omega | (simp [lenb_len, flat_len, list_len, ShaM.out4]; done) | (simp [lenb_len, flat_len, list_len, ShaM.out4]; omega)) (by first | omega | (simp [lenb_len, flat_len, list_len, ShaM.out4]; done) | (simp [lenb_len, flat_len, list_len, ShaM.out4]; omega)) ?_
    intro r13 v13 w14 hr13 h14
    simp only [lz, ls] at h14
    replace h14 := h14.drop 0
    simp only [ez, es'] at h14
    refine C0 1 rfl<|J0<|N1<|H0<|L0<|C0 1 rfl<|I0 (N3 rfl rfl (by omega)) rfl<|C0 1 rfl<|J0<|F1 (⟨i + 1, r13, v13⟩ : Nat × Res × Value) (by show 8 - (i + 1) < 8 - i; omega) ⟨rfl, rfl, ?_, trivial⟩ ⟨by show i + 1 ≤ 8; omega, ?_, h14⟩
    ·show some (Value.int .i64 (56 - 8 * (i : Int) - 8)) = some (.int .i64 (56 - 8 * ((i + 1 : Nat) : Int)))
     rw [show (56 - 8 * (i : Int) - 8) = 56 - 8 * ((i + 1 : Nat) : Int) by omega]
    have := hr13
    rw [← hSl] at this
    rwa [List.append_assoc, ← lenb_succ] at this
  try simp only [DD] at c11
  first
  |(exfalso; omega)
  |skip
   refine U1<|B2<|WX.cut<|E2<|H0<|N0<|L0 ?_
   obtain rfl : i = 8 := by omega
   obtain ⟨G, hG1, hG2, hG3⟩ := hL.freeze (i := 0) rfl
   simp only [List.eraseIdx_cons_zero] at hG3
   have hR0 : RdS Kd.u8 G A (ShaM.pad S) := Row.read (f := V8) (hrb : Row _ _ _ _ (ShaM.pad S)) rfl hG2
   refine V1 (cn func185) rfl rfl (first_c _ hG3) ?_
   rintro _ wf ⟨rfl, hf⟩
   refine ⟨_, rfl,O2 rfl hf inf216 fun b5 w15 h15=>F4 h15 0 rfl rfl rfl inf216 rfl rfl rfl ?_⟩
   intro  w16 h16
   try simp only [ZZ] at h16
   refine Wb<|M1<|N4 (σ := Nat × D8 × List UInt8 × Option Addr × Nat) (fun q_ => [(3, .slice q_.2.2.2.1 q_.2.2.1.length q_.2.2.2.2), (5, pz b5)]) (fun q_ w => q_.2.2.1.length = 64 * q_.1 ∧ ShaM.blocks q_.1 q_.2.1 q_.2.2.1 = ShaM.blocks ((ShaM.pad S).length / 64) ShaM.first (ShaM.pad S) ∧ RdS Kd.u8 G q_.2.2.2.1 q_.2.2.1 ∧ q_.2.2.1.length ≤ q_.2.2.2.2 ∧ St W G ([(b5, .cells ((q_.2.1.list).map V32).toArray 216 (0, 0))] :: cs) w) (fun q_ => q_.1) (⟨(ShaM.pad S).length / 64, ShaM.first, ShaM.pad S, A, cap⟩) (by repeat (first | exact trivial | refine ⟨rfl, ?_⟩)) (⟨by show (ShaM.pad S).length = 64 * ((ShaM.pad S).length / 64); rw [pad_len]; omega, rfl, hR0, hcap, h16⟩) ?_
   rintro ⟨n, dd, l, A1, cap'⟩ w17 ⟨hl, hB, hR, hc, hL⟩
   try dsimp only at hl hB hR hc hL
   refine WC.sub (s := [(3, .slice A1 l.length cap'), (5, pz b5)]) (by repeat (first | exact trivial | refine ⟨rfl, ?_⟩)) ?_
   refine N0<|Wi<|C0 1 rfl<|I0 (Y0 underlying120 rfl rfl) rfl<|I0 (Y1 rfl rfl) rfl<|Wa<|Z0 rfl (fun c18 => ?_) (fun c18 => ?_)
   ·try simp only [DD] at c18
    first
    |(exfalso; omega)
    |skip
     refine U0 (H0 (N0 (M1 (L0 ?_))))
     obtain ⟨n, rfl⟩ : ∃ m, n = m + 1 := ⟨n - 1, by omega⟩
     obtain ⟨ad, rfl, hrd⟩ := rd1 hR (by omega)
     refine C0 1 rfl<|I0 (U6 underlying120 inf5 rfl rfl (n := 64) rfl (by omega)) rfl ?_
     have e64 : (l.take 64).length = 64 := by rw [List.length_take]; omega
     have hb := block_c (bs := l.take 64) (ad := ad) (cap := cap') w17 dd hL (fun i x hx => hrd i x (by rw [List.getElem?_take] at hx; split at hx <;> first | exact hx | cases hx)) e64
     rw [e64] at hb
     refine V1 (cn func186) rfl rfl hb ?_
     rintro _ wb ⟨rfl, hb2⟩
     refine ⟨_, rfl,J0<|N1<|H0<|L0<|C0 1 rfl<|I0 (V6 underlying120 inf5 rfl rfl (n := 64) rfl (by omega)) rfl<|C0 1 rfl<|J0<|F1 (⟨n, ShaM.block dd (l.take 64), l.drop 64, (if cap' = 64 then some ad else (some ad).map (·.add (64 * 1))), cap' - 64⟩ : Nat × D8 × List UInt8 × Option Addr × Nat) (by show n < n + 1; omega) ⟨?_, rfl, trivial⟩ ⟨?_, hB, hR.drop 64 (cap := cap') (by omega), ?_, hb2⟩⟩
     ·show _ = some (Value.slice _ (l.drop 64).length _)
      rw [List.length_drop]; rfl
     ·show (l.drop 64).length = 64 * n
      rw [List.length_drop]; omega
     show (l.drop 64).length ≤ cap' - 64
     rw [List.length_drop]; omega
   try simp only [DD] at c18
   first
   |(exfalso; omega)
   |skip
    refine U1<|B2<|WX.cut<|E2<|H0<|Wi<|C0 1 rfl<|J0 (H0 (N0 (N0 (L0 ?_))))
    obtain rfl : n = 0 := by omega
    obtain rfl : dd = ShaM.blocks ((ShaM.pad S).length / 64) ShaM.first (ShaM.pad S) := hB
    generalize hD : ShaM.blocks ((ShaM.pad S).length / 64) ShaM.first (ShaM.pad S) = dd at *
    have hN := hL.nilRes
    refine I0 (U2 hL 0 rfl underlying216 rfl inf216 rfl rfl) rfl<|C0 1 rfl<|Wj<|N4 (σ := Nat × Res × Value) (fun q_ => [(6, q_.2.2), (42, .agg (dd.list.map V32).toArray), (43, .int .i64 (q_.1 : Int))]) (fun q_ w => q_.1 ≤ 8 ∧ Row 5 V8 q_.2.1 q_.2.2 ((dd.list.take q_.1).flatMap ShaM.out4) ∧ St W G (q_.2.1 :: [(b5, .cells ((dd.list).map V32).toArray 216 (0, 0))] :: cs) w) (fun q_ => 8 - q_.1) (⟨0, [], .slice none 0 0⟩) (by repeat (first | exact trivial | refine ⟨rfl, ?_⟩)) (⟨by omega, Row.nil _ _, hN⟩) ?_
    rintro ⟨i, r, v⟩ w19 ⟨hi, hro, hL⟩
    try dsimp only at hi hro hL
    refine WC.sub (s := [(6, v), (42, .agg (dd.list.map V32).toArray), (43, .int .i64 (i : Int))]) (by repeat (first | exact trivial | refine ⟨rfl, ?_⟩)) ?_
    obtain ⟨A, cap, rfl, hcap⟩ := hro.val
    have hlen : ((dd.list.take i).flatMap ShaM.out4).length = 4 * i := by rw [flat_len, List.length_take, list_len]; omega
    refine Wi<|I0 (Q1 rfl rfl) rfl<|Wb<|Z0 rfl (fun c20 => ?_) (fun c20 => ?_)
    ·try simp only [DD] at c20
     first
     |(exfalso; omega)
     |skip
      refine U0<|H0<|N0<|M1<|Wi<|I0 (F6 underlying216 underlying199 rfl inf199 rfl rfl (n := i) rfl (by omega) (u := V32 (dd.list.getD i 0)) (by have : i < dd.list.length := (by rw [list_len]; omega); simp [gD, gE this])) rfl<|C0 1 rfl<|Wf<|C0 2 rfl<|I0 (U5 rfl rfl (by decide)) rfl<|I0 (Runs.to8 underlying199 underlying5 rfl) rfl<|C0 1 rfl<|I0 (U5 rfl rfl (by decide)) rfl<|I0 (Runs.to8 underlying199 underlying5 rfl) rfl<|C0 1 rfl<|I0 (U5 rfl rfl (by decide)) rfl<|I0 (Runs.to8 underlying199 underlying5 rfl) rfl<|C0 1 rfl<|I0 (Runs.to8 underlying199 underlying5 rfl) rfl<|X2 (vs := (ShaM.out4 (dd.list.getD i 0)).map V8) hL rfl underlying120 inf5 rfl rfl rfl rfl rfl fun lit58 w21 h21=>I3 (ys := ShaM.out4 (dd.list.getD i 0)) 1 h21 rfl rfl rfl rfl underlying120 underlying120 (.inr ⟨_, rfl⟩) inf5 rfl hro (Src.lit h21 0 rfl rfl rfl) rfl rfl (by first | omega | (simp [lenb_len, flat_len, list_len, ShaM.out4]; done) | (simp [lenb_len, flat_len, list_len, ShaM.out4]; omega)) (by first | omega | (simp [lenb_len, flat_len, list_len, ShaM.out4]; done) | (simp [lenb_len, flat_len, list_len, ShaM.out4]; omega)) ?_
      intro r22 v22 w23 hr22 h23
      simp only [lz, ls] at h23
      replace h23 := h23.drop 0
      simp only [ez, es'] at h23
      refine C0 1 rfl<|J0<|N1<|H0<|L0<|I0 (V0 rfl rfl (by omega)) rfl<|C0 1 rfl<|J0<|F1 (⟨i + 1, r22, v22⟩ : Nat × Res × Value) (by show 8 - (i + 1) < 8 - i; omega) ⟨rfl, rfl, rfl, trivial⟩ ⟨by show i + 1 ≤ 8; omega, ?_, h23⟩
      have := hr22
      rwa [← take_flat (by rw [list_len]; omega)] at this
    try simp only [DD] at c20
    first
    |(exfalso; omega)
    |skip
     refine U1<|B2<|WX.cut<|E2<|H0<|Wi<|C0 1 rfl ?_
     obtain rfl : i = 8 := by omega
     refine I0 (Y5 (bs := dd.list.flatMap ShaM.out4) underlying120 underlying5 underlying9 rfl (by rfl) (hro.wcell hL (i := 0) rfl rfl)) rfl<|C0 1 rfl<|Wg<|ret1 rfl rfl ⟨?_, ((hL.drop 0).drop 0).weak hG1⟩
     rw [show ShaM.of S = dd.list.flatMap ShaM.out4 by unfold ShaM.of; rw [hD]]
theorem inf219 : Inf prog 219 (.agg (List.replicate 64 (.int .u8 0)).toArray) 64 64 := by unfold Inf; kernel_rfl
theorem dl_mk (l : List UInt8) : (⟨l.toArray⟩ : ByteArray).data.toList = l := by simp
theorem dl_app (a b : ByteArray) : (a ++ b).data.toList = a.data.toList ++ b.data.toList := by simp
theorem size_mk (l : List UInt8) : (⟨l.toArray⟩ : ByteArray).size = l.length := by simp [ByteArray.size]
theorem padded_len (k : List UInt8) (b : UInt8) : (ShaM.padded k b).length = 64 := by simp [ShaM.padded]
theorem of_len (s : List UInt8) : (ShaM.of s).length = 32 := by unfold ShaM.of; rw [flat_len]; rfl
def mix {α : Type} (f : α → α) (L : List α) (i : Nat) : List α := (L.map f).take i ++ L.drop i
theorem mix_len {α : Type} (f : α → α) (L : List α) (i : Nat) (h : i ≤ L.length) : (mix f L i).length = L.length := by simp [mix]; omega
theorem mix_at {α : Type} (f : α → α) (L : List α) (d : α) (i : Nat) (h : i < L.length) : (mix f L i).getD i d = L.getD i d := by
 have : ((L.map f).take i).length = i := by simp; omega
 rw [gD, gD, mix, List.getElem?_append_right (by omega), this, List.getElem?_drop]
 simp
theorem mix_set {α : Type} (f : α → α) (L : List α) (d : α) (i : Nat) (h : i < L.length) : (mix f L i).set i (f (L.getD i d)) = mix f L (i + 1) := by
 have h1 : ((L.map f).take i).length = i := by simp; omega
 unfold mix
 rw [List.set_append_right _ _ (by omega), h1, Nat.sub_self, List.take_succ_eq_append_getElem (by simpa using h), List.drop_eq_getElem_cons h, List.set_cons_zero]
 simp [gD, gE h]
theorem mix_all {α : Type} (f : α → α) (L : List α) : mix f L L.length = L.map f := by simp [mix, List.take_of_length_le]
def key0 (S : List UInt8) : List UInt8 := S.take 64 ++ List.replicate (64 - S.length) 0
theorem key0_len (S : List UInt8) : (key0 S).length = 64 := by simp [key0]; omega
theorem key0_map (S : List UInt8) (b : UInt8) : (key0 S).map (· ^^^ b) = ShaM.padded S b := by
 apply List.ext_getElem?
 intro i
 by_cases hi : i < 64
 ·have h1 : i < (key0 S).length := by rw [key0_len]; exact hi
  simp only [ShaM.padded, List.getElem?_map, List.getElem?_range hi, Option.map_some, gE h1]
  congr 2
  have : (key0 S)[i]? = some (S.getD i 0) := by
   unfold key0
   by_cases hs : i < S.length
   ·rw [List.getElem?_append_left (by simp; omega), List.getElem?_take_of_lt hi, gD, gE hs]; rfl
   have e1 : S[i]? = none := List.getElem?_eq_none (by omega)
   rw [List.getElem?_append_right (by simp; omega), gD, e1, List.length_take, Nat.min_eq_right (by omega), List.getElem?_replicate, if_pos (by omega)]; rfl
  rw [gE h1] at this
  exact Option.some.inj this
 rw [List.getElem?_eq_none (by simp [key0_len]; omega), List.getElem?_eq_none (by simp [ShaM.padded]; omega)]
theorem first_str {P : Program} (w : World) (s : ByteArray) (n : Nat) : (Builtin.firstCells 1 n (.string s)).run P w = .ok ((s.data.toList.take n).map V8).toArray w := by
 simp only [Builtin.firstCells, Sem.run, pure]
 congr 1
 apply Array.toList_inj.1
 have : (s.extract 0 n).data.toList = s.data.toList.take n := by simp [ByteArray.data_extract]
 simp [this]
theorem blit_key (S : List UInt8) : blit ((List.replicate 64 (0 : UInt8)).map V8).toArray 0 ((S.take (min S.length 64)).map V8) = ((key0 S).map V8).toArray := by
 apply Array.toList_inj.1
 rw [blit_toList _ _ _ (by simp; omega)]
 have e : S.take (min S.length 64) = S.take 64 := by
  rcases Nat.le_total S.length 64 with h | h
  ·rw [Nat.min_eq_left h, List.take_of_length_le (Nat.le_refl _), List.take_of_length_le h]
  rw [Nat.min_eq_right h]
 rw [e]
 simp only [List.take_zero, List.nil_append, Nat.zero_add, List.length_map, List.length_take, List.map_replicate, List.drop_replicate, key0, List.map_append]
 congr 2
 omega
theorem padded_c (w : World) (s : ByteArray) (by_ : UInt8) (h : St W F cs w) : Calls prog 178 #[.string s, V8 by_] w fun e w' => e = .returned (.string ⟨(ShaM.padded s.data.toList by_).toArray⟩) ∧ St W F cs w'  := by
 refine enter (args := [.string s, V8 by_]) func178 rfl rfl rfl ?_
 obtain ⟨S, hS⟩ : ∃ S, S = s.data.toList := ⟨_, rfl⟩
 have hSl : S.length = s.size := by rw [hS]; simp
 rw [← hS]
 refine Wi<|C0 1 rfl<|We<|O2 rfl h inf219 fun b5 w1 h1=>We<|I0 (Runs.asl underlying219 inf5 rfl (l := none) (h := none) rfl rfl okb_no) rfl<|C0 1 rfl<|WL.copy (m := s.size) (off := 0) (len := 64) (cap := 64) (src := (S.take (min S.length 64)).map V8) h1 0 rfl rfl underlying120 (inf5.elem rfl rfl) rfl rfl rfl (by rw [hSl]; exact hS ▸ first_str _ s _) (by rw [List.all_eq_true]; intro u hu; obtain ⟨x, _, rfl⟩ := List.mem_map.1 hu; rfl) (Free.zero _) (by simp [Value.cells]; omega) ?_
 intro  w2 h2
 try simp only [ZZ] at h2
 refine Wh<|C0 1 rfl<|Wj<|B3 (σ := Nat) (fun q_ => [(1, V8 by_), (5, pz b5), (10, .int .i64 (q_ : Int))]) (fun q_ w => q_ ≤ 64 ∧ St W F ([(b5, .cells ((mix (· ^^^ by_) (key0 S) q_).map V8).toArray 219 (0, 0))] :: cs) w) (fun q_ => 64 - q_) (0) (⟨by omega, by have e : mix (· ^^^ by_) (key0 S) 0 = key0 S := (by simp [mix]); rw [e, ← blit_key]; exact h2⟩) ?_
 rintro i w3 ⟨hi, hL⟩
 try dsimp only at hi hL
 refine W2 [(1, V8 by_), (5, pz b5), (10, .int .i64 (i : Int))]<|Wi<|I0 (Q1 rfl rfl) rfl<|Wb<|Z0 rfl (fun c4 => ?_) (fun c4 => ?_)
 ·try simp only [DD] at c4
  refine U0<|H0<|N0<|M1<|Wi<|C0 2 rfl<|Wf<|C0 1 rfl<|I0 (Q3 underlying219 inf5 rfl rfl (n := i) (by omega) (by omega)) rfl<|I0 (R3 (0 : UInt8) hL 0 rfl (n := i) (by rw [mix_len _ _ _ (by rw [key0_len]; omega), key0_len]; omega) underlying5 rfl rfl) rfl<|C0 1 rfl<|I0 (Runs.xor8 rfl rfl) rfl<|I0 (Q3 underlying219 inf5 rfl rfl (n := i) (by omega) (by omega)) rfl<|S5 hL 0 rfl rfl rfl inf5 rfl rfl (Free.zero _) (by rw [mix_len _ _ _ (by rw [key0_len]; omega), key0_len]; omega) ?_
  intro  w5 h5
  try simp only [ZZ] at h5
  refine J0<|N1<|H0<|L0<|I0 (V0 rfl rfl (by omega)) rfl<|C0 1 rfl<|J0<|F1 (i + 1) (by omega) ⟨rfl, rfl, rfl, trivial⟩ ⟨by omega, ?_⟩
  rw [← mix_set (· ^^^ by_) (key0 S) 0 i (by rw [key0_len]; omega), ← mix_at (· ^^^ by_) (key0 S) 0 i (by rw [key0_len]; omega)]
  exact h5
 try simp only [DD] at c4
 refine U1<|B2<|WX.cut<|E2<|H0<|N0<|L0 ?_
 obtain rfl : i = 64 := by omega
 have hm : mix (· ^^^ by_) (key0 S) 64 = ShaM.padded S by_ := by rw [← key0_map, ← mix_all, key0_len]
 rw [hm] at hL
 refine I0 (Runs.asl underlying219 inf5 rfl (l := none) (h := none) rfl rfl okb_no) rfl<|I0 (Y5 (bs := ShaM.padded S by_) underlying120 underlying5 underlying9 rfl (by rw [padded_len]; rfl) (.inr ⟨_, rfl, fun j b hb => by rw [add_mk]; exact hL.ocell (i := 0) rfl (by simp [lo_, hb])⟩)) rfl<|C0 1 rfl<|Wg<|ret1 rfl rfl ⟨rfl, hL.drop 0⟩
theorem hmac_c (w : World) (key s : ByteArray) (h : St W F cs w) (hk : key.size ≤ 900000) (hs : s.size ≤ 900000) : Calls prog 169 #[.string key, .string s] w fun e w' => e = .returned (.string ⟨(ShaM.hmac key.data.toList s.data.toList).toArray⟩) ∧ St W F cs w'  := by
 refine enter (args := [.string key, .string s]) func169 rfl rfl rfl<|Wi<|C0 1 rfl<|Wh<|C0 1 rfl<|I0 (E3 underlying9 rfl rfl) rfl<|I0 (Y1 rfl rfl) rfl<|Wa<|Z0 rfl (fun c1 => ?_) (fun c1 => ?_)
 ·try simp only [DD] at c1
  refine L0<|C0 1 rfl<|C1 (cn func177) rfl rfl (of_c _ _ h (by first | omega | (simp [ByteArray.size_append, padded_len, of_len, size_mk]; done) | (simp [ByteArray.size_append, padded_len, of_len, size_mk]; omega))) fun w2 h2 =>C0 1 rfl<|We<|C0 1 rfl<|C1 (cn func178) rfl rfl (padded_c _ _ 92 h2) fun w3 h3 =>C0 1 rfl<|C1 (cn func178) rfl rfl (padded_c _ _ 54 h3) fun w4 h4 =>C0 1 rfl<|I0 (U4 rfl rfl (by simp [padded_len, size_mk]; omega)) rfl<|C1 (cn func177) rfl rfl (of_c _ _ h4 (by first | omega | (simp [ByteArray.size_append, padded_len, of_len, size_mk]; done) | (simp [ByteArray.size_append, padded_len, of_len, size_mk]; omega))) fun w5 h5 =>I0 (U4 rfl rfl (by simp [padded_len, of_len, size_mk])) rfl<|C1 (cn func177) rfl rfl (of_c _ _ h5 (by first | omega | (simp [ByteArray.size_append, padded_len, of_len, size_mk]; done) | (simp [ByteArray.size_append, padded_len, of_len, size_mk]; omega))) fun w6 h6 =>C0 1 rfl<|Wg<|ret1 rfl rfl ⟨?_, h6⟩
  have hkl : key.data.toList.length = key.size := by simp
  simp only [dl_mk, dl_app, ShaM.hmac, hkl]
  first
  |rw [if_pos (by omega)]
  |rw [if_neg (by omega)]
 try simp only [DD] at c1
 refine Wk<|C0 1 rfl<|C1 (cn func178) rfl rfl (padded_c _ _ 92 h) fun w7 h7 =>C0 1 rfl<|C1 (cn func178) rfl rfl (padded_c _ _ 54 h7) fun w8 h8 =>C0 1 rfl<|I0 (U4 rfl rfl (by simp [padded_len, size_mk]; omega)) rfl<|C1 (cn func177) rfl rfl (of_c _ _ h8 (by first | omega | (simp [ByteArray.size_append, padded_len, of_len, size_mk]; done) | (simp [ByteArray.size_append, padded_len, of_len, size_mk]; omega))) fun w9 h9 =>I0 (U4 rfl rfl (by simp [padded_len, of_len, size_mk])) rfl<|C1 (cn func177) rfl rfl (of_c _ _ h9 (by first | omega | (simp [ByteArray.size_append, padded_len, of_len, size_mk]; done) | (simp [ByteArray.size_append, padded_len, of_len, size_mk]; omega))) fun w10 h10 =>C0 1 rfl<|Wg<|ret1 rfl rfl ⟨?_, h10⟩
 have hkl : key.data.toList.length = key.size := by simp
 simp only [dl_mk, dl_app, ShaM.hmac, hkl]
 first
 |rw [if_pos (by omega)]
 |rw [if_neg (by omega)]
theorem inf3 : Inf prog 3 (.int .i64 0) 1 8 := by unfold Inf; kernel_rfl
theorem rk_c (w : World)  (h : St W F cs w) : Calls prog 189 #[] w (Gives W F cs VI (ShaM.K))  := by
 refine enter (args := []) func189 rfl rfl rfl<|Wi<|C0 1 rfl<|We<|X2 (vs := (ShaM.K).map VI) h rfl underlying33 inf3 rfl rfl rfl rfl rfl fun lit1 w1 h1=>C0 1 rfl<|Wg<|ret1 rfl rfl (h1.litGives rfl)
theorem word_c (w : World) (x : Wd) (z : Int) (h : St W F cs w) (hz : 0 ≤ z) (hx : z % 4294967296 = (x.toNat : Int)) : Calls prog 191 #[.int .i64 z] w fun e w' => e = .returned (VI x) ∧ St W F cs w'  := by
 refine enter (args := [.int .i64 z]) func191 rfl rfl rfl<|Wi<|C0 1 rfl<|We<|C0 1 rfl<|I0 (R0 (n := (x.toNat : Int)) (J5 rfl rfl (by omega) (by omega)) hx) rfl<|C0 1 rfl<|Wg<|ret1 rfl rfl ⟨rfl, h⟩
theorem rshr_c (w : World) (a n : Nat) (h : St W F cs w) (ha : a ≤ 9223372036854775807) (hn : n ≤ 64) : Calls prog 187 #[.int .i64 (a : Int), .int .i64 (n : Int)] w fun e w' => e = .returned (.int .i64 ((a / 2 ^ n : Nat) : Int)) ∧ St W F cs w'  := by
 refine enter (args := [.int .i64 (a : Int), .int .i64 (n : Int)]) func187 rfl rfl rfl<|Wi<|C0 1 rfl<|Wh<|C0 1 rfl<|Wj<|N4 (σ := Nat) (fun q_ => [(0, .int .i64 ((a / 2 ^ q_ : Nat) : Int)), (1, .int .i64 (n : Int)), (5, .int .i64 (q_ : Int))]) (fun q_ w => q_ ≤ n ∧ St W F cs w) (fun q_ => n - q_) (0) ⟨by show some (Value.int .i64 (a : Int)) = _; simp, rfl, rfl, trivial⟩ (⟨by omega, h⟩) ?_
 rintro i w1 ⟨hi, hL⟩
 try dsimp only at hi hL
 refine W2 [(0, .int .i64 ((a / 2 ^ i : Nat) : Int)), (1, .int .i64 (n : Int)), (5, .int .i64 (i : Int))]<|N0<|Wi<|C0 2 rfl<|I0 (Q1 rfl rfl) rfl<|Wa<|Z0 rfl (fun c2 => ?_) (fun c2 => ?_)
 ·try simp only [DD] at c2
  refine U0<|H0<|N0<|M1<|L0<|C0 1 rfl<|I0 (R0 (n := ((a / 2 ^ (i + 1) : Nat) : Int)) (Z5 rfl rfl (by have h1 := Nat.div_le_self a (2 ^ i); generalize a / 2 ^ i = q at *; omega) (by omega)) (ShaR.div_next a i)) rfl<|C0 1 rfl<|J0<|N1<|H0<|L0<|C0 1 rfl<|I0 (V0 rfl rfl (by omega)) rfl<|C0 1 rfl<|J0<|F1 (i + 1) (by omega) ⟨rfl, rfl, rfl, trivial⟩ ⟨by omega, hL⟩
 try simp only [DD] at c2
 refine U1<|B2<|WX.cut<|E2<|H0<|Wi<|C0 2 rfl<|J0 (H0 (O1 ?_))
 obtain rfl : i = n := by omega
 exact ret1 rfl rfl ⟨rfl, hL⟩
theorem rrot_c (w : World) (x : Wd) (n : Nat) (h : St W F cs w) (hn : n ≤ 31) : Calls prog 190 #[VI x, .int .i64 (n : Int)] w fun e w' => e = .returned (VI (rotr x n)) ∧ St W F cs w'  := by
 refine enter (args := [VI x, .int .i64 (n : Int)]) func190 rfl rfl rfl<|Wi<|C0 1 rfl<|Wh<|C0 1 rfl<|Wj<|N4 (σ := Nat) (fun q_ => [(0, VI (rotr x q_)), (1, .int .i64 (n : Int)), (5, .int .i64 (q_ : Int))]) (fun q_ w => q_ ≤ n ∧ St W F cs w) (fun q_ => n - q_) (0) ⟨by show some (VI x) = _; rw [ShaR.rotr0], rfl, rfl, trivial⟩ (⟨by omega, h⟩) ?_
 rintro i w1 ⟨hi, hL⟩
 try dsimp only at hi hL
 refine W2 [(0, VI (rotr x i)), (1, .int .i64 (n : Int)), (5, .int .i64 (i : Int))] ?_
 have hlt := (rotr x i).isLt
 refine N0<|Wi<|C0 2 rfl<|I0 (Q1 rfl rfl) rfl<|Wa<|Z0 rfl (fun c2 => ?_) (fun c2 => ?_)
 ·try simp only [DD] at c2
  refine U0<|H0<|N0<|M1<|L0<|C0 1 rfl<|I0 (Z5 rfl rfl (by omega) (by omega)) rfl<|C0 1 rfl<|I0 (J5 rfl rfl (by omega) (by omega)) rfl<|I0 (B4 rfl rfl (by omega)) rfl<|I0 (R0 (n := ((rotr x (i + 1)).toNat : Int)) (V0 rfl rfl (by omega)) (ShaR.rot_next x i (by omega))) rfl<|C0 1 rfl<|J0<|N1<|H0<|L0<|C0 1 rfl<|I0 (V0 rfl rfl (by omega)) rfl<|C0 1 rfl<|J0<|F1 (i + 1) (by omega) ⟨rfl, rfl, rfl, trivial⟩ ⟨by omega, hL⟩
 try simp only [DD] at c2
 refine U1<|B2<|WX.cut<|E2<|H0<|Wi<|C0 2 rfl<|J0 (H0 (O1 ?_))
 obtain rfl : i = n := by omega
 exact ret1 rfl rfl ⟨rfl, hL⟩
theorem rshrw_c (w : World) (x : Wd) (n : Nat) (h : St W F cs w) (hn : n ≤ 64) : Calls prog 187 #[VI x, .int .i64 (n : Int)] w fun e w' => e = .returned (VI (x >>> n)) ∧ St W F cs w' := by
 have := rshr_c w x.toNat n h (by have := x.isLt; omega) hn
 rwa [← ShaR.shr_toNat] at this
theorem take_next {α : Type} {l : List α} {i : Nat} (d : α) (hi : i < l.length) : l.take i ++ [l.getD i d] = l.take (i + 1) := by
 rw [List.take_succ_eq_append_getElem hi, gD, gE hi]; rfl
theorem rpad_c (w : World) (s : ByteArray) (h : St W F cs w) (hs : s.size ≤ 1000000) : Calls prog 180 #[.string s] w (Gives W F cs VB (ShaM.pad s.data.toList))  := by
 refine enter (args := [.string s]) func180 rfl rfl rfl ?_
 obtain ⟨S, hS⟩ : ∃ S, S = s.data.toList := ⟨_, rfl⟩
 have hSl : S.length = s.size := by rw [hS]; simp
 have hp : ShaM.pads S.length = (119 - S.length % 64) % 64 := rfl
 rw [← hS]
 replace h := h.nilRes
 refine Wi<|C0 1 rfl<|We<|C0 1 rfl<|Wh<|C0 1 rfl<|Wj<|N4 (σ := Nat × Res × Value) (fun q_ => [(0, .string s), (3, q_.2.2), (4, .int .i64 (q_.1 : Int))]) (fun q_ w => q_.1 ≤ s.size ∧ Row 3 VB q_.2.1 q_.2.2 (S.take q_.1) ∧ St W F (q_.2.1 :: cs) w) (fun q_ => s.size - q_.1) (⟨0, [], .slice none 0 0⟩) (by repeat (first | exact trivial | refine ⟨rfl, ?_⟩)) (⟨by omega, Row.nil _ _, h⟩) ?_
 rintro ⟨i, r, v⟩ w1 ⟨hi, hrb, hL⟩
 try dsimp only at hi hrb hL
 refine WC.sub (s := [(0, .string s), (3, v), (4, .int .i64 (i : Int))]) (by repeat (first | exact trivial | refine ⟨rfl, ?_⟩)) ?_
 obtain ⟨A, cap, rfl, hcap⟩ := hrb.val
 have hlen : (S.take i).length = i := by rw [List.length_take]; omega
 refine N0<|Wi<|C0 2 rfl<|I0 (E3 underlying9 rfl rfl) rfl<|I0 (Q1 rfl rfl) rfl<|Wa<|Z0 rfl (fun c2 => ?_) (fun c2 => ?_)
 ·try simp only [DD] at c2
  first
  |(exfalso; omega)
  |skip
   refine U0<|H0<|N0<|M1<|L0<|C0 3 rfl<|I0 (E7 underlying9 rfl rfl (n := i) rfl (by omega)) rfl<|I0 (V5 underlying5 underlying3 rfl) rfl<|X2 (vs := (([s.data.toList.getD i 0] : List UInt8)).map VB) hL rfl underlying33 inf3 rfl rfl rfl rfl rfl fun lit17 w3 h3=>I3 (ys := ([s.data.toList.getD i 0] : List UInt8)) 1 h3 rfl rfl rfl rfl underlying33 underlying33 (.inr ⟨_, rfl⟩) inf3 rfl hrb (Src.lit h3 0 rfl rfl rfl) rfl rfl (by first | omega | (simp [lenb_len]; done) | (simp [lenb_len]; omega)) (by first | omega | (simp [lenb_len]; done) | (simp [lenb_len]; omega)) ?_
   intro r4 v4 w5 hr4 h5
   simp only [lz, ls] at h5
   replace h5 := h5.drop 0
   simp only [ez, es'] at h5
   refine C0 1 rfl<|J0<|N1<|H0<|L0<|C0 1 rfl<|I0 (V0 rfl rfl (by omega)) rfl<|C0 1 rfl<|J0<|F1 (⟨i + 1, r4, v4⟩ : Nat × Res × Value) (by show s.size - (i + 1) < s.size - i; omega) ⟨rfl, rfl, rfl, trivial⟩ ⟨by show i + 1 ≤ _; omega, ?_, h5⟩
   have := hr4
   rwa [← hS, take_next _ (by omega)] at this
 try simp only [DD] at c2
 first
 |(exfalso; omega)
 |skip
  refine U1<|B2<|WX.cut<|E2<|H0<|Wi<|C0 1 rfl<|X2 (vs := (([0x80] : List UInt8)).map VB) hL rfl underlying33 inf3 rfl rfl rfl rfl rfl fun lit20 w6 h6=>I3 (ys := ([0x80] : List UInt8)) 1 h6 rfl rfl rfl rfl underlying33 underlying33 (.inr ⟨_, rfl⟩) inf3 rfl hrb (Src.lit h6 0 rfl rfl rfl) rfl rfl (by first | omega | (simp [lenb_len]; done) | (simp [lenb_len]; omega)) (by first | omega | (simp [lenb_len]; done) | (simp [lenb_len]; omega)) ?_
  intro r7 v7 w8 hr7 h8
  simp only [lz, ls] at h8
  replace h8 := h8.drop 0
  simp only [ez, es'] at h8
  refine C0 1 rfl<|Wb<|M1<|N4 (σ := Nat × Res × Value) (fun q_ => [(0, .string s), (3, q_.2.2)]) (fun q_ w => q_.1 ≤ ShaM.pads S.length ∧ Row 3 VB q_.2.1 q_.2.2 (S ++ [0x80] ++ List.replicate q_.1 0) ∧ St W F (q_.2.1 :: cs) w) (fun q_ => ShaM.pads S.length - q_.1) (⟨0, r7, v7⟩) (by repeat (first | exact trivial | refine ⟨rfl, ?_⟩)) (⟨by omega, by have hh := hr7; rw [List.take_of_length_le (by omega)] at hh; simpa using hh, h8⟩) ?_
  rintro ⟨k, r, v⟩ w9 ⟨hk, hrb, hL⟩
  try dsimp only at hk hrb hL
  refine WC.sub (s := [(0, .string s), (3, v)]) (by repeat (first | exact trivial | refine ⟨rfl, ?_⟩)) ?_
  obtain ⟨A, cap, rfl, hcap⟩ := hrb.val
  have hlen : (S ++ [0x80] ++ List.replicate k 0).length = S.length + 1 + k := by simp; omega
  refine N0<|Wi<|C0 1 rfl<|I0 (Y0 underlying33 rfl rfl) rfl<|I0 (J5 rfl rfl (by omega) (by omega)) rfl<|I0 (J2 rfl rfl) rfl<|Wa<|Z0 rfl (fun c10 => ?_) (fun c10 => ?_)
  ·try simp only [DD] at c10
   first
   |(exfalso; omega)
   |skip
    refine U0<|H0<|M1<|L0<|C0 1 rfl<|X2 (vs := (([0] : List UInt8)).map VB) hL rfl underlying33 inf3 rfl rfl rfl rfl rfl fun lit27 w11 h11=>I3 (ys := ([0] : List UInt8)) 1 h11 rfl rfl rfl rfl underlying33 underlying33 (.inr ⟨_, rfl⟩) inf3 rfl hrb (Src.lit h11 0 rfl rfl rfl) rfl rfl (by first | omega | (simp [lenb_len]; done) | (simp [lenb_len]; omega)) (by first | omega | (simp [lenb_len]; done) | (simp [lenb_len]; omega)) ?_
    intro r12 v12 w13 hr12 h13
    simp only [lz, ls] at h13
    replace h13 := h13.drop 0
    simp only [ez, es'] at h13
    refine C0 1 rfl<|J0<|N1<|F1 (⟨k + 1, r12, v12⟩ : Nat × Res × Value) (by show _ - (k + 1) < _ - k; omega) ⟨rfl, rfl, trivial⟩ ⟨by show k + 1 ≤ _; omega, ?_, h13⟩
    have := hr12
    rwa [List.append_assoc, ← List.replicate_succ'] at this
  try simp only [DD] at c10
  first
  |(exfalso; omega)
  |skip
   refine U1<|B2<|WX.cut<|E2<|H0<|N0<|Wi<|C0 1 rfl<|Wj<|N4 (σ := Nat × Res × Value) (fun q_ => [(0, .string s), (3, q_.2.2), (5, .int .i64 (7 - (q_.1 : Int)))]) (fun q_ w => q_.1 ≤ 8 ∧ Row 3 VB q_.2.1 q_.2.2 ((S ++ [0x80] ++ List.replicate (ShaM.pads S.length) 0) ++ ShaM.lenb S.length q_.1) ∧ St W F (q_.2.1 :: cs) w) (fun q_ => 8 - q_.1) (⟨0, r, _⟩) (by repeat (first | exact trivial | refine ⟨rfl, ?_⟩)) (⟨by omega, by obtain rfl : k = ShaM.pads S.length := (by omega); simpa [ShaM.lenb] using hrb, hL⟩) ?_
   rintro ⟨i, r, v⟩ w14 ⟨hi, hrb, hL⟩
   try dsimp only at hi hrb hL
   refine WC.sub (s := [(0, .string s), (3, v), (5, .int .i64 (7 - (i : Int)))]) (by repeat (first | exact trivial | refine ⟨rfl, ?_⟩)) ?_
   obtain ⟨A, cap, rfl, hcap⟩ := hrb.val
   have hlen : ((S ++ [0x80] ++ List.replicate (ShaM.pads S.length) 0) ++ ShaM.lenb S.length i).length = S.length + 1 + ShaM.pads S.length + i := by simp [lenb_len]; omega
   refine N0<|Wi<|C0 1 rfl<|I0 (T1 rfl rfl) rfl<|Wa<|Z0 rfl (fun c15 => ?_) (fun c15 => ?_)
   ·try simp only [DD] at c15
    first
    |(exfalso; omega)
    |skip
     refine U0<|H0<|N0<|M1<|L0<|C0 2 rfl<|I0 (E3 underlying9 rfl rfl) rfl<|I0 (R0 (n := ((8 * s.size : Nat) : Int)) (B4 rfl rfl (by omega)) (by omega)) rfl<|C0 1 rfl<|I0 (R0 (n := ((8 * (7 - i) : Nat) : Int)) (B4 rfl rfl (by omega)) (by omega)) rfl<|V1 (cn func187) rfl rfl (rshr_c _ (8 * s.size) (8 * (7 - i)) hL (by omega) (by omega)) ?_
     rintro _ w16 ⟨rfl, h16⟩
     refine ⟨_, rfl,I0 (R0 (n := ((UInt8.ofNat (8 * s.size / 2 ^ (8 * (7 - i)))).toNat : Int)) (J5 rfl rfl (Int.natCast_nonneg _) (by decide)) (ShaR.len_byte _ _)) rfl<|X2 (vs := (([UInt8.ofNat (8 * s.size / 2 ^ (8 * (7 - i)))] : List UInt8)).map VB) h16 rfl underlying33 inf3 rfl rfl rfl rfl rfl fun lit41 w17 h17=>I3 (ys := ([UInt8.ofNat (8 * s.size / 2 ^ (8 * (7 - i)))] : List UInt8)) 1 h17 rfl rfl rfl rfl underlying33 underlying33 (.inr ⟨_, rfl⟩) inf3 rfl hrb (Src.lit h17 0 rfl rfl rfl) rfl rfl (by first | omega | (simp [lenb_len]; done) | (simp [lenb_len]; omega)) (by first | omega | (simp [lenb_len]; done) | (simp [lenb_len]; omega)) ?_⟩
     intro r18 v18 w19 hr18 h19
     simp only [lz, ls] at h19
     replace h19 := h19.drop 0
     simp only [ez, es'] at h19
     refine C0 1 rfl<|J0<|N1<|H0<|L0<|C0 1 rfl<|I0 (N3 rfl rfl (by omega)) rfl<|C0 1 rfl<|J0<|F1 (⟨i + 1, r18, v18⟩ : Nat × Res × Value) (by show 8 - (i + 1) < 8 - i; omega) ⟨rfl, rfl, ?_, trivial⟩ ⟨by show i + 1 ≤ 8; omega, ?_, h19⟩
     ·show some (Value.int .i64 (7 - (i : Int) - 1)) = some (.int .i64 (7 - ((i + 1 : Nat) : Int)))
      rw [show (7 - (i : Int) - 1) = 7 - ((i + 1 : Nat) : Int) by omega]
     have := hr18
     rw [← hSl, show 8 * (7 - i) = 56 - 8 * i by omega] at this
     rwa [List.append_assoc, ← lenb_succ] at this
   try simp only [DD] at c15
   first
   |(exfalso; omega)
   |skip
    refine U1<|B2<|WX.cut<|E2<|H0<|Wi<|C0 2 rfl<|J0 (H0 (O1 ?_))
    obtain rfl : i = 8 := by omega
    exact ret1 rfl rfl (Row.gives hrb hL)
theorem rsched_c (w : World) {ad : Addr} {cap : Nat} {bs : List UInt8} (h : St W F cs w) (hrd : ∀ i x, bs[i]? = some x → cellF F (ad.add i) = some (VB x)) (hl : bs.length = 64) : Calls prog 188 #[.slice (some ad) bs.length cap] w (Gives W F cs VI (ShaM.sched bs))  := by
 refine enter (args := [.slice (some ad) bs.length cap]) func188 rfl rfl rfl ?_
 replace h := h.nilRes
 refine Wi<|C0 1 rfl<|We<|C0 1 rfl<|Wh<|C0 1 rfl<|Wj<|N4 (σ := Nat × Res × Value) (fun q_ => [(0, .slice (some ad) bs.length cap), (3, q_.2.2), (4, .int .i64 (q_.1 : Int))]) (fun q_ w => q_.1 ≤ 16 ∧ Row 3 VI q_.2.1 q_.2.2 (ShaM.firsts bs q_.1) ∧ St W F (q_.2.1 :: cs) w) (fun q_ => 16 - q_.1) (⟨0, [], .slice none 0 0⟩) (by repeat (first | exact trivial | refine ⟨rfl, ?_⟩)) (⟨by omega, Row.nil _ _, h⟩) ?_
 rintro ⟨i, r, v⟩ w1 ⟨hi, hro, hL⟩
 try dsimp only at hi hro hL
 refine WC.sub (s := [(0, .slice (some ad) bs.length cap), (3, v), (4, .int .i64 (i : Int))]) (by repeat (first | exact trivial | refine ⟨rfl, ?_⟩)) ?_
 obtain ⟨A, cap1, rfl, hcap⟩ := hro.val
 have b0 := (bs.getD (4 * i) 0).toNat_lt
 have b1 := (bs.getD (4 * i + 1) 0).toNat_lt
 have b2 := (bs.getD (4 * i + 2) 0).toNat_lt
 have b3 := (bs.getD (4 * i + 3) 0).toNat_lt
 refine N0<|Wi<|C0 1 rfl<|I0 (Q1 rfl rfl) rfl<|Wa<|Z0 rfl (fun c2 => ?_) (fun c2 => ?_)
 ·try simp only [DD] at c2
  first
  |(exfalso; omega)
  |skip
   refine U0<|H0<|N0<|M1<|Q4 (fun w_ => St W _ _ w_) (fun k => Nat.beq k 30 || Nat.beq k 31) mixed (by kernel_rfl) (hL.drew)<|fun hx =>K4 hx 3 rfl<|F2 hx (by rfl) rfl (fun w_ => B4 rfl rfl (by omega)) rfl<|F2 hx (by rfl) rfl (fun w_ => W0 underlying33 inf3 rfl rfl (n := 4 * i) (by omega) (by first | omega | (simp; omega))) rfl<|W3 12 hx (by rfl) rfl (by kernel_rfl) (fun w_ hC_ => I1 (f := VB) (0 : UInt8) hC_ hrd (n := 4 * i) (by omega) underlying3 rfl rfl) rfl<|F2 hx (by rfl) rfl (fun w_ => B4 rfl rfl (by omega)) rfl<|K4 hx 2 rfl<|F2 hx (by rfl) rfl (fun w_ => B4 rfl rfl (by omega)) rfl<|F2 hx (by rfl) rfl (fun w_ => V0 rfl rfl (by omega)) rfl<|F2 hx (by rfl) rfl (fun w_ => W0 underlying33 inf3 rfl rfl (n := 4 * i + 1) (by omega) (by first | omega | (simp; omega))) rfl<|W3 12 hx (by rfl) rfl (by kernel_rfl) (fun w_ hC_ => I1 (f := VB) (0 : UInt8) hC_ hrd (n := 4 * i + 1) (by omega) underlying3 rfl rfl) rfl<|F2 hx (by rfl) rfl (fun w_ => B4 rfl rfl (by omega)) rfl<|F2 hx (by rfl) rfl (fun w_ => V0 rfl rfl (by omega)) rfl<|K4 hx 2 rfl<|F2 hx (by rfl) rfl (fun w_ => B4 rfl rfl (by omega)) rfl<|F2 hx (by rfl) rfl (fun w_ => V0 rfl rfl (by omega)) rfl<|F2 hx (by rfl) rfl (fun w_ => W0 underlying33 inf3 rfl rfl (n := 4 * i + 2) (by omega) (by first | omega | (simp; omega))) rfl<|W3 12 hx (by rfl) rfl (by kernel_rfl) (fun w_ hC_ => I1 (f := VB) (0 : UInt8) hC_ hrd (n := 4 * i + 2) (by omega) underlying3 rfl rfl) rfl<|F2 hx (by rfl) rfl (fun w_ => B4 rfl rfl (by omega)) rfl<|F2 hx (by rfl) rfl (fun w_ => V0 rfl rfl (by omega)) rfl<|K4 hx 2 rfl<|F2 hx (by rfl) rfl (fun w_ => B4 rfl rfl (by omega)) rfl<|F2 hx (by rfl) rfl (fun w_ => V0 rfl rfl (by omega)) rfl<|F2 hx (by rfl) rfl (fun w_ => W0 underlying33 inf3 rfl rfl (n := 4 * i + 3) (by omega) (by first | omega | (simp; omega))) rfl<|W3 12 hx (by rfl) rfl (by kernel_rfl) (fun w_ hC_ => I1 (f := VB) (0 : UInt8) hC_ hrd (n := 4 * i + 3) (by omega) underlying3 rfl rfl) rfl<|F2 hx (by rfl) rfl (fun w_ => R0 (n := ((ShaM.w0 bs i).toNat : Int)) (V0 rfl rfl (by omega)) (ShaR.by4_sum _ _ _ _)) rfl<|Z4 hx rfl (by decide) (by kernel_rfl) fun w3 h3=>F5 (by rfl) rfl (by kernel_rfl)<|X2 (vs := (([ShaM.w0 bs i] : List Wd)).map VI) h3 rfl underlying33 inf3 rfl rfl rfl rfl rfl fun lit44 w4 h4=>J0<|I4<|F5 (by rfl) rfl (by kernel_rfl)<|I3 (ys := ([ShaM.w0 bs i] : List Wd)) 1 h4 rfl rfl rfl rfl underlying33 underlying33 (.inr ⟨_, rfl⟩) inf3 rfl hro (Src.lit h4 0 rfl rfl rfl) rfl rfl (by first | omega | (simp [ShaM.firsts_len, ShaM.grow_len]; done) | (simp [ShaM.firsts_len, ShaM.grow_len]; omega)) (by first | omega | (simp [ShaM.firsts_len, ShaM.grow_len]; done) | (simp [ShaM.firsts_len, ShaM.grow_len]; omega)) ?_
   intro r5 v5 w6 hr5 h6
   simp only [lz, ls] at h6
   replace h6 := h6.drop 0
   simp only [ez, es'] at h6
   refine J0<|I4<|X3 hx (by rfl) (fun w_ => Runs.assign rfl) rfl<|B5 rfl (by kernel_rfl)<|N1<|H0<|L0<|C0 1 rfl<|I0 (V0 rfl rfl (by omega)) rfl<|C0 1 rfl<|J0<|F1 (⟨i + 1, r5, v5⟩ : Nat × Res × Value) (by show 16 - (i + 1) < 16 - i; omega) ⟨rfl, rfl, rfl, trivial⟩ ⟨by show i + 1 ≤ _; omega, ?_, h6⟩
   have := hr5
   rwa [← ShaM.firsts_succ] at this
 try simp only [DD] at c2
 first
 |(exfalso; omega)
 |skip
  refine U1<|B2<|WX.cut<|E2<|H0<|N0<|Wi<|C0 1 rfl<|Wj<|N4 (σ := Nat × Res × Value) (fun q_ => [(3, q_.2.2), (5, .int .i64 ((16 + q_.1 : Nat) : Int))]) (fun q_ w => q_.1 ≤ 48 ∧ Row 3 VI q_.2.1 q_.2.2 (ShaM.grow q_.1 (ShaM.firsts bs 16)) ∧ St W F (q_.2.1 :: cs) w) (fun q_ => 48 - q_.1) (⟨0, r, _⟩) (by repeat (first | exact trivial | refine ⟨rfl, ?_⟩)) (⟨by omega, by obtain rfl : i = 16 := (by omega); exact hro, hL⟩) ?_
  rintro ⟨j, r, v⟩ w7 ⟨hj, hro, hL⟩
  try dsimp only at hj hro hL
  refine WC.sub (s := [(3, v), (5, .int .i64 ((16 + j : Nat) : Int))]) (by repeat (first | exact trivial | refine ⟨rfl, ?_⟩)) ?_
  obtain ⟨A, cap1, rfl, hcap⟩ := hro.val
  have hXl : (ShaM.grow j (ShaM.firsts bs 16)).length = 16 + j := by rw [ShaM.grow_len, ShaM.firsts_len]
  obtain ⟨ax, rfl⟩ := hro.some (by omega)
  have b0 := ((ShaM.grow j (ShaM.firsts bs 16)).getD j 0).isLt
  have b1 := (ShaM.s0 ((ShaM.grow j (ShaM.firsts bs 16)).getD (j + 1) 0)).isLt
  have b2 := ((ShaM.grow j (ShaM.firsts bs 16)).getD (j + 9) 0).isLt
  have b3 := (ShaM.s1 ((ShaM.grow j (ShaM.firsts bs 16)).getD (j + 14) 0)).isLt
  refine N0<|Wi<|C0 1 rfl<|I0 (Q1 rfl rfl) rfl<|Wa<|Z0 rfl (fun c8 => ?_) (fun c8 => ?_)
  ·try simp only [DD] at c8
   first
   |(exfalso; omega)
   |skip
    refine U0<|H0<|N0<|M1<|Wi<|C0 2 rfl<|I0 (N3 rfl rfl (by omega)) rfl<|I0 (W0 underlying33 inf3 rfl rfl (n := j + 1) (by omega) (by first | omega | (simp; omega))) rfl<|I0 (I2 (0 : Wd) hL 0 rfl hro (n := j + 1) (by omega) underlying3 rfl rfl) rfl<|C0 1 rfl<|We<|C0 2 rfl<|I0 (N3 rfl rfl (by omega)) rfl<|I0 (W0 underlying33 inf3 rfl rfl (n := j + 14) (by omega) (by first | omega | (simp; omega))) rfl<|I0 (I2 (0 : Wd) hL 0 rfl hro (n := j + 14) (by omega) underlying3 rfl rfl) rfl<|C0 1 rfl<|We<|C0 1 rfl<|V1 (cn func190) rfl rfl (rrot_c _ _ 7 hL (by decide)) ?_
    rintro _ w9 ⟨rfl, h9⟩
    refine ⟨_, rfl,C0 1 rfl<|V1 (cn func190) rfl rfl (rrot_c _ _ 18 h9 (by decide)) ?_⟩
    rintro _ w10 ⟨rfl, h10⟩
    refine ⟨_, rfl,I0 (X4 rfl rfl) rfl<|C0 1 rfl<|V1 (cn func187) rfl rfl (rshrw_c _ _ 3 h10 (by decide)) ?_⟩
    rintro _ w11 ⟨rfl, h11⟩
    refine ⟨_, rfl,I0 (R0 (n := ((ShaM.s0 ((ShaM.grow j (ShaM.firsts bs 16)).getD (j + 1) 0)).toNat : Int)) (X4 rfl rfl) rfl) rfl<|C0 1 rfl<|We<|C0 1 rfl<|V1 (cn func190) rfl rfl (rrot_c _ _ 17 h11 (by decide)) ?_⟩
    rintro _ w12 ⟨rfl, h12⟩
    refine ⟨_, rfl,C0 1 rfl<|V1 (cn func190) rfl rfl (rrot_c _ _ 19 h12 (by decide)) ?_⟩
    rintro _ w13 ⟨rfl, h13⟩
    refine ⟨_, rfl,I0 (X4 rfl rfl) rfl<|C0 1 rfl<|V1 (cn func187) rfl rfl (rshrw_c _ _ 10 h13 (by decide)) ?_⟩
    rintro _ w14 ⟨rfl, h14⟩
    refine ⟨_, rfl,I0 (R0 (n := ((ShaM.s1 ((ShaM.grow j (ShaM.firsts bs 16)).getD (j + 14) 0)).toNat : Int)) (X4 rfl rfl) rfl) rfl<|C0 1 rfl<|Wa<|Q4 (fun w_ => St W _ _ w_) (fun k => Nat.beq k 17 || Nat.beq k 18) mixed (by kernel_rfl) (h14.drew)<|fun hx =>K4 hx 3 rfl<|F2 hx (by rfl) rfl (fun w_ => N3 rfl rfl (by omega)) rfl<|F2 hx (by rfl) rfl (fun w_ => W0 underlying33 inf3 rfl rfl (n := j) (by omega) (by first | omega | (simp; omega))) rfl<|W3 12 hx (by rfl) rfl (by kernel_rfl) (fun w_ hC_ => I2 (0 : Wd) hC_ 0 rfl hro (n := j) (by omega) underlying3 rfl rfl) rfl<|K4 hx 1 rfl<|F2 hx (by rfl) rfl (fun w_ => V0 rfl rfl (by omega)) rfl<|K4 hx 2 rfl<|F2 hx (by rfl) rfl (fun w_ => N3 rfl rfl (by omega)) rfl<|F2 hx (by rfl) rfl (fun w_ => W0 underlying33 inf3 rfl rfl (n := j + 9) (by omega) (by first | omega | (simp; omega))) rfl<|W3 12 hx (by rfl) rfl (by kernel_rfl) (fun w_ hC_ => I2 (0 : Wd) hC_ 0 rfl hro (n := j + 9) (by omega) underlying3 rfl rfl) rfl<|F2 hx (by rfl) rfl (fun w_ => V0 rfl rfl (by omega)) rfl<|K4 hx 1 rfl<|F2 hx (by rfl) rfl (fun w_ => V0 rfl rfl (by omega)) rfl<|W5 12 hx (by rfl) rfl (by kernel_rfl) (cn func191) rfl rfl (fun w_ hC_ => word_c _ (ShaM.ext (ShaM.grow j (ShaM.firsts bs 16))) _ hC_ (by omega) (by rw [ShaR.ext_at _ _ hXl]; exact ShaR.add4 _ _ _ _))<|Z4 hx rfl (by decide) (by kernel_rfl) fun w15 h15=>F5 (by rfl) rfl (by kernel_rfl)<|X2 (vs := (([ShaM.ext (ShaM.grow j (ShaM.firsts bs 16))] : List Wd)).map VI) h15 rfl underlying33 inf3 rfl rfl rfl rfl rfl fun lit93 w16 h16=>J0<|I4<|F5 (by rfl) rfl (by kernel_rfl)<|I3 (ys := ([ShaM.ext (ShaM.grow j (ShaM.firsts bs 16))] : List Wd)) 1 h16 rfl rfl rfl rfl underlying33 underlying33 (.inr ⟨_, rfl⟩) inf3 rfl hro (Src.lit h16 0 rfl rfl rfl) rfl rfl (by first | omega | (simp [ShaM.firsts_len, ShaM.grow_len]; done) | (simp [ShaM.firsts_len, ShaM.grow_len]; omega)) (by first | omega | (simp [ShaM.firsts_len, ShaM.grow_len]; done) | (simp [ShaM.firsts_len, ShaM.grow_len]; omega)) ?_⟩
    intro r17 v17 w18 hr17 h18
    simp only [lz, ls] at h18
    replace h18 := h18.drop 0
    simp only [ez, es'] at h18
    refine J0<|I4<|X3 hx (by rfl) (fun w_ => Runs.assign rfl) rfl<|B5 rfl (by kernel_rfl)<|N1<|H0<|L0<|C0 1 rfl<|I0 (V0 rfl rfl (by omega)) rfl<|C0 1 rfl<|J0<|F1 (⟨j + 1, r17, v17⟩ : Nat × Res × Value) (by show 48 - (j + 1) < 48 - j; omega) ⟨rfl, rfl, trivial⟩ ⟨by show j + 1 ≤ _; omega, hr17, h18⟩
  try simp only [DD] at c8
  first
  |(exfalso; omega)
  |skip
   refine U1<|B2<|WX.cut<|E2<|H0<|Wi<|C0 2 rfl<|J0 (H0 (O1 ?_))
   obtain rfl : j = 48 := by omega
   exact ret1 rfl rfl (Row.gives hro hL)
theorem rblock_c (w : World) {Ah Ab : Option Addr} {caph capb : Nat} {bs : List UInt8} (d : D8) (h : St W F cs w) (hRh : RdS (Kd.one VI) F Ah d.list) (hRb : RdS (Kd.one VB) F Ab bs) (hl : bs.length = 64) : Calls prog 181 #[.slice Ah d.list.length caph, .slice Ab bs.length capb] w (Gives W F cs VI ((ShaM.block d bs).list))  := by
 refine enter (args := [.slice Ah d.list.length caph, .slice Ab bs.length capb]) func181 rfl rfl rfl ?_
 obtain ⟨ah, rfl, hrh⟩ := rd1 hRh (by rw [list_len]; omega)
 obtain ⟨ab, rfl, hrb⟩ := rd1 hRb (by omega)
 refine Wi<|C0 1 rfl<|We<|C0 1 rfl<|V1 (cn func188) rfl rfl (rsched_c _ h hrb hl) ?_
 rintro _ w1 ⟨G2, A2, cap2, hle2, rfl, hc2, hrd2, h1⟩
 refine ⟨_, rfl,C0 1 rfl<|We<|V1 (cn func189) rfl rfl (rk_c _ h1) ?_⟩
 rintro _ w3 ⟨G4, A4, cap4, hle4, rfl, hc4, hrd4, h3⟩
 refine ⟨_, rfl,C0 1 rfl<|J0 (H0 (N0 (L0 ?_)))⟩
 have hN4 := h3.nilRes
 refine C0 1 rfl<|We<|C0 2 rfl<|I3 (ys := d.list) 0 hN4 rfl rfl rfl rfl underlying33 underlying33 (.inr ⟨_, rfl⟩) inf3 rfl (Row.nil 3 VI) (Src.rd (hRh.mono (Le.trans hle2 hle4)) hN4 rfl (fun _ => rfl)) rfl rfl (by first | omega | (simp [ShaR.sum8_len, list_len]; done) | (simp [ShaR.sum8_len, list_len]; omega)) (by first | omega | (simp [ShaR.sum8_len, list_len]; done) | (simp [ShaR.sum8_len, list_len]; omega)) ?_
 intro r5 v5 w6 hr5 h6
 simp only [lz, ls] at h6
 refine C0 1 rfl<|J0 (H0 (N0 (N0 (L0 ?_))))
 obtain ⟨G0, A0, cap0, hle0, e0, hc0, hR0, hS0⟩ := Row.gives (cs := cs) hr5 h6
 injection e0 with e0
 subst e0
 obtain ⟨as_, rfl, hs1⟩ := rd1 hrd2 (by rw [ShaM.sched_len]; omega)
 obtain ⟨ak, rfl, hk1⟩ := rd1 hrd4 (by rw [ShaR.K_len]; omega)
 refine C0 1 rfl<|Wj<|B3 (σ := Nat × Snap × Option Addr × Nat) (fun q_ => [(0, .slice (some ah) d.list.length caph), (5, .slice (some as_) (ShaM.sched bs).length cap2), (6, .slice (some ak) ShaM.K.length cap4), (7, .slice q_.2.2.1 (ShaM.rounds (ShaM.sched bs) q_.1 d).list.length q_.2.2.2), (8, .int .i64 (q_.1 : Int))]) (fun q_ w => q_.1 ≤ 64 ∧ Le G4 q_.2.1 ∧ RdS (Kd.one VI) q_.2.1 q_.2.2.1 (ShaM.rounds (ShaM.sched bs) q_.1 d).list ∧ St W q_.2.1 cs w) (fun q_ => 64 - q_.1) (⟨0, G0, A0, cap0⟩) (⟨by omega, hle0, hR0, hS0⟩) ?_
 rintro ⟨i, G, A, cap⟩ w7 ⟨hi, hG, hRv, hL⟩
 try dsimp only at hi hG hRv hL
 refine W2 [(0, .slice (some ah) d.list.length caph), (5, .slice (some as_) (ShaM.sched bs).length cap2), (6, .slice (some ak) ShaM.K.length cap4), (7, .slice A (ShaM.rounds (ShaM.sched bs) i d).list.length cap), (8, .int .i64 (i : Int))] ?_
 generalize hV : (ShaM.rounds (ShaM.sched bs) i d) = V at *
 obtain ⟨av, rfl, hv⟩ := rd1 hRv (by rw [list_len]; omega)
 have hk2 := fun i x (hx : ShaM.K[i]? = some x) => cellF_le hG (hk1 i x hx)
 have hs2 := fun i x (hx : (ShaM.sched bs)[i]? = some x) => cellF_le (Le.trans hle4 hG) (hs1 i x hx)
 have hFG := Le.trans (Le.trans hle2 hle4) hG
 have hrh2 := fun i x (hx : d.list[i]? = some x) => cellF_le hFG (hrh i x hx)
 have b0 := V.h.isLt; have b1 := (ShaR.S1 V.e).isLt; have b2 := (ShaR.ch V.e V.f V.g).isLt; have b3 := (ShaM.K.getD i 0).isLt; have b4 := ((ShaM.sched bs).getD i 0).isLt; have b5 := (ShaR.S0 V.a).isLt; have b6 := (ShaR.mj V.a V.b V.c).isLt; have b7 := V.d.isLt
 refine N0<|Wi<|C0 1 rfl<|I0 (Q1 rfl rfl) rfl<|Wa<|Z0 rfl (fun c8 => ?_) (fun c8 => ?_)
 ·try simp only [DD] at c8
  refine U0<|H0<|N0<|M1<|Wi<|C0 1 rfl<|I0 (W0 underlying33 inf3 rfl rfl (n := 4) (by omega) (by first | omega | (rw [ShaM.sched_len]; omega) | (rw [ShaR.K_len]; omega) | (rw [list_len]; omega))) rfl<|I0 (R0 (n := (V.e.toNat : Int)) (I1 (f := VI) (0 : Wd) hL hv (n := 4) (by rw [list_len]; omega) underlying3 rfl rfl) rfl) rfl<|C0 1 rfl<|We<|C0 1 rfl<|I0 (W0 underlying33 inf3 rfl rfl (n := 0) (by omega) (by first | omega | (rw [ShaM.sched_len]; omega) | (rw [ShaR.K_len]; omega) | (rw [list_len]; omega))) rfl<|I0 (R0 (n := (V.a.toNat : Int)) (I1 (f := VI) (0 : Wd) hL hv (n := 0) (by rw [list_len]; omega) underlying3 rfl rfl) rfl) rfl<|C0 1 rfl<|We<|C0 1 rfl<|I0 (Runs.notI rfl) rfl<|C0 1 rfl<|Wb<|T2 (C := fun w_ => St W _ _ w_) mixed (by kernel_rfl) (hL.drew)<|M2 1 rfl<|X0 (fun w_ hC_ => W0 underlying33 inf3 rfl rfl (n := 7) (by omega) (by first | omega | (rw [ShaM.sched_len]; omega) | (rw [ShaR.K_len]; omega) | (rw [list_len]; omega))) rfl<|X0 (fun w_ hC_ => R0 (n := (V.h.toNat : Int)) (I1 (f := VI) (0 : Wd) hC_ hv (n := 7) (by rw [list_len]; omega) underlying3 rfl rfl) rfl) rfl<|M2 1 rfl<|H4 (cn func190) rfl rfl (fun w_ hC_ => rrot_c _ _ 6 hC_ (by decide))<|M2 1 rfl<|H4 (cn func190) rfl rfl (fun w_ hC_ => rrot_c _ _ 11 hC_ (by decide))<|X0 (fun w_ hC_ => X4 rfl rfl) rfl<|M2 1 rfl<|H4 (cn func190) rfl rfl (fun w_ hC_ => rrot_c _ _ 25 hC_ (by decide))<|X0 (fun w_ hC_ => R0 (n := ((ShaR.S1 V.e).toNat : Int)) (X4 rfl rfl) rfl) rfl<|X0 (fun w_ hC_ => V0 rfl rfl (by omega)) rfl<|M2 2 rfl<|X0 (fun w_ hC_ => W0 underlying33 inf3 rfl rfl (n := 5) (by omega) (by first | omega | (rw [ShaM.sched_len]; omega) | (rw [ShaR.K_len]; omega) | (rw [list_len]; omega))) rfl<|X0 (fun w_ hC_ => R0 (n := (V.f.toNat : Int)) (I1 (f := VI) (0 : Wd) hC_ hv (n := 5) (by rw [list_len]; omega) underlying3 rfl rfl) rfl) rfl<|X0 (fun w_ hC_ => J6 rfl rfl) rfl<|M2 2 rfl<|X0 (fun w_ hC_ => W0 underlying33 inf3 rfl rfl (n := 6) (by omega) (by first | omega | (rw [ShaM.sched_len]; omega) | (rw [ShaR.K_len]; omega) | (rw [list_len]; omega))) rfl<|X0 (fun w_ hC_ => R0 (n := (V.g.toNat : Int)) (I1 (f := VI) (0 : Wd) hC_ hv (n := 6) (by rw [list_len]; omega) underlying3 rfl rfl) rfl) rfl<|X0 (fun w_ hC_ => J6 rfl rfl) rfl<|X0 (fun w_ hC_ => R0 (n := ((ShaR.ch V.e V.f V.g).toNat : Int)) (X4 rfl rfl) rfl) rfl<|X0 (fun w_ hC_ => V0 rfl rfl (by omega)) rfl<|M2 2 rfl<|X0 (fun w_ hC_ => W0 underlying33 inf3 rfl rfl (n := i) (by omega) (by first | omega | (rw [ShaM.sched_len]; omega) | (rw [ShaR.K_len]; omega) | (rw [list_len]; omega))) rfl<|X0 (fun w_ hC_ => I1 (f := VI) (0 : Wd) hC_ hk2 (n := i) (by rw [ShaR.K_len]; omega) underlying3 rfl rfl) rfl<|X0 (fun w_ hC_ => V0 rfl rfl (by omega)) rfl<|M2 2 rfl<|X0 (fun w_ hC_ => W0 underlying33 inf3 rfl rfl (n := i) (by omega) (by first | omega | (rw [ShaM.sched_len]; omega) | (rw [ShaR.K_len]; omega) | (rw [list_len]; omega))) rfl<|X0 (fun w_ hC_ => I1 (f := VI) (0 : Wd) hC_ hs2 (n := i) (by rw [ShaM.sched_len]; omega) underlying3 rfl rfl) rfl<|X0 (fun w_ hC_ => V0 rfl rfl (by omega)) rfl<|M2 1 rfl<|K3 fun w9 h9=>H0<|N0<|T2 (C := fun w_ => St W _ _ w_) mixed (by kernel_rfl) (h9.drew)<|M2 1 rfl<|H4 (cn func190) rfl rfl (fun w_ hC_ => rrot_c _ _ 2 hC_ (by decide))<|M2 1 rfl<|H4 (cn func190) rfl rfl (fun w_ hC_ => rrot_c _ _ 13 hC_ (by decide))<|X0 (fun w_ hC_ => X4 rfl rfl) rfl<|M2 1 rfl<|H4 (cn func190) rfl rfl (fun w_ hC_ => rrot_c _ _ 22 hC_ (by decide))<|X0 (fun w_ hC_ => R0 (n := ((ShaR.S0 V.a).toNat : Int)) (X4 rfl rfl) rfl) rfl<|M2 2 rfl<|X0 (fun w_ hC_ => W0 underlying33 inf3 rfl rfl (n := 1) (by omega) (by first | omega | (rw [ShaM.sched_len]; omega) | (rw [ShaR.K_len]; omega) | (rw [list_len]; omega))) rfl ?_
  refine X0 (fun w_ hC_ => R0 (n := (V.b.toNat : Int)) (I1 (f := VI) (0 : Wd) hC_ hv (n := 1) (by rw [list_len]; omega) underlying3 rfl rfl) rfl) rfl<|X0 (fun w_ hC_ => J6 rfl rfl) rfl<|M2 2 rfl<|X0 (fun w_ hC_ => W0 underlying33 inf3 rfl rfl (n := 2) (by omega) (by first | omega | (rw [ShaM.sched_len]; omega) | (rw [ShaR.K_len]; omega) | (rw [list_len]; omega))) rfl<|X0 (fun w_ hC_ => R0 (n := (V.c.toNat : Int)) (I1 (f := VI) (0 : Wd) hC_ hv (n := 2) (by rw [list_len]; omega) underlying3 rfl rfl) rfl) rfl<|X0 (fun w_ hC_ => J6 rfl rfl) rfl<|X0 (fun w_ hC_ => X4 rfl rfl) rfl<|M2 1 rfl<|X0 (fun w_ hC_ => W0 underlying33 inf3 rfl rfl (n := 1) (by omega) (by first | omega | (rw [ShaM.sched_len]; omega) | (rw [ShaR.K_len]; omega) | (rw [list_len]; omega))) rfl<|X0 (fun w_ hC_ => R0 (n := (V.b.toNat : Int)) (I1 (f := VI) (0 : Wd) hC_ hv (n := 1) (by rw [list_len]; omega) underlying3 rfl rfl) rfl) rfl<|M2 1 rfl<|X0 (fun w_ hC_ => W0 underlying33 inf3 rfl rfl (n := 2) (by omega) (by first | omega | (rw [ShaM.sched_len]; omega) | (rw [ShaR.K_len]; omega) | (rw [list_len]; omega))) rfl<|X0 (fun w_ hC_ => R0 (n := (V.c.toNat : Int)) (I1 (f := VI) (0 : Wd) hC_ hv (n := 2) (by rw [list_len]; omega) underlying3 rfl rfl) rfl) rfl<|X0 (fun w_ hC_ => J6 rfl rfl) rfl<|X0 (fun w_ hC_ => R0 (n := ((ShaR.mj V.a V.b V.c).toNat : Int)) (X4 rfl rfl) rfl) rfl<|X0 (fun w_ hC_ => V0 rfl rfl (by omega)) rfl<|M2 1 rfl<|K3 fun w10 h10=>H0<|Q4 (fun w_ => St W _ _ w_) (fun k => Nat.beq k 28) mixed (by kernel_rfl) (h10.drew)<|fun hx =>K4 hx 2 rfl<|F2 hx (by rfl) rfl (fun w_ => V0 rfl rfl (by omega)) rfl<|W5 14 hx (by rfl) rfl (by kernel_rfl) (cn func191) rfl rfl (fun w_ hC_ => word_c _ (ShaM.tt (ShaM.K.getD i 0) ((ShaM.sched bs).getD i 0) V + ShaM.uu V) _ hC_ (by omega) (ShaR.word_a (ShaM.K.getD i 0) ((ShaM.sched bs).getD i 0) V))<|K4 hx 1 rfl<|F2 hx (by rfl) rfl (fun w_ => W0 underlying33 inf3 rfl rfl (n := 0) (by omega) (by first | omega | (rw [ShaM.sched_len]; omega) | (rw [ShaR.K_len]; omega) | (rw [list_len]; omega))) rfl<|W3 14 hx (by rfl) rfl (by kernel_rfl) (fun w_ hC_ => R0 (n := (V.a.toNat : Int)) (I1 (f := VI) (0 : Wd) hC_ hv (n := 0) (by rw [list_len]; omega) underlying3 rfl rfl) rfl) rfl<|K4 hx 1 rfl<|F2 hx (by rfl) rfl (fun w_ => W0 underlying33 inf3 rfl rfl (n := 1) (by omega) (by first | omega | (rw [ShaM.sched_len]; omega) | (rw [ShaR.K_len]; omega) | (rw [list_len]; omega))) rfl<|W3 14 hx (by rfl) rfl (by kernel_rfl) (fun w_ hC_ => R0 (n := (V.b.toNat : Int)) (I1 (f := VI) (0 : Wd) hC_ hv (n := 1) (by rw [list_len]; omega) underlying3 rfl rfl) rfl) rfl<|K4 hx 1 rfl<|F2 hx (by rfl) rfl (fun w_ => W0 underlying33 inf3 rfl rfl (n := 2) (by omega) (by first | omega | (rw [ShaM.sched_len]; omega) | (rw [ShaR.K_len]; omega) | (rw [list_len]; omega))) rfl<|W3 14 hx (by rfl) rfl (by kernel_rfl) (fun w_ hC_ => R0 (n := (V.c.toNat : Int)) (I1 (f := VI) (0 : Wd) hC_ hv (n := 2) (by rw [list_len]; omega) underlying3 rfl rfl) rfl) rfl<|K4 hx 1 rfl<|F2 hx (by rfl) rfl (fun w_ => W0 underlying33 inf3 rfl rfl (n := 3) (by omega) (by first | omega | (rw [ShaM.sched_len]; omega) | (rw [ShaR.K_len]; omega) | (rw [list_len]; omega))) rfl<|W3 14 hx (by rfl) rfl (by kernel_rfl) (fun w_ hC_ => R0 (n := (V.d.toNat : Int)) (I1 (f := VI) (0 : Wd) hC_ hv (n := 3) (by rw [list_len]; omega) underlying3 rfl rfl) rfl) rfl<|K4 hx 1 rfl<|F2 hx (by rfl) rfl (fun w_ => V0 rfl rfl (by omega)) rfl<|W5 14 hx (by rfl) rfl (by kernel_rfl) (cn func191) rfl rfl (fun w_ hC_ => word_c _ (V.d + ShaM.tt (ShaM.K.getD i 0) ((ShaM.sched bs).getD i 0) V) _ hC_ (by omega) (ShaR.word_d (ShaM.K.getD i 0) ((ShaM.sched bs).getD i 0) V))<|K4 hx 1 rfl<|F2 hx (by rfl) rfl (fun w_ => W0 underlying33 inf3 rfl rfl (n := 4) (by omega) (by first | omega | (rw [ShaM.sched_len]; omega) | (rw [ShaR.K_len]; omega) | (rw [list_len]; omega))) rfl<|W3 14 hx (by rfl) rfl (by kernel_rfl) (fun w_ hC_ => R0 (n := (V.e.toNat : Int)) (I1 (f := VI) (0 : Wd) hC_ hv (n := 4) (by rw [list_len]; omega) underlying3 rfl rfl) rfl) rfl<|K4 hx 1 rfl<|F2 hx (by rfl) rfl (fun w_ => W0 underlying33 inf3 rfl rfl (n := 5) (by omega) (by first | omega | (rw [ShaM.sched_len]; omega) | (rw [ShaR.K_len]; omega) | (rw [list_len]; omega))) rfl<|W3 14 hx (by rfl) rfl (by kernel_rfl) (fun w_ hC_ => R0 (n := (V.f.toNat : Int)) (I1 (f := VI) (0 : Wd) hC_ hv (n := 5) (by rw [list_len]; omega) underlying3 rfl rfl) rfl) rfl<|K4 hx 1 rfl<|F2 hx (by rfl) rfl (fun w_ => W0 underlying33 inf3 rfl rfl (n := 6) (by omega) (by first | omega | (rw [ShaM.sched_len]; omega) | (rw [ShaR.K_len]; omega) | (rw [list_len]; omega))) rfl ?_
  refine W3 14 hx (by rfl) rfl (by kernel_rfl) (fun w_ hC_ => R0 (n := (V.g.toNat : Int)) (I1 (f := VI) (0 : Wd) hC_ hv (n := 6) (by rw [list_len]; omega) underlying3 rfl rfl) rfl) rfl<|Z4 hx rfl (by decide) (by kernel_rfl) fun w11 h11=>F5 (by rfl) rfl (by kernel_rfl)<|X2 (vs := ((ShaM.rnd (ShaM.K.getD i 0) ((ShaM.sched bs).getD i 0) V).list).map VI) h11 rfl underlying33 inf3 rfl rfl rfl rfl rfl fun lit124 w12 h12=>J0<|I4<|X3 hx (by rfl) (fun w_ => Runs.assign rfl) rfl<|B5 rfl (by kernel_rfl)<|N1<|H0<|L0<|C0 1 rfl<|I0 (V0 rfl rfl (by omega)) rfl<|C0 1 rfl<|J0 ?_
  obtain ⟨G2, g1, g2, g3⟩ := St.litRd (f := VI) (xs := (ShaM.rnd (ShaM.K.getD i 0) ((ShaM.sched bs).getD i 0) V).list) h12
  refine F1 (⟨i + 1, G2, _, _⟩ : Nat × Snap × Option Addr × Nat) (by show 64 - (i + 1) < 64 - i; omega) ⟨rfl, rfl, rfl, rfl, rfl, trivial⟩ ⟨by show i + 1 ≤ _; omega, Le.trans hG g1, ?_, g3⟩
  show RdS _ _ _ (ShaM.rnd (ShaM.K.getD i 0) ((ShaM.sched bs).getD i 0) (ShaM.rounds (ShaM.sched bs) i d)).list
  rw [hV]
  exact g2
 try simp only [DD] at c8
 refine U1<|B2<|WX.cut<|E2<|H0<|N0<|L0 ?_
 have hN12 := hL.nilRes
 refine C0 1 rfl<|Wh<|C0 1 rfl<|Wj<|B3 (σ := Nat × Res × Value) (fun q_ => [(0, .slice (some ah) d.list.length caph), (7, .slice (some av) V.list.length cap), (14, q_.2.2), (15, .int .i64 (q_.1 : Int))]) (fun q_ w => q_.1 ≤ 8 ∧ Row 3 VI q_.2.1 q_.2.2 ((ShaR.sum8 d V).take q_.1) ∧ St W G (q_.2.1 :: cs) w) (fun q_ => 8 - q_.1) (⟨0, [], .slice none 0 0⟩) (⟨by omega, Row.nil _ _, hN12⟩) ?_
 rintro ⟨j, r, v⟩ w13 ⟨hj, hro, hL⟩
 try dsimp only at hj hro hL
 refine W2 [(0, .slice (some ah) d.list.length caph), (7, .slice (some av) V.list.length cap), (14, v), (15, .int .i64 (j : Int))] ?_
 obtain ⟨A1, cap1, rfl, hcap⟩ := hro.val
 have hlen : ((ShaR.sum8 d V).take j).length = j := by rw [List.length_take, ShaR.sum8_len]; omega
 have b8 := (d.list.getD j 0).isLt
 have b9 := (V.list.getD j 0).isLt
 refine N0<|Wi<|C0 1 rfl<|I0 (Q1 rfl rfl) rfl<|Wa<|Z0 rfl (fun c14 => ?_) (fun c14 => ?_)
 ·try simp only [DD] at c14
  refine U0<|H0<|N0<|M1<|Q4 (fun w_ => St W _ _ w_) (fun k => Nat.beq k 11 || Nat.beq k 12) mixed (by kernel_rfl) (hL.drew)<|fun hx =>K4 hx 3 rfl<|F2 hx (by rfl) rfl (fun w_ => W0 underlying33 inf3 rfl rfl (n := j) (by omega) (by first | omega | (rw [ShaM.sched_len]; omega) | (rw [ShaR.K_len]; omega) | (rw [list_len]; omega))) rfl<|W3 14 hx (by rfl) rfl (by kernel_rfl) (fun w_ hC_ => I1 (f := VI) (0 : Wd) hC_ hrh2 (n := j) (by rw [list_len]; omega) underlying3 rfl rfl) rfl<|K4 hx 2 rfl<|F2 hx (by rfl) rfl (fun w_ => W0 underlying33 inf3 rfl rfl (n := j) (by omega) (by first | omega | (rw [ShaM.sched_len]; omega) | (rw [ShaR.K_len]; omega) | (rw [list_len]; omega))) rfl<|W3 14 hx (by rfl) rfl (by kernel_rfl) (fun w_ hC_ => I1 (f := VI) (0 : Wd) hC_ hv (n := j) (by rw [list_len]; omega) underlying3 rfl rfl) rfl<|F2 hx (by rfl) rfl (fun w_ => V0 rfl rfl (by omega)) rfl<|W5 14 hx (by rfl) rfl (by kernel_rfl) (cn func191) rfl rfl (fun w_ hC_ => word_c _ (d.list.getD j 0 + V.list.getD j 0) _ hC_ (by omega) (ShaR.add2 _ _))<|Z4 hx rfl (by decide) (by kernel_rfl) fun w15 h15=>F5 (by rfl) rfl (by kernel_rfl)<|X2 (vs := (([d.list.getD j 0 + V.list.getD j 0] : List Wd)).map VI) h15 rfl underlying33 inf3 rfl rfl rfl rfl rfl fun lit140 w16 h16=>J0<|I4<|F5 (by rfl) rfl (by kernel_rfl)<|I3 (ys := ([d.list.getD j 0 + V.list.getD j 0] : List Wd)) 1 h16 rfl rfl rfl rfl underlying33 underlying33 (.inr ⟨_, rfl⟩) inf3 rfl hro (Src.lit h16 0 rfl rfl rfl) rfl rfl (by first | omega | (simp [ShaR.sum8_len, list_len]; done) | (simp [ShaR.sum8_len, list_len]; omega)) (by first | omega | (simp [ShaR.sum8_len, list_len]; done) | (simp [ShaR.sum8_len, list_len]; omega)) ?_
  intro r17 v17 w18 hr17 h18
  simp only [lz, ls] at h18
  replace h18 := h18.drop 0
  simp only [ez, es'] at h18
  refine J0<|I4<|X3 hx (by rfl) (fun w_ => Runs.assign rfl) rfl<|B5 rfl (by kernel_rfl)<|N1<|H0<|L0<|C0 1 rfl<|I0 (V0 rfl rfl (by omega)) rfl<|C0 1 rfl<|J0<|F1 (⟨j + 1, r17, v17⟩ : Nat × Res × Value) (by show 8 - (j + 1) < 8 - j; omega) ⟨rfl, rfl, rfl, rfl, trivial⟩ ⟨by show j + 1 ≤ _; omega, ?_, h18⟩
  have := hr17
  rwa [← ShaR.sum8_at d V (by omega), take_next _ (by rw [ShaR.sum8_len]; omega)] at this
 try simp only [DD] at c14
 refine U1<|B2<|WX.cut<|E2<|H0<|Wi<|C0 2 rfl<|J0 (H0 (O1 ?_))
 obtain rfl : i = 64 := by omega
 obtain rfl : j = 8 := by omega
 subst hV
 rw [List.take_of_length_le (by rw [ShaR.sum8_len]; omega), ← ShaR.block_list] at hro
 obtain ⟨G3, A3, c3, g1, g2, g3, g4, g5⟩ := Row.gives hro hL
 exact ret1 rfl rfl ⟨G3, A3, c3, Le.trans hFG g1, g2, g3, g4, g5⟩
end Sha
end
end Go.Proofs.YtifdpllfbaogcaaGreat
