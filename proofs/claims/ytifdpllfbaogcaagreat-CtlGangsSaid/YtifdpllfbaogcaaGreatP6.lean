/- Joined texts: Z10 .. Z10. -/
import Derived.Test.YtifdpllfbaogcaaGreatP5
import Derived.KernelRfl
set_option linter.unusedVariables false
set_option linter.unusedSimpArgs false
set_option maxRecDepth 100000
set_option maxHeartbeats 32000000
namespace Go.Proofs.YtifdpllfbaogcaaGreat
open Go Go.RowKit B Tryz
variable {W : World} {F : Snap}
open Dg (S E S0 E0 KS KE chkM settleM readyM overM withM okAll)
open Tal (T TR RR okN)
open Wir (M encB decB mayM mayN numB textB)
open Cr (C signM)
namespace Ct
theorem can25 : B.Can prog 25 := ⟨_, func25, by kernel_rfl, rfl⟩
theorem can26 : B.Can prog 26 := ⟨_, func26, by kernel_rfl, rfl⟩
theorem sub_nil {ns : List Int} {ss : List S} {a er : Int} {js' : List J} (h : subM [] ns ss = ((a, er), js')) : (er = 0 → js' = [newJ ns ss 0]) ∧ (¬ er = 0 → js' = []) := by
 unfold subM at h
 split at h
 ·injection h with h1 h2
  injection h1 with _ h1
  subst h1 h2
  exact ⟨fun _ => rfl, fun hh => absurd rfl hh⟩
 ·rename_i h0
  injection h with h1 h2
  injection h1 with _ h1
  subst h1 h2
  exact ⟨fun hh => absurd hh h0, fun _ => rfl⟩
theorem gang_new (ns : List Int) (ss : List S) (n : Nat) : (newJ ns ss n).gang [] := by
 have e : ∀ i, (newJ ns ss n).ts.getD i none = none := fun i => by
  show (List.replicate ss.length (none : Option T)).getD i none = none
  rw [List.getD_eq_getElem?_getD, List.getElem?_replicate]
  split <;> rfl
 exact ⟨fun i t h => (by rw [e] at h; cases h), fun i t h => (by rw [e] at h; cases h)⟩
theorem sm4 (ns : List Int) (ss : List S) (l : List (List UInt8)) : 30 < ns.length ∨ (ns.length ≤ 30 ∧ ¬ Dg.smallL ss) ∨ (ns.length ≤ 30 ∧ Dg.smallL ss ∧ 60 < l.length) ∨ (ns.length ≤ 30 ∧ Dg.smallL ss ∧ l.length ≤ 60) := by
 by_cases h : Dg.smallL ss
 ·by_cases h1 : ns.length ≤ 30 <;> by_cases h2 : l.length ≤ 60
  ·exact .inr (.inr (.inr ⟨h1, h, h2⟩))
  ·exact .inr (.inr (.inl ⟨h1, h, by omega⟩))
  ·exact .inl (by omega)
  ·exact .inl (by omega)
 ·by_cases h1 : ns.length ≤ 30
  ·exact .inr (.inl ⟨h1, h⟩)
  ·exact .inl (by omega)
theorem qdec_x {cs : List Res} (w : World) (l : List UInt8) (h : St W F cs w) (hl : l.length ≤ 9223372036854775807) : Calls prog 15 #[.string (bs l)] w fun r w' => ∃ m ec, decB l = (m, ec) ∧ r = .returned (.tuple #[.agg #[Vi m.k, Vi m.f, Vi m.t, Vi m.j, Vi m.ep, Vi m.st, Vi m.ar, .string (bs m.tx)], Vi ec]) ∧ St W F cs w' := (Wir.qdec_c w l h hl).mono fun r w' ⟨h1, h2⟩ => ⟨(decB l).1, (decB l).2, rfl, h1, h2⟩
theorem gang_row {cs : List Res} (w : World) {i n cap cap2 cap3 : Nat} {A B C : Option Addr} {ns : List Int} {ss : List S} {ro : Res} {ys : List M} {q : M} (h : St W F cs w) (hi : cs[i]? = some ro) (hr : RowM 42 8 mC ro (.slice C n cap3) ys) (hn : n = ys.length) (hA : RdS (Kd.one Vi) F A ns) (hnl : ns.length ≤ 100000) (hyl : ys.length ≤ 100000) (hall : ∀ k, k < ns.length → ∃ m ∈ ys, m.f = ns.getD k 0 ∧ m.st = q.st ∧ m.ep = q.ep) : Calls prog 25 #[.agg #[.slice A ns.length cap, .slice B ss.length cap2], .slice C n cap3, .agg #[Vi q.k, Vi q.f, Vi q.t, Vi q.j, Vi q.ep, Vi q.st, Vi q.ar, .string (bs q.tx)]] w fun r w' => r = .returned (.bool true) ∧ St W F cs w' := by
 subst hn
 obtain ⟨G, hG, hf, hS⟩ := h.freeze hi
 refine (gang_c w hS (hA.mono hG) (RowM.read (f := mC) (m := 8) (fun _ => rfl) hr rfl hf) hnl hyl hall).mono ?_
 rintro e w' ⟨rfl, hS2⟩
 exact ⟨rfl, St.thaw (new := []) h hi hf hG hS2⟩
theorem outG_enc {js : List J} {key : List UInt8} {now : Int} {m : Nat} (hm : m < (outM js key now).length) : ((outM js key now).getD m []).length ≤ 9223372036854775807 := by
 have h := getD_mem (d := []) hm
 unfold outM at h ⊢
 obtain ⟨q, _, e⟩ := List.mem_map.1 h
 rw [← e]
 exact Nat.le_trans (encB_len q) (by decide)
theorem nx5 (t : Bool) (a b c : Prop) : t = false ∨ (t = true ∧ ¬ a) ∨ (t = true ∧ a ∧ ¬ b) ∨ (t = true ∧ a ∧ b ∧ ¬ c) ∨ (t = true ∧ a ∧ b ∧ c) := by
 by_cases ha : a <;> by_cases hb : b <;> by_cases hc : c <;> cases t <;> simp [ha, hb, hc]
theorem gangs_law {cs : List Res} (w : World) {A B C : Option Addr} {cap cap2 cap3 : Nat} {ns : List Int} {ss : List S} {l : List (List UInt8)} (h : St W F cs w) (hA : RdS (Kd.one Vi) F A ns) (hB : RdS KS F B ss) (hT : RdS (Kd.one sB) F C l) (hnl : ns.length ≤ 9223372036854775807) (hsl : ss.length ≤ 9223372036854775807) (hl : l.length ≤ 9223372036854775807) (htl : ∀ x ∈ l, x.length ≤ 9223372036854775807) : Calls prog 7 #[.agg #[.slice A ns.length cap, .slice B ss.length cap2], .slice C l.length cap3] w fun r w' => r = .returned (.bool true) ∧ St W F cs w'  := by
 refine enter (args := [.agg #[.slice A ns.length cap, .slice B ss.length cap2], .slice C l.length cap3]) func7 rfl rfl rfl ?_
 have hleF : Le F F := Le.refl F
 refine Wi<|WL.box rfl h rfl fun b2 w1 h1=>WL.e 1 rfl<|WL.nil (H0 (L0 (L0 ?_)))
 obtain ⟨G0, hG0, hfr0, h1⟩ := h1.freeze (i := 0) rfl
 have hfz2 : G0 b2 = some (.cells #[.slice A ns.length cap, .slice B ss.length cap2] 36 (0, 0)) := hfr0 _ List.mem_cons_self
 replace h1 : St W G0 (cs) w1 := h1
 replace hleF := Le.trans hleF hG0
 replace hA := hA.mono hG0
 replace hB := hB.mono hG0
 replace hT := hT.mono hG0
 rcases sm4 ns ss l with g1 | ⟨g1, g2⟩ | ⟨g1, g2, g3⟩ | ⟨g1, g2, g3⟩
 ·skip
  refine K0<|WL.e 1 rfl<|C0 (I0 underlying33 rfl rfl (h1.cell (cellB hfz2 rfl))) rfl<|C0 (N0 (n := (ns.length : Int)) (R0 underlying33 rfl rfl) rfl) rfl<|C0 (Bt (X1 rfl rfl) (decide_eq_true (by omega))) rfl<|WL.e 11 rfl<|Wa<|B1 rfl (rfl)<|Wi<|WL.cv can11 rfl rfl (live_c _ h1) fun w2 ⟨G2, hG2, h2⟩ => ?_
  replace hleF := Le.trans hleF hG2
  replace hA := hA.mono hG2
  replace hB := hB.mono hG2
  replace hT := hT.mono hG2
  replace hfz2 := hG2 _ _ hfz2
  refine WL.e 1 rfl<|Wg<|ret1 rfl rfl ⟨rfl, h2.weak hleF⟩
 ·skip
  refine K0<|WL.e 1 rfl<|C0 (I0 underlying33 rfl rfl (h1.cell (cellB hfz2 rfl))) rfl<|C0 (N0 (n := (ns.length : Int)) (R0 underlying33 rfl rfl) rfl) rfl<|C0 (Bf (X1 rfl rfl) (decide_eq_false (by omega))) rfl<|WL.e 2 rfl<|WL.gn rfl<|C0 (I0 underlying34 rfl rfl (h1.cell (cellB hfz2 rfl))) rfl<|WL.gn rfl<|WL.cv can23 rfl rfl (Dg.small_c _ h1 hB hsl) fun w3 h3 =>WL.gn rfl<|C0 (Bt (E1 rfl) (by rw [decide_eq_false g2]; rfl)) rfl<|WL.e 6 rfl<|Wa<|B1 rfl (rfl)<|Wi<|WL.cv can11 rfl rfl (live_c _ h3) fun w4 ⟨G4, hG4, h4⟩ => ?_
  replace hleF := Le.trans hleF hG4
  replace hA := hA.mono hG4
  replace hB := hB.mono hG4
  replace hT := hT.mono hG4
  replace hfz2 := hG4 _ _ hfz2
  refine WL.e 1 rfl<|Wg<|ret1 rfl rfl ⟨rfl, h4.weak hleF⟩
 ·skip
  refine K0<|WL.e 1 rfl<|C0 (I0 underlying33 rfl rfl (h1.cell (cellB hfz2 rfl))) rfl<|C0 (N0 (n := (ns.length : Int)) (R0 underlying33 rfl rfl) rfl) rfl<|C0 (Bf (X1 rfl rfl) (decide_eq_false (by omega))) rfl<|WL.e 2 rfl<|WL.gn rfl<|C0 (I0 underlying34 rfl rfl (h1.cell (cellB hfz2 rfl))) rfl<|WL.gn rfl<|WL.cv can23 rfl rfl (Dg.small_c _ h1 hB hsl) fun w5 h5 =>WL.gn rfl<|C0 (Bf (E1 rfl) (by rw [decide_eq_true g2]; rfl)) rfl<|WL.e 3 rfl<|WL.gn rfl<|C0 (N0 (n := (l.length : Int)) (R0 underlying39 rfl rfl) rfl) rfl<|WL.gn rfl<|C0 (Bt (X1 rfl rfl) (decide_eq_true (by omega))) rfl<|WL.e 1 rfl<|Wa<|B1 rfl (rfl)<|Wi<|WL.cv can11 rfl rfl (live_c _ h5) fun w6 ⟨G6, hG6, h6⟩ => ?_
  replace hleF := Le.trans hleF hG6
  replace hA := hA.mono hG6
  replace hB := hB.mono hG6
  replace hT := hT.mono hG6
  replace hfz2 := hG6 _ _ hfz2
  refine WL.e 1 rfl<|Wg<|ret1 rfl rfl ⟨rfl, h6.weak hleF⟩
 ·skip
  refine K0<|WL.e 1 rfl<|C0 (I0 underlying33 rfl rfl (h1.cell (cellB hfz2 rfl))) rfl<|C0 (N0 (n := (ns.length : Int)) (R0 underlying33 rfl rfl) rfl) rfl<|C0 (Bf (X1 rfl rfl) (decide_eq_false (by omega))) rfl<|WL.e 2 rfl<|WL.gn rfl<|C0 (I0 underlying34 rfl rfl (h1.cell (cellB hfz2 rfl))) rfl<|WL.gn rfl<|WL.cv can23 rfl rfl (Dg.small_c _ h1 hB hsl) fun w7 h7 =>WL.gn rfl<|C0 (Bf (E1 rfl) (by rw [decide_eq_true g2]; rfl)) rfl<|WL.e 3 rfl<|WL.gn rfl<|C0 (N0 (n := (l.length : Int)) (R0 underlying39 rfl rfl) rfl) rfl<|WL.gn rfl<|C0 (Bf (X1 rfl rfl) (decide_eq_false (by omega))) rfl<|WL.e 1 rfl<|Wa<|V0 rfl (rfl)<|Wk<|H1 can12 rfl rfl (new_c _ [107] h7) ?_
  rintro _ w8 ⟨bk, rk, rfl, hC0, h8⟩
  refine ⟨_, rfl,WL.e 1 rfl<|Wh<|WL.e 1 rfl<|C0 (V1 underlying25 rfl rfl) rfl<|Wa<|V0 rfl (rfl)<|O0 (H0 (L0 ?_))⟩
  obtain ⟨hfe, hsl2⟩ := g2.few
  rcases hsub : subM [] ns ss with ⟨⟨a, er⟩, js1⟩
  have hok1 := okJ.sub okJ.nil ns ss
  rw [hsub] at hok1
  replace hok1 : okJ js1 := hok1
  have hsn := sub_nil hsub
  by_cases her : er = 0
  ·obtain rfl := hsn.1 her
   refine K0<|WL.e 1 rfl<|C0 (V2 h8 hfz2 underlying36 rfl inf36 rfl rfl) rfl<|WL.cv can24 rfl rfl (submit_e _ hsub h8 hC0 okJ.nil hA hB (by omega) (by omega) hfe) fun w9 ⟨G1, r1, hG1, hC, h9⟩ => ?_
   replace hleF := Le.trans hleF hG1
   replace hA := hA.mono hG1
   replace hB := hB.mono hG1
   replace hT := hT.mono hG1
   replace hfz2 := hG1 _ _ hfz2
   refine WL.e 5 rfl<|Wh<|WL.e 1 rfl<|C0 (Bf (Z1 rfl rfl) (by rw [decide_eq_true her]; rfl)) rfl<|Wa<|V0 rfl (rfl)<|Wk<|WL.e 1 rfl<|WL.nil (H0 (L0 (L0 ?_)))
   replace h9 := h9.nilRes
   replace h9 : St W G1 (r1 :: [] :: cs) w9 := St.perm h9 (List.Perm.swap _ _ _)
   refine K0<|WL.e 1 rfl<|Wj<|WC.lp (σ := Nat × J × Snap × Res × Res × List M × Option Addr × Nat) (fun q_ => [(1, .slice C l.length cap3), (2, .pointer (some ⟨b2, 0, none⟩)), (5, .pointer (some ⟨bk, 0, none⟩)), (8, .slice q_.2.2.2.2.2.2.1 q_.2.2.2.2.2.1.length q_.2.2.2.2.2.2.2), (9, .int .i64 (q_.1 : Int))]) (fun q_ w => q_.1 ≤ l.length ∧ Le G1 q_.2.2.1 ∧ CtlR q_.2.2.1 q_.2.2.2.1 bk [107] [q_.2.1] ∧ okJ [q_.2.1] ∧ q_.2.1.ns = ns ∧ q_.2.1.ss = ss ∧ q_.2.1.gang q_.2.2.2.2.2.1 ∧ q_.2.2.2.2.2.1.length ≤ q_.1 ∧ RowM 42 8 mC q_.2.2.2.2.1 (.slice q_.2.2.2.2.2.2.1 q_.2.2.2.2.2.1.length q_.2.2.2.2.2.2.2) q_.2.2.2.2.2.1 ∧ St W q_.2.2.1 (q_.2.2.2.1 :: q_.2.2.2.2.1 :: cs) w) (fun q_ => l.length - q_.1) (⟨0, newJ ns ss 0, G1, r1, [], [], none, 0⟩) (⟨Nat.zero_le _, Le.refl _, hC, hok1, rfl, rfl, gang_new _ _ _, Nat.zero_le _, RowM.nil _ _ _, h9⟩) ?_
   rintro ⟨i, x, G, r2, ro, ys, Ay, cy⟩ w10 ⟨hi, hle0, hC, hok, hns, hss, hga, hyl, hro, hL⟩
   try dsimp only at hi hle0 hC hok hns hss hga hyl hro hL
   refine O2 [(1, .slice C l.length cap3), (2, .pointer (some ⟨b2, 0, none⟩)), (5, .pointer (some ⟨bk, 0, none⟩)), (8, .slice Ay ys.length cy), (9, .int .i64 (i : Int))] ?_
   replace hleF := Le.trans hleF hle0
   replace hA := hA.mono hle0
   replace hB := hB.mono hle0
   replace hT := hT.mono hle0
   replace hfz2 := hle0 _ _ hfz2
   refine L0<|Wi<|WL.e 2 rfl<|C0 (N0 (n := (l.length : Int)) (R0 underlying39 rfl rfl) rfl) rfl<|WL.e 1 rfl<|Wa<|U0 rfl (fun c11 => ?_) (fun c11 => ?_)
   ·try simp only [DD] at c11
    refine O0 (H0 (L0 (WC.block (L0 ?_))))
    have hi2 : i < l.length := by omega
    obtain ⟨at_, hTa, hrt⟩ := rd1 hT (by omega)
    refine K0<|WL.e 2 rfl<|C0 (S2 hTa underlying39 inf9 rfl rfl (n := i) rfl (by omega)) rfl<|C0 (T1 (f := sB) ([] : List UInt8) hL hrt (n := i) (by omega) underlying9 rfl rfl) rfl<|H1 can15 rfl rfl (qdec_x _ _ hL (htl _ (getD_mem (by omega)))) ?_
    rintro _ w12 ⟨q, ec, hdec, rfl, h12⟩
    refine ⟨_, rfl,WL.e 3 rfl<|O1 rfl h12 inf42 fun b10 w13 h13=>M1 h13 0 rfl rfl rfl inf42 rfl rfl rfl (Free.zero _) ?_⟩
    intro  w14 h14
    try simp only [ZZ] at h14
    refine WL.e 1 rfl<|WL.nil (H0 (L0 (L0 ?_)))
    obtain ⟨G10, hG10, hfr10, h14⟩ := h14.freeze (i := 0) rfl
    have hfz10 : G10 b10 = some (.cells #[Vi q.k, Vi q.f, Vi q.t, Vi q.j, Vi q.ep, Vi q.st, Vi q.ar, .string (bs q.tx)] 42 (0, 0)) := hfr10 _ List.mem_cons_self
    replace h14 : St W G10 (r2 :: ro :: cs) w14 := h14
    replace hleF := Le.trans hleF hG10
    replace hC := hC.mono hG10
    replace hle0 := Le.trans hle0 hG10
    replace hA := hA.mono hG10
    replace hB := hB.mono hG10
    replace hT := hT.mono hG10
    replace hfz2 := hG10 _ _ hfz2
    obtain ⟨at_, hTa, hrt⟩ := rd1 hT (by omega)
    refine K0<|WL.e 2 rfl<|C0 (S2 hTa underlying39 inf9 rfl rfl (n := i) rfl (by omega)) rfl<|C0 (T1 (f := sB) ([] : List UInt8) h14 hrt (n := i) (by omega) underlying9 rfl rfl) rfl<|C0 (N0 (n := ((l.getD i []).length : Int)) (N2 underlying9 rfl rfl) rfl) rfl<|WL.e 1 rfl<|Wa<|U0 rfl (fun c15 => ?_) (fun c15 => ?_)
    ·try simp only [DD] at c15
     refine Wi<|WL.cv can11 rfl rfl (live_c _ h14) fun w16 ⟨G16, hG16, h16⟩ => ?_
     replace hleF := Le.trans hleF hG16
     replace hA := hA.mono hG16
     replace hB := hB.mono hG16
     replace hT := hT.mono hG16
     replace hfz2 := hG16 _ _ hfz2
     replace hfz10 := hG16 _ _ hfz10
     refine WL.e 1 rfl<|Wg<|ret1 rfl rfl ⟨rfl, ((h16.drop 0).drop 0).weak hleF⟩
    ·try simp only [DD] at c15
     refine O0<|H0<|L0<|L0<|WC.cutT (σ := Bool × J × Snap × Res) (fun q_ => [(1, .slice C l.length cap3), (2, .pointer (some ⟨b2, 0, none⟩)), (5, .pointer (some ⟨bk, 0, none⟩)), (8, .slice Ay ys.length cy), (9, .int .i64 (i : Int)), (10, .pointer (some ⟨b10, 0, none⟩)), (91, .bool q_.1)]) (fun q_ w => Le G10 q_.2.2.1 ∧ CtlR q_.2.2.1 q_.2.2.2 bk [107] [q_.2.1] ∧ okJ [q_.2.1] ∧ q_.2.1.ns = ns ∧ q_.2.1.ss = ss ∧ q_.2.1.gang (if q_.1 = true then ys ++ [q] else ys) ∧ St W q_.2.2.1 (q_.2.2.2 :: ro :: cs) w) ?_ ?_
     ·skip
      rcases hdl : delM [x] (l.getD i []) with ⟨t, js2⟩
      obtain ⟨y, hy1, hy2, hy3, hy4⟩ := gang_del hga (hok.ok x (List.mem_singleton.2 rfl)) (l := (l.getD i []))
      have hok3 := hok.del (l.getD i [])
      rw [hdl] at hy1 hy4 hok3
      obtain rfl : js2 = [y] := hy1
      rw [hns] at hy2
      rw [hss] at hy3
      have hy6 : y.gang (nextY t (l.getD i []) ys) := hy4
      clear hy4
      have hy4 := hy6
      rcases nx5 t (ec = 0) (q.k = 3) (q.ar = 1) with rfl | ⟨rfl, g5⟩ | ⟨rfl, g5, g6⟩ | ⟨rfl, g5, g6, g7⟩ | ⟨rfl, g5, g6, g7⟩
      ·have hga5 : y.gang (if (false : Bool) = true then ys ++ [q] else ys) := by
        unfold nextY at hy4
        rw [hdec, if_neg (fun hh => by cases hh.1)] at hy4
        exact hy4
       refine K0<|WL.e 3 rfl<|C0 (S2 hTa underlying39 inf9 rfl rfl (n := i) rfl (by omega)) rfl<|C0 (T1 (f := sB) ([] : List UInt8) h14 hrt (n := i) (by omega) underlying9 rfl rfl) rfl<|WL.cv can18 rfl rfl (deliver_e _ hdl (htl _ (getD_mem (by omega))) h14 hC hok) fun w17 ⟨G5, r5, hG5, hC5, h17⟩ => ?_
       replace hleF := Le.trans hleF hG5
       replace hA := hA.mono hG5
       replace hB := hB.mono hG5
       replace hT := hT.mono hG5
       replace hfz2 := hG5 _ _ hfz2
       replace hfz10 := hG5 _ _ hfz10
       refine WL.e 14 rfl<|WL.nil<|WN.at_ (⟨false, y, G5, r5⟩ : Bool × J × Snap × Res) (by repeat (first | exact trivial | refine ⟨rfl, ?_⟩)) ⟨hG5, hC5, hok3, hy2, hy3, hga5, h17⟩
      ·have hga5 : y.gang (if (false : Bool) = true then ys ++ [q] else ys) := by
        unfold nextY at hy4
        rw [hdec, if_neg (fun hh => g5 hh.2.1)] at hy4
        exact hy4
       refine K0<|WL.e 3 rfl<|C0 (S2 hTa underlying39 inf9 rfl rfl (n := i) rfl (by omega)) rfl<|C0 (T1 (f := sB) ([] : List UInt8) h14 hrt (n := i) (by omega) underlying9 rfl rfl) rfl<|WL.cv can18 rfl rfl (deliver_e _ hdl (htl _ (getD_mem (by omega))) h14 hC hok) fun w18 ⟨G5, r5, hG5, hC5, h18⟩ => ?_
       replace hleF := Le.trans hleF hG5
       replace hA := hA.mono hG5
       replace hB := hB.mono hG5
       replace hT := hT.mono hG5
       replace hfz2 := hG5 _ _ hfz2
       replace hfz10 := hG5 _ _ hfz10
       refine WL.e 2 rfl<|WL.gn rfl<|C0 (Bf (Y0 rfl rfl) (decide_eq_false g5)) rfl<|WL.e 11 rfl<|WL.nil<|WN.at_ (⟨false, y, G5, r5⟩ : Bool × J × Snap × Res) (by repeat (first | exact trivial | refine ⟨rfl, ?_⟩)) ⟨hG5, hC5, hok3, hy2, hy3, hga5, h18⟩
      ·have hga5 : y.gang (if (false : Bool) = true then ys ++ [q] else ys) := by
        unfold nextY at hy4
        rw [hdec, if_neg (fun hh => g6 hh.2.2.1)] at hy4
        exact hy4
       refine K0<|WL.e 3 rfl<|C0 (S2 hTa underlying39 inf9 rfl rfl (n := i) rfl (by omega)) rfl<|C0 (T1 (f := sB) ([] : List UInt8) h14 hrt (n := i) (by omega) underlying9 rfl rfl) rfl<|WL.cv can18 rfl rfl (deliver_e _ hdl (htl _ (getD_mem (by omega))) h14 hC hok) fun w19 ⟨G5, r5, hG5, hC5, h19⟩ => ?_
       replace hleF := Le.trans hleF hG5
       replace hA := hA.mono hG5
       replace hB := hB.mono hG5
       replace hT := hT.mono hG5
       replace hfz2 := hG5 _ _ hfz2
       replace hfz10 := hG5 _ _ hfz10
       refine WL.e 2 rfl<|WL.gn rfl<|C0 (Bt (Y0 rfl rfl) (decide_eq_true g5)) rfl<|WL.e 3 rfl<|WL.gn rfl<|C0 (I0 underlying3 rfl rfl (h19.cell (cellB hfz10 rfl))) rfl<|WL.gn rfl<|C0 (Bf (Y0 rfl rfl) (decide_eq_false g6)) rfl<|WL.e 6 rfl<|WL.nil<|WN.at_ (⟨false, y, G5, r5⟩ : Bool × J × Snap × Res) (by repeat (first | exact trivial | refine ⟨rfl, ?_⟩)) ⟨hG5, hC5, hok3, hy2, hy3, hga5, h19⟩
      ·have hga5 : y.gang (if (false : Bool) = true then ys ++ [q] else ys) := by
        unfold nextY at hy4
        rw [hdec, if_neg (fun hh => g7 hh.2.2.2)] at hy4
        exact hy4
       refine K0<|WL.e 3 rfl<|C0 (S2 hTa underlying39 inf9 rfl rfl (n := i) rfl (by omega)) rfl<|C0 (T1 (f := sB) ([] : List UInt8) h14 hrt (n := i) (by omega) underlying9 rfl rfl) rfl<|WL.cv can18 rfl rfl (deliver_e _ hdl (htl _ (getD_mem (by omega))) h14 hC hok) fun w20 ⟨G5, r5, hG5, hC5, h20⟩ => ?_
       replace hleF := Le.trans hleF hG5
       replace hA := hA.mono hG5
       replace hB := hB.mono hG5
       replace hT := hT.mono hG5
       replace hfz2 := hG5 _ _ hfz2
       replace hfz10 := hG5 _ _ hfz10
       refine WL.e 2 rfl<|WL.gn rfl<|C0 (Bt (Y0 rfl rfl) (decide_eq_true g5)) rfl<|WL.e 3 rfl<|WL.gn rfl<|C0 (I0 underlying3 rfl rfl (h20.cell (cellB hfz10 rfl))) rfl<|WL.gn rfl<|C0 (Bt (Y0 rfl rfl) (decide_eq_true g6)) rfl<|WL.e 3 rfl<|WL.gn rfl<|C0 (I0 underlying3 rfl rfl (h20.cell (cellB hfz10 rfl))) rfl<|WL.gn rfl<|C0 (Bf (Y0 rfl rfl) (decide_eq_false g7)) rfl<|WL.e 1 rfl<|WL.nil<|WN.at_ (⟨false, y, G5, r5⟩ : Bool × J × Snap × Res) (by repeat (first | exact trivial | refine ⟨rfl, ?_⟩)) ⟨hG5, hC5, hok3, hy2, hy3, hga5, h20⟩
      ·have hga5 : y.gang (if (true : Bool) = true then ys ++ [q] else ys) := by
        unfold nextY at hy4
        rw [hdec, if_pos ⟨rfl, g5, g6, g7⟩] at hy4
        exact hy4
       refine K0<|WL.e 3 rfl<|C0 (S2 hTa underlying39 inf9 rfl rfl (n := i) rfl (by omega)) rfl<|C0 (T1 (f := sB) ([] : List UInt8) h14 hrt (n := i) (by omega) underlying9 rfl rfl) rfl<|WL.cv can18 rfl rfl (deliver_e _ hdl (htl _ (getD_mem (by omega))) h14 hC hok) fun w21 ⟨G5, r5, hG5, hC5, h21⟩ => ?_
       replace hleF := Le.trans hleF hG5
       replace hA := hA.mono hG5
       replace hB := hB.mono hG5
       replace hT := hT.mono hG5
       replace hfz2 := hG5 _ _ hfz2
       replace hfz10 := hG5 _ _ hfz10
       refine WL.e 2 rfl<|WL.gn rfl<|C0 (Bt (Y0 rfl rfl) (decide_eq_true g5)) rfl<|WL.e 3 rfl<|WL.gn rfl<|C0 (I0 underlying3 rfl rfl (h21.cell (cellB hfz10 rfl))) rfl<|WL.gn rfl<|C0 (Bt (Y0 rfl rfl) (decide_eq_true g6)) rfl<|WL.e 3 rfl<|WL.gn rfl<|C0 (I0 underlying3 rfl rfl (h21.cell (cellB hfz10 rfl))) rfl<|WL.gn rfl<|C0 (Bt (Y0 rfl rfl) (decide_eq_true g7)) rfl<|WL.e 1 rfl<|WL.nil<|WN.at_ (⟨true, y, G5, r5⟩ : Bool × J × Snap × Res) (by repeat (first | exact trivial | refine ⟨rfl, ?_⟩)) ⟨hG5, hC5, hok3, hy2, hy3, hga5, h21⟩
     ·rintro ⟨b, y, G5, r5⟩ w22 ⟨hG5, hC, hok2, hns2, hss2, hga2, hL⟩
      dsimp only at hG5 hC hok2 hns2 hss2 hga2 hL
      replace hleF := Le.trans hleF hG5
      replace hA := hA.mono hG5
      replace hB := hB.mono hG5
      replace hT := hT.mono hG5
      replace hfz2 := hG5 _ _ hfz2
      replace hfz10 := hG5 _ _ hfz10
      refine U0 rfl (fun c23 => ?_) (fun c23 => ?_)
      ·try simp only [DD] at c23
       refine K0<|WL.e 1 rfl<|C0 (V2 hL hfz10 underlying42 rfl inf42 rfl rfl) rfl<|WL.buildSlice (vs := [.agg #[Vi q.k, Vi q.f, Vi q.t, Vi q.j, Vi q.ep, Vi q.st, Vi q.ar, .string (bs q.tx)]]) hL rfl underlying63 (inf42.elem rfl rfl) rfl rfl rfl (by decide) ?_
       intro lit94 w24 h24
       try simp only [ZZ] at h24
       refine WL.appM (f := mC) (ys := [q]) 2 h24 rfl rfl rfl rfl underlying63 underlying63 (.inr ⟨_, rfl⟩) (inf42.elem rfl rfl) hro (Src.litM h24 0 rfl rfl rfl) rfl (by first | omega | (simp; done) | (simp; omega)) (by first | omega | (simp; done) | (simp; omega)) ?_
       intro r25 v25 w26 hr25 h26
       simp only [lz, ls] at h26
       replace h26 := h26.drop 0
       simp only [ez, es'] at h26
       obtain ⟨A25, cap25, rfl, hcap25⟩ := hr25.val
       refine WL.e 1 rfl<|WL.nil (H0 (L0 ?_))
       replace hle0 := Le.trans hle0 hG5
       have hga3 : y.gang (ys ++ [q]) := by rw [if_pos c23] at hga2; exact hga2
       have hyl3 : (ys ++ [q]).length ≤ 100000 := by rw [List.length_append, List.length_singleton]; omega
       refine K0<|WL.e 1 rfl<|H1 can14 rfl rfl (outbox_c _ h26 hC hok2.ok hok2.len 0 (by decide)) ?_
       rintro _ w27 ⟨Gd, rd, Ad, cd, hGd, rfl, hTd, hCd, h27⟩
       refine ⟨_, rfl, ?_⟩
       replace hleF := Le.trans hleF hGd
       replace hA := hA.mono hGd
       replace hB := hB.mono hGd
       replace hT := hT.mono hGd
       replace hfz2 := hGd _ _ hfz2
       replace hfz10 := hGd _ _ hfz10
       replace hC := hCd
       replace hle0 := Le.trans hle0 hGd
       refine WL.e 1 rfl<|We<|WL.e 1 rfl<|H1 can19 rfl rfl (job1_e _ h27 hC hok2) ?_
       rintro _ w28 ⟨Ga, ra, Aa, ca, Ba, da, hGa, rfl, hxa, hva, hCa, h28⟩
       refine ⟨_, rfl, ?_⟩
       replace hleF := Le.trans hleF hGa
       replace hA := hA.mono hGa
       replace hB := hB.mono hGa
       replace hT := hT.mono hGa
       replace hfz2 := hGa _ _ hfz2
       replace hfz10 := hGa _ _ hfz10
       replace hTd := hTd.mono hGa
       replace hC := hCa
       replace hle0 := Le.trans hle0 hGa
       refine WL.e 3 rfl<|O1 rfl h28 inf54 fun b13 w29 h29=>M1 h29 0 rfl rfl rfl inf54 rfl rfl rfl (Free.zero _) ?_
       intro  w30 h30
       try simp only [ZZ] at h30
       refine WL.e 1 rfl<|WL.nil (H0 (L0 (L0 ?_)))
       obtain ⟨G13, hG13, hfr13, h30⟩ := h30.freeze (i := 0) rfl
       have hfz13 : G13 b13 = some (.cells #[Vi ([y].getD 0 J0).id, Vi ([y].getD 0 J0).ep, Vi ([y].getD 0 J0).ph, Vi ([y].getD 0 J0).ft, Vi ([y].getD 0 J0).cd, .slice Aa ([y].getD 0 J0).cs.length ca, .slice Ba (votesM ([y].getD 0 J0)).length da] 54 (0, 0)) := hfr13 _ List.mem_cons_self
       replace h30 : St W G13 (ra :: r25 :: cs) w30 := h30
       replace hleF := Le.trans hleF hG13
       replace hC := hC.mono hG13
       replace hle0 := Le.trans hle0 hG13
       replace hA := hA.mono hG13
       replace hB := hB.mono hG13
       replace hT := hT.mono hG13
       replace hfz2 := hG13 _ _ hfz2
       replace hTd := hTd.mono hG13
       replace hxa := hxa.mono hG13
       refine K0<|WL.e 1 rfl<|C0 (Bf (E1 rfl) (by simp)) rfl<|Wa<|V0 rfl (rfl)<|O0 (H0 (L0 ?_))
       have hol : (outM [y] [107] 0).length ≤ 16000 := by
        have h9 := outM_len hok2.ok [107] 0 1
        exact Nat.le_trans h9 (by decide)
       refine K0<|WL.e 1 rfl<|Wj<|WC.lp (σ := Nat) (fun q_ => [(1, .slice C l.length cap3), (2, .pointer (some ⟨b2, 0, none⟩)), (5, .pointer (some ⟨bk, 0, none⟩)), (8, .slice A25 (ys ++ [q]).length cap25), (9, .int .i64 (i : Int)), (12, .slice Ad (outM [y] [107] 0).length cd), (13, .pointer (some ⟨b13, 0, none⟩)), (15, .int .i64 (q_ : Int))]) (fun q_ w => q_ ≤ (outM [y] [107] 0).length ∧ St W G13 (ra :: r25 :: cs) w) (fun q_ => (outM [y] [107] 0).length - q_) (0) (⟨Nat.zero_le _, h30⟩) ?_
       rintro n w31 ⟨hn, hL⟩
       try dsimp only at hn hL
       refine O2 [(1, .slice C l.length cap3), (2, .pointer (some ⟨b2, 0, none⟩)), (5, .pointer (some ⟨bk, 0, none⟩)), (8, .slice A25 (ys ++ [q]).length cap25), (9, .int .i64 (i : Int)), (12, .slice Ad (outM [y] [107] 0).length cd), (13, .pointer (some ⟨b13, 0, none⟩)), (15, .int .i64 (n : Int))]<|L0<|Wi<|WL.e 2 rfl<|C0 (N0 (n := ((outM [y] [107] 0).length : Int)) (R0 underlying39 rfl rfl) rfl) rfl<|WL.e 1 rfl<|Wa<|U0 rfl (fun c32 => ?_) (fun c32 => ?_)
       ·try simp only [DD] at c32
        refine O0 (H0 (L0 (WC.block (L0 ?_))))
        obtain ⟨ao, hAo, hro2⟩ := rd1 hTd (by omega)
        refine K0<|WL.e 2 rfl<|C0 (S2 hAo underlying39 inf9 rfl rfl (n := n) rfl (by omega)) rfl<|C0 (T1 (f := sB) ([] : List UInt8) hL hro2 (n := n) (by omega) underlying9 rfl rfl) rfl<|H1 can15 rfl rfl (qdec_x _ _ hL (outG_enc (by omega))) ?_
        rintro _ w33 ⟨p, e2, hdec2, rfl, h33⟩
        refine ⟨_, rfl,WL.e 3 rfl<|O1 rfl h33 inf42 fun b16 w34 h34=>M1 h34 0 rfl rfl rfl inf42 rfl rfl rfl (Free.zero _) ?_⟩
        intro  w35 h35
        try simp only [ZZ] at h35
        refine WL.e 1 rfl<|WL.nil (H0 (L0 ?_))
        obtain ⟨G16, hG16, hfr16, h35⟩ := h35.freeze (i := 0) rfl
        have hfz16 : G16 b16 = some (.cells #[Vi p.k, Vi p.f, Vi p.t, Vi p.j, Vi p.ep, Vi p.st, Vi p.ar, .string (bs p.tx)] 42 (0, 0)) := hfr16 _ List.mem_cons_self
        replace h35 : St W G16 (ra :: r25 :: cs) w35 := h35
        replace hleF := Le.trans hleF hG16
        replace hC := hC.mono hG16
        replace hA := hA.mono hG16
        replace hB := hB.mono hG16
        replace hT := hT.mono hG16
        replace hfz2 := hG16 _ _ hfz2
        replace hxa := hxa.mono hG16
        replace hfz13 := hG16 _ _ hfz13
        by_cases hk4 : p.k = 4
        ·have hoky := hok2.ok y (List.mem_singleton.2 rfl)
         have hb9 := getD_mem (d := []) (l := (outM [y] [107] 0)) (i := n) (by omega)
         obtain ⟨z1, z2, z3, z4⟩ := release hga3 hoky hb9 (by rw [hdec2]; exact hk4)
         rw [hdec2] at z1 z2 z3 z4
         rw [hss2] at z2 z4
         rw [hns2] at z3
         replace z1 : 0 ≤ p.st := z1
         replace z2 : p.st < ss.length := z2
         obtain ⟨ads, A1, cap1, rfl, hE1, hcell⟩ := Dg.stepAt hB (n := p.st.toNat) (by omega)
         have hst5 : p.st.toNat < ss.length := by omega
         have hal5 : (ss.getD p.st.toNat S0).af.length ≤ 100000 := by have := g2.2 p.st.toNat hst5; omega
         have hlc5 : y.cs.length = ss.length := by rw [hoky.lc, hss2]
         have hcl5 : ([y].getD 0 J0).cs.length ≤ 100000 := by show y.cs.length ≤ _; omega
         have hck5 := hoky.ss
         rw [hss2] at hck5
         have hin5 : ∀ k, k < (ss.getD p.st.toNat S0).af.length → 0 ≤ ((ss.getD p.st.toNat S0).af.getD k E0).st ∧ ((ss.getD p.st.toNat S0).af.getD k E0).st < (([y].getD 0 J0).cs.length : Int) := fun k hk => by
          have h9 := Dg.edge_mem (c := y.cs) (Dg.chk_ok hck5).1 hst5 (getD_mem (d := E0) hk) hlc5
          exact h9
         refine M2 h35 h35 (fun s_ => ([] : List Nat).any (Nat.beq s_)) mixed (by kernel_rfl)<|fun hx =>fun w36 h36=>WE.e hx [0] rfl<|E3 12 hx 1 (by rfl) (fun w_ hE_ => I0 underlying3 rfl rfl (hE_.cell (cellB hfz16 rfl))) rfl<|R2 hx 2 (by rfl) (fun w_ => Bt (Y0 rfl rfl) (decide_eq_true hk4)) rfl<|WE.e hx [3, 4, 6] rfl<|B3 (j := 3) (b := true) 12 hx 5 (by rfl) ⟨_, _, rfl, rfl, rfl⟩ (fun w_ hE_ => I0 underlying3 rfl rfl (hE_.cell (cellB hfz16 rfl))) rfl<|B3 (j := 3) (b := true) 12 hx 7 (by rfl) ⟨_, _, rfl, rfl, rfl⟩ (fun w_ hE_ => I0 underlying34 rfl rfl (hE_.cell (cellB hfz2 rfl))) rfl<|T2 (j := 3) (b := true) hx 8 (by rfl) ⟨_, _, rfl, rfl, rfl⟩ (fun w_ => N0 (n := (ss.length : Int)) (R0 underlying34 rfl rfl) rfl) rfl<|T2 (j := 3) (b := true) hx 9 (by rfl) ⟨_, _, rfl, rfl, rfl⟩ (fun w_ => Bf (Z0 rfl rfl) (decide_eq_false (by omega))) rfl<|WE.e hx [10, 12] rfl<|B3 (j := 10) (b := false) 12 hx 11 (by rfl) ⟨_, _, rfl, rfl, rfl⟩ (fun w_ hE_ => V2 hE_ hfz2 underlying36 rfl inf36 rfl rfl) rfl<|B3 (j := 10) (b := false) 12 hx 13 (by rfl) ⟨_, _, rfl, rfl, rfl⟩ (fun w_ hE_ => V2 hE_ hfz16 underlying42 rfl inf42 rfl rfl) rfl<|WE.op (.inr h36) (i := 14) (by rfl) (by kernel_rfl)<|WL.gn rfl<|WL.cv can25 rfl rfl (gang_row _ h36 (i := 1) rfl hr25 rfl hA (by omega) hyl3 z3) fun w37 h37 =>WL.nil<|U1<|T2 (j := 10) (b := false) hx 15 (by rfl) ⟨_, _, rfl, rfl, rfl⟩ (fun w_ => Bf (E1 rfl) rfl) rfl<|WE.e hx [16, 17, 18, 20, 24] rfl<|B3 (j := 17) (b := false) 12 hx 19 (by rfl) ⟨_, _, rfl, rfl, rfl⟩ (fun w_ hE_ => I0 underlying34 rfl rfl (hE_.cell (cellB hfz2 rfl))) rfl<|B3 (j := 17) (b := false) 12 hx 21 (by rfl) ⟨_, _, rfl, rfl, rfl⟩ (fun w_ hE_ => I0 underlying3 rfl rfl (hE_.cell (cellB hfz16 rfl))) rfl<|T2 (j := 17) (b := false) hx 22 (by rfl) ⟨_, _, rfl, rfl, rfl⟩ (fun w_ => R1 underlying34 inf68 rfl rfl (n := p.st.toNat) (by omega) (by omega)) rfl<|B3 (j := 17) (b := false) 12 hx 23 (by rfl) ⟨_, _, rfl, rfl, rfl⟩ (fun w_ hE_ => L1 (u := .agg #[Vi (ss.getD p.st.toNat S0).rk, Vi (ss.getD p.st.toNat S0).per, Vi (ss.getD p.st.toNat S0).ds, Vi (ss.getD p.st.toNat S0).lim, .slice A1 (ss.getD p.st.toNat S0).af.length cap1]) (Runs.loadKF hE_ hcell underlying68 rfl inf68 rfl rfl) rfl) rfl<|B3 (j := 17) (b := false) 12 hx 25 (by rfl) ⟨_, _, rfl, rfl, rfl⟩ (fun w_ hE_ => I0 underlying33 rfl rfl (hE_.cell (cellB hfz13 rfl))) rfl<|WE.op (.inr h37) (i := 26) (by rfl) (by kernel_rfl)<|WL.gn rfl<|WL.cv can26 rfl rfl (follows_c _ h37 hE1 hxa hal5 hcl5 hin5 z4) fun w38 h38 =>WL.nil<|U1<|T2 (j := 17) (b := false) hx 27 (by rfl) ⟨_, _, rfl, rfl, rfl⟩ (fun w_ => Bf (E1 rfl) rfl) rfl<|WE.e hx [28, 29] rfl<|WE.fin (.inr h38) (by kernel_rfl)<|H0<|V0 rfl (rfl)<|O0<|WN.blk<|H0<|K0<|WL.e 1 rfl<|C0 (Q0 rfl rfl (by omega)) rfl<|WL.e 1 rfl<|WL.nil<|X0 (n + 1) (by omega) ⟨rfl, rfl, rfl, rfl, rfl, rfl, rfl, rfl, trivial⟩ ⟨by omega, h38.weak hG16⟩
        ·skip
         refine M2 h35 h35 (fun s_ => ([] : List Nat).any (Nat.beq s_)) mixed (by kernel_rfl)<|fun hx =>fun w39 h39=>WE.e hx [0] rfl<|E3 12 hx 1 (by rfl) (fun w_ hE_ => I0 underlying3 rfl rfl (hE_.cell (cellB hfz16 rfl))) rfl<|R2 hx 2 (by rfl) (fun w_ => Bf (Y0 rfl rfl) (decide_eq_false hk4)) rfl<|WE.e hx [3, 4, 5, 6, 7, 8, 9, 10, 11, 12, 13, 14, 15, 16, 17, 18, 19, 20, 21, 22, 23, 24, 25, 26, 27, 28, 29] rfl<|WE.fin (.inr h39) (by kernel_rfl)<|H0<|V0 rfl (rfl)<|O0<|WN.blk<|H0<|K0<|WL.e 1 rfl<|C0 (Q0 rfl rfl (by omega)) rfl<|WL.e 1 rfl<|WL.nil<|X0 (n + 1) (by omega) ⟨rfl, rfl, rfl, rfl, rfl, rfl, rfl, rfl, trivial⟩ ⟨by omega, h39.weak hG16⟩
       ·try simp only [DD] at c32
        refine WC.exit<|Q1<|WX.cut<|S1<|WN.blk<|H0<|K0<|WL.e 1 rfl<|C0 (Q0 rfl rfl (by omega)) rfl<|WL.e 1 rfl<|WL.nil<|X0 (⟨i + 1, y, G13, ra, r25, (ys ++ [q]), _, _⟩ : Nat × J × Snap × Res × Res × List M × Option Addr × Nat) (by show l.length - (i + 1) < l.length - i; omega) ⟨rfl, rfl, rfl, rfl, rfl, trivial⟩ ⟨by show i + 1 ≤ _; omega, hle0, hC, hok2, hns2, hss2, hga3, by show (ys ++ [q]).length ≤ i + 1; rw [List.length_append, List.length_singleton]; omega, hr25, hL⟩
      ·try simp only [DD] at c23
       refine O0 (H0 (L0 ?_))
       replace hle0 := Le.trans hle0 hG5
       have hga3 : y.gang ys := by rw [if_neg (by rw [c23]; decide)] at hga2; exact hga2
       have hyl3 : ys.length ≤ 100000 := by omega
       refine K0<|WL.e 1 rfl<|H1 can14 rfl rfl (outbox_c _ hL hC hok2.ok hok2.len 0 (by decide)) ?_
       rintro _ w40 ⟨Gd, rd, Ad, cd, hGd, rfl, hTd, hCd, h40⟩
       refine ⟨_, rfl, ?_⟩
       replace hleF := Le.trans hleF hGd
       replace hA := hA.mono hGd
       replace hB := hB.mono hGd
       replace hT := hT.mono hGd
       replace hfz2 := hGd _ _ hfz2
       replace hfz10 := hGd _ _ hfz10
       replace hC := hCd
       replace hle0 := Le.trans hle0 hGd
       refine WL.e 1 rfl<|We<|WL.e 1 rfl<|H1 can19 rfl rfl (job1_e _ h40 hC hok2) ?_
       rintro _ w41 ⟨Ga, ra, Aa, ca, Ba, da, hGa, rfl, hxa, hva, hCa, h41⟩
       refine ⟨_, rfl, ?_⟩
       replace hleF := Le.trans hleF hGa
       replace hA := hA.mono hGa
       replace hB := hB.mono hGa
       replace hT := hT.mono hGa
       replace hfz2 := hGa _ _ hfz2
       replace hfz10 := hGa _ _ hfz10
       replace hTd := hTd.mono hGa
       replace hC := hCa
       replace hle0 := Le.trans hle0 hGa
       refine WL.e 3 rfl<|O1 rfl h41 inf54 fun b13 w42 h42=>M1 h42 0 rfl rfl rfl inf54 rfl rfl rfl (Free.zero _) ?_
       intro  w43 h43
       try simp only [ZZ] at h43
       refine WL.e 1 rfl<|WL.nil (H0 (L0 (L0 ?_)))
       obtain ⟨G13, hG13, hfr13, h43⟩ := h43.freeze (i := 0) rfl
       have hfz13 : G13 b13 = some (.cells #[Vi ([y].getD 0 J0).id, Vi ([y].getD 0 J0).ep, Vi ([y].getD 0 J0).ph, Vi ([y].getD 0 J0).ft, Vi ([y].getD 0 J0).cd, .slice Aa ([y].getD 0 J0).cs.length ca, .slice Ba (votesM ([y].getD 0 J0)).length da] 54 (0, 0)) := hfr13 _ List.mem_cons_self
       replace h43 : St W G13 (ra :: ro :: cs) w43 := h43
       replace hleF := Le.trans hleF hG13
       replace hC := hC.mono hG13
       replace hle0 := Le.trans hle0 hG13
       replace hA := hA.mono hG13
       replace hB := hB.mono hG13
       replace hT := hT.mono hG13
       replace hfz2 := hG13 _ _ hfz2
       replace hTd := hTd.mono hG13
       replace hxa := hxa.mono hG13
       refine K0<|WL.e 1 rfl<|C0 (Bf (E1 rfl) (by simp)) rfl<|Wa<|V0 rfl (rfl)<|O0 (H0 (L0 ?_))
       have hol : (outM [y] [107] 0).length ≤ 16000 := by
        have h9 := outM_len hok2.ok [107] 0 1
        exact Nat.le_trans h9 (by decide)
       refine K0<|WL.e 1 rfl<|Wj<|WC.lp (σ := Nat) (fun q_ => [(1, .slice C l.length cap3), (2, .pointer (some ⟨b2, 0, none⟩)), (5, .pointer (some ⟨bk, 0, none⟩)), (8, .slice Ay ys.length cy), (9, .int .i64 (i : Int)), (12, .slice Ad (outM [y] [107] 0).length cd), (13, .pointer (some ⟨b13, 0, none⟩)), (15, .int .i64 (q_ : Int))]) (fun q_ w => q_ ≤ (outM [y] [107] 0).length ∧ St W G13 (ra :: ro :: cs) w) (fun q_ => (outM [y] [107] 0).length - q_) (0) (⟨Nat.zero_le _, h43⟩) ?_
       rintro n w44 ⟨hn, hL⟩
       try dsimp only at hn hL
       refine O2 [(1, .slice C l.length cap3), (2, .pointer (some ⟨b2, 0, none⟩)), (5, .pointer (some ⟨bk, 0, none⟩)), (8, .slice Ay ys.length cy), (9, .int .i64 (i : Int)), (12, .slice Ad (outM [y] [107] 0).length cd), (13, .pointer (some ⟨b13, 0, none⟩)), (15, .int .i64 (n : Int))]<|L0<|Wi<|WL.e 2 rfl<|C0 (N0 (n := ((outM [y] [107] 0).length : Int)) (R0 underlying39 rfl rfl) rfl) rfl<|WL.e 1 rfl<|Wa<|U0 rfl (fun c45 => ?_) (fun c45 => ?_)
       ·try simp only [DD] at c45
        refine O0 (H0 (L0 (WC.block (L0 ?_))))
        obtain ⟨ao, hAo, hro2⟩ := rd1 hTd (by omega)
        refine K0<|WL.e 2 rfl<|C0 (S2 hAo underlying39 inf9 rfl rfl (n := n) rfl (by omega)) rfl<|C0 (T1 (f := sB) ([] : List UInt8) hL hro2 (n := n) (by omega) underlying9 rfl rfl) rfl<|H1 can15 rfl rfl (qdec_x _ _ hL (outG_enc (by omega))) ?_
        rintro _ w46 ⟨p, e2, hdec2, rfl, h46⟩
        refine ⟨_, rfl,WL.e 3 rfl<|O1 rfl h46 inf42 fun b16 w47 h47=>M1 h47 0 rfl rfl rfl inf42 rfl rfl rfl (Free.zero _) ?_⟩
        intro  w48 h48
        try simp only [ZZ] at h48
        refine WL.e 1 rfl<|WL.nil (H0 (L0 ?_))
        obtain ⟨G16, hG16, hfr16, h48⟩ := h48.freeze (i := 0) rfl
        have hfz16 : G16 b16 = some (.cells #[Vi p.k, Vi p.f, Vi p.t, Vi p.j, Vi p.ep, Vi p.st, Vi p.ar, .string (bs p.tx)] 42 (0, 0)) := hfr16 _ List.mem_cons_self
        replace h48 : St W G16 (ra :: ro :: cs) w48 := h48
        replace hleF := Le.trans hleF hG16
        replace hC := hC.mono hG16
        replace hA := hA.mono hG16
        replace hB := hB.mono hG16
        replace hT := hT.mono hG16
        replace hfz2 := hG16 _ _ hfz2
        replace hxa := hxa.mono hG16
        replace hfz13 := hG16 _ _ hfz13
        by_cases hk4 : p.k = 4
        ·have hoky := hok2.ok y (List.mem_singleton.2 rfl)
         have hb9 := getD_mem (d := []) (l := (outM [y] [107] 0)) (i := n) (by omega)
         obtain ⟨z1, z2, z3, z4⟩ := release hga3 hoky hb9 (by rw [hdec2]; exact hk4)
         rw [hdec2] at z1 z2 z3 z4
         rw [hss2] at z2 z4
         rw [hns2] at z3
         replace z1 : 0 ≤ p.st := z1
         replace z2 : p.st < ss.length := z2
         obtain ⟨ads, A1, cap1, rfl, hE1, hcell⟩ := Dg.stepAt hB (n := p.st.toNat) (by omega)
         have hst5 : p.st.toNat < ss.length := by omega
         have hal5 : (ss.getD p.st.toNat S0).af.length ≤ 100000 := by have := g2.2 p.st.toNat hst5; omega
         have hlc5 : y.cs.length = ss.length := by rw [hoky.lc, hss2]
         have hcl5 : ([y].getD 0 J0).cs.length ≤ 100000 := by show y.cs.length ≤ _; omega
         have hck5 := hoky.ss
         rw [hss2] at hck5
         have hin5 : ∀ k, k < (ss.getD p.st.toNat S0).af.length → 0 ≤ ((ss.getD p.st.toNat S0).af.getD k E0).st ∧ ((ss.getD p.st.toNat S0).af.getD k E0).st < (([y].getD 0 J0).cs.length : Int) := fun k hk => by
          have h9 := Dg.edge_mem (c := y.cs) (Dg.chk_ok hck5).1 hst5 (getD_mem (d := E0) hk) hlc5
          exact h9
         refine M2 h48 h48 (fun s_ => ([] : List Nat).any (Nat.beq s_)) mixed (by kernel_rfl)<|fun hx =>fun w49 h49=>WE.e hx [0] rfl<|E3 12 hx 1 (by rfl) (fun w_ hE_ => I0 underlying3 rfl rfl (hE_.cell (cellB hfz16 rfl))) rfl<|R2 hx 2 (by rfl) (fun w_ => Bt (Y0 rfl rfl) (decide_eq_true hk4)) rfl<|WE.e hx [3, 4, 6] rfl<|B3 (j := 3) (b := true) 12 hx 5 (by rfl) ⟨_, _, rfl, rfl, rfl⟩ (fun w_ hE_ => I0 underlying3 rfl rfl (hE_.cell (cellB hfz16 rfl))) rfl<|B3 (j := 3) (b := true) 12 hx 7 (by rfl) ⟨_, _, rfl, rfl, rfl⟩ (fun w_ hE_ => I0 underlying34 rfl rfl (hE_.cell (cellB hfz2 rfl))) rfl<|T2 (j := 3) (b := true) hx 8 (by rfl) ⟨_, _, rfl, rfl, rfl⟩ (fun w_ => N0 (n := (ss.length : Int)) (R0 underlying34 rfl rfl) rfl) rfl<|T2 (j := 3) (b := true) hx 9 (by rfl) ⟨_, _, rfl, rfl, rfl⟩ (fun w_ => Bf (Z0 rfl rfl) (decide_eq_false (by omega))) rfl<|WE.e hx [10, 12] rfl<|B3 (j := 10) (b := false) 12 hx 11 (by rfl) ⟨_, _, rfl, rfl, rfl⟩ (fun w_ hE_ => V2 hE_ hfz2 underlying36 rfl inf36 rfl rfl) rfl<|B3 (j := 10) (b := false) 12 hx 13 (by rfl) ⟨_, _, rfl, rfl, rfl⟩ (fun w_ hE_ => V2 hE_ hfz16 underlying42 rfl inf42 rfl rfl) rfl<|WE.op (.inr h49) (i := 14) (by rfl) (by kernel_rfl)<|WL.gn rfl<|WL.cv can25 rfl rfl (gang_row _ h49 (i := 1) rfl hro rfl hA (by omega) hyl3 z3) fun w50 h50 =>WL.nil<|U1<|T2 (j := 10) (b := false) hx 15 (by rfl) ⟨_, _, rfl, rfl, rfl⟩ (fun w_ => Bf (E1 rfl) rfl) rfl<|WE.e hx [16, 17, 18, 20, 24] rfl<|B3 (j := 17) (b := false) 12 hx 19 (by rfl) ⟨_, _, rfl, rfl, rfl⟩ (fun w_ hE_ => I0 underlying34 rfl rfl (hE_.cell (cellB hfz2 rfl))) rfl<|B3 (j := 17) (b := false) 12 hx 21 (by rfl) ⟨_, _, rfl, rfl, rfl⟩ (fun w_ hE_ => I0 underlying3 rfl rfl (hE_.cell (cellB hfz16 rfl))) rfl<|T2 (j := 17) (b := false) hx 22 (by rfl) ⟨_, _, rfl, rfl, rfl⟩ (fun w_ => R1 underlying34 inf68 rfl rfl (n := p.st.toNat) (by omega) (by omega)) rfl<|B3 (j := 17) (b := false) 12 hx 23 (by rfl) ⟨_, _, rfl, rfl, rfl⟩ (fun w_ hE_ => L1 (u := .agg #[Vi (ss.getD p.st.toNat S0).rk, Vi (ss.getD p.st.toNat S0).per, Vi (ss.getD p.st.toNat S0).ds, Vi (ss.getD p.st.toNat S0).lim, .slice A1 (ss.getD p.st.toNat S0).af.length cap1]) (Runs.loadKF hE_ hcell underlying68 rfl inf68 rfl rfl) rfl) rfl<|B3 (j := 17) (b := false) 12 hx 25 (by rfl) ⟨_, _, rfl, rfl, rfl⟩ (fun w_ hE_ => I0 underlying33 rfl rfl (hE_.cell (cellB hfz13 rfl))) rfl<|WE.op (.inr h50) (i := 26) (by rfl) (by kernel_rfl)<|WL.gn rfl<|WL.cv can26 rfl rfl (follows_c _ h50 hE1 hxa hal5 hcl5 hin5 z4) fun w51 h51 =>WL.nil<|U1<|T2 (j := 17) (b := false) hx 27 (by rfl) ⟨_, _, rfl, rfl, rfl⟩ (fun w_ => Bf (E1 rfl) rfl) rfl<|WE.e hx [28, 29] rfl<|WE.fin (.inr h51) (by kernel_rfl)<|H0<|V0 rfl (rfl)<|O0<|WN.blk<|H0<|K0<|WL.e 1 rfl<|C0 (Q0 rfl rfl (by omega)) rfl<|WL.e 1 rfl<|WL.nil<|X0 (n + 1) (by omega) ⟨rfl, rfl, rfl, rfl, rfl, rfl, rfl, rfl, trivial⟩ ⟨by omega, h51.weak hG16⟩
        ·skip
         refine M2 h48 h48 (fun s_ => ([] : List Nat).any (Nat.beq s_)) mixed (by kernel_rfl)<|fun hx =>fun w52 h52=>WE.e hx [0] rfl<|E3 12 hx 1 (by rfl) (fun w_ hE_ => I0 underlying3 rfl rfl (hE_.cell (cellB hfz16 rfl))) rfl<|R2 hx 2 (by rfl) (fun w_ => Bf (Y0 rfl rfl) (decide_eq_false hk4)) rfl<|WE.e hx [3, 4, 5, 6, 7, 8, 9, 10, 11, 12, 13, 14, 15, 16, 17, 18, 19, 20, 21, 22, 23, 24, 25, 26, 27, 28, 29] rfl<|WE.fin (.inr h52) (by kernel_rfl)<|H0<|V0 rfl (rfl)<|O0<|WN.blk<|H0<|K0<|WL.e 1 rfl<|C0 (Q0 rfl rfl (by omega)) rfl<|WL.e 1 rfl<|WL.nil<|X0 (n + 1) (by omega) ⟨rfl, rfl, rfl, rfl, rfl, rfl, rfl, rfl, trivial⟩ ⟨by omega, h52.weak hG16⟩
       ·try simp only [DD] at c45
        refine WC.exit<|Q1<|WX.cut<|S1<|WN.blk<|H0<|K0<|WL.e 1 rfl<|C0 (Q0 rfl rfl (by omega)) rfl<|WL.e 1 rfl<|WL.nil<|X0 (⟨i + 1, y, G13, ra, ro, ys, _, _⟩ : Nat × J × Snap × Res × Res × List M × Option Addr × Nat) (by show l.length - (i + 1) < l.length - i; omega) ⟨rfl, rfl, rfl, rfl, rfl, trivial⟩ ⟨by show i + 1 ≤ _; omega, hle0, hC, hok2, hns2, hss2, hga3, by show ys.length ≤ i + 1; omega, hro, hL⟩
   ·try simp only [DD] at c11
    refine WC.exit<|Q1<|WX.cut<|S1<|H0<|Wi<|WL.cv can11 rfl rfl (live_c _ hL) fun w53 ⟨G53, hG53, h53⟩ => ?_
    replace hleF := Le.trans hleF hG53
    replace hA := hA.mono hG53
    replace hB := hB.mono hG53
    replace hT := hT.mono hG53
    replace hfz2 := hG53 _ _ hfz2
    refine WL.e 1 rfl<|Wg<|ret1 rfl rfl ⟨rfl, ((h53.drop 0).drop 0).weak hleF⟩
  ·obtain rfl := hsn.2 her
   refine K0<|WL.e 1 rfl<|C0 (V2 h8 hfz2 underlying36 rfl inf36 rfl rfl) rfl<|WL.cv can24 rfl rfl (submit_e _ hsub h8 hC0 okJ.nil hA hB (by omega) (by omega) hfe) fun w54 ⟨G1, r1, hG1, hC, h54⟩ => ?_
   replace hleF := Le.trans hleF hG1
   replace hA := hA.mono hG1
   replace hB := hB.mono hG1
   replace hT := hT.mono hG1
   replace hfz2 := hG1 _ _ hfz2
   refine WL.e 5 rfl<|Wh<|WL.e 1 rfl<|C0 (Bt (Z1 rfl rfl) (by rw [decide_eq_false her]; rfl)) rfl<|Wa<|B1 rfl (rfl)<|Wi<|WL.e 1 rfl<|WL.cv can20 rfl rfl (jobs_c _ h54 hC) fun w55 ⟨rj, hCj, h55⟩ =>C0 (Bt (Y0 rfl rfl) (decide_eq_true rfl)) rfl<|WL.e 1 rfl<|WL.gn rfl<|WL.cv can11 rfl rfl (live_c _ h55) fun w56 ⟨G56, hG56, h56⟩ => ?_
   replace hleF := Le.trans hleF hG56
   replace hA := hA.mono hG56
   replace hB := hB.mono hG56
   replace hT := hT.mono hG56
   replace hfz2 := hG56 _ _ hfz2
   refine WL.e 2 rfl<|Wg<|ret1 rfl rfl ⟨rfl, (h56.drop 0).weak hleF⟩
end Ct
end Go.Proofs.YtifdpllfbaogcaaGreat
