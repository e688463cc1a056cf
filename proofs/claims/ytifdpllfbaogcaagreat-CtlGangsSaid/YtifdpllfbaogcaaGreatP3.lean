/- Joined texts: Tal2 .. W16. -/
import Derived.Test.YtifdpllfbaogcaaGreatP2
import Derived.KernelRfl
import Derived.Tactics
import Derived.Tactics2
set_option linter.unusedVariables false
set_option linter.unusedSimpArgs false
set_option maxRecDepth 100000
set_option maxHeartbeats 32000000
namespace Go.Proofs.YtifdpllfbaogcaaGreat
open Go Go.RowKit B Tryz
variable {W : World} {F : Snap}
namespace Tal
theorem can44 : B.Can prog 44 := ⟨_, func44, by kernel_rfl, rfl⟩
theorem can131 : B.Can prog 131 := ⟨_, func131, by kernel_rfl, rfl⟩
theorem can132 : B.Can prog 132 := ⟨_, func132, by kernel_rfl, rfl⟩
theorem can133 : B.Can prog 133 := ⟨_, func133, by kernel_rfl, rfl⟩
theorem nodup_take {ns : List Int} (hd : ns.Nodup) {i : Nat} (hi : i < ns.length) : ns.getD i 0 ∉ ns.take i := by
 have h1 : ns.take i ++ ns.drop i = ns := List.take_append_drop i ns
 rw [← h1, List.nodup_append] at hd
 intro hm
 refine hd.2.2 _ hm (ns.getD i 0) ?_ rfl
 have e : ns.drop i = ns.getD i 0 :: ns.drop (i + 1) := by
  rw [List.drop_eq_getElem_cons hi, List.getD_eq_getElem?_getD, List.getElem?_eq_getElem hi]; rfl
 rw [e]
 exact List.mem_cons_self
theorem set_self {α : Type} {cs : List α} {i : Nat} {a : α} (h : cs[i]? = some a) : cs.set i a = cs := by
 apply List.ext_getElem?
 intro j
 rw [List.getElem?_set]
 split
 ·rename_i e
  subst e
  rw [h]; simp [(List.getElem?_eq_some_iff.1 h).1]
 ·rfl
theorem silent_bool {cs : List Res} (w : World) (i : Nat) {A : Option Addr} {cap m : Nat} {l : List (Int × Value)} {ns : List Int} {os : List (Option Bool)} (h : St W F cs w) (hi : cs[i]? = some [(m, mobj l)]) (hm : MR .bool F ns os l) (hR : RdS (Kd.one Vi) F A ns) (h0 : 0 < ns.length) (hd : ns.Nodup) (hn : ns.length ≤ 100000) : Calls prog 89 #[.slice A ns.length cap, .map (some m)] w (Gives W F cs Vi (miss ns os))  := by
 refine enter (args := [.slice A ns.length cap, .map (some m)]) func89 rfl rfl rfl<|Wi<|WL.box rfl h rfl fun b3 w1 h1=>WL.e 1 rfl<|We<|WL.e 1 rfl<|H1 can44 rfl rfl (clone_c _ h1 hR h0 hn) ?_
 rintro _ w2 ⟨r2, v2, rfl, hr2, h2⟩
 refine ⟨_, rfl, ?_⟩
 obtain ⟨bc, zs, fz, rfl, rfl, hfz⟩ := hr2.blk h0
 refine C0 (Runs.makeFunc rfl rfl) rfl<|H1 can131 rfl rfl (del_c _ 132 (.pointer (some ⟨b3, 0, none⟩)) (fun n => ((look n ns os).getD none).isSome) can132 h2 hfz hn (fun r w n hnn hS => by
   obtain ⟨o, ho⟩ := look_mem n hm.len.1 hnn
   have := clos_bool w n (i + 2) 1 hS rfl hi hm ho
   simp only [ho, Option.getD_some]
   exact this)) ?_
 rintro _ w3 ⟨r3, v3, rfl, hr3, h3⟩
 refine ⟨_, rfl,WL.e 1 rfl<|WL.nil (H0 (I1 ?_))⟩
 have hr := hr3
 rw [miss_filter hm.len.1 hd] at hr
 exact ret1 rfl rfl (S3 hr (h3.drop 1))
theorem silent_int {cs : List Res} (w : World) (i : Nat) {A : Option Addr} {cap m : Nat} {l : List (Int × Value)} {ns : List Int} {os : List (Option Int)} (h : St W F cs w) (hi : cs[i]? = some [(m, mobj l)]) (hm : MR Vi F ns os l) (hR : RdS (Kd.one Vi) F A ns) (h0 : 0 < ns.length) (hd : ns.Nodup) (hn : ns.length ≤ 100000) : Calls prog 90 #[.slice A ns.length cap, .map (some m)] w (Gives W F cs Vi (miss ns os))  := by
 refine enter (args := [.slice A ns.length cap, .map (some m)]) func90 rfl rfl rfl<|Wi<|WL.box rfl h rfl fun b3 w1 h1=>WL.e 1 rfl<|We<|WL.e 1 rfl<|H1 can44 rfl rfl (clone_c _ h1 hR h0 hn) ?_
 rintro _ w2 ⟨r2, v2, rfl, hr2, h2⟩
 refine ⟨_, rfl, ?_⟩
 obtain ⟨bc, zs, fz, rfl, rfl, hfz⟩ := hr2.blk h0
 refine C0 (Runs.makeFunc rfl rfl) rfl<|H1 can131 rfl rfl (del_c _ 133 (.pointer (some ⟨b3, 0, none⟩)) (fun n => ((look n ns os).getD none).isSome) can133 h2 hfz hn (fun r w n hnn hS => by
   obtain ⟨o, ho⟩ := look_mem n hm.len.1 hnn
   have := clos_int w n (i + 2) 1 hS rfl hi hm ho
   simp only [ho, Option.getD_some]
   exact this)) ?_
 rintro _ w3 ⟨r3, v3, rfl, hr3, h3⟩
 refine ⟨_, rfl,WL.e 1 rfl<|WL.nil (H0 (I1 ?_))⟩
 have hr := hr3
 rw [miss_filter hm.len.1 hd] at hr
 exact ret1 rfl rfl (S3 hr (h3.drop 1))
theorem empty_bool {cs : List Res} (w : World) {A : Option Addr} {cap : Nat} {ns : List Int} (h : St W F cs w) (hR : RdS (Kd.one Vi) F A ns) (h0 : 0 < ns.length) (hd : ns.Nodup) (hn : ns.length ≤ 100000) : Calls prog 137 #[.slice A ns.length cap] w fun e w' => ∃ m l, e = .returned (.map (some m)) ∧ MR (.bool : Bool → Value) F ns (ns.map fun _ => none) l ∧ St W F ([(m, mobj l)] :: cs) w'  := by
 refine enter (args := [.slice A ns.length cap]) func137 rfl rfl rfl ?_
 obtain ⟨ad, rfl, hrd⟩ := rd1 hR h0
 refine Wi<|WL.e 1 rfl<|We<|WL.makeMap rfl h fun m6 w1 h1=>WL.e 1 rfl<|Wh<|WL.e 1 rfl<|C0 (R0 underlying33 rfl rfl) rfl<|WL.e 1 rfl<|Wj<|WC.lp (σ := Nat × List (Int × Value)) (fun q_ => [(3, .map (some m6)), (7, .slice (some ad) ns.length cap), (8, .int .i64 (ns.length : Int)), (9, .int .i64 (q_.1 : Int))]) (fun q_ w => q_.1 ≤ ns.length ∧ MR (.bool : Bool → Value) F (ns.take q_.1) ((ns.take q_.1).map fun _ => none) q_.2 ∧ St W F ([(m6, mobj q_.2)] :: cs) w) (fun q_ => ns.length - q_.1) (⟨0, []⟩) (⟨by omega, trivial, h1⟩) ?_
 rintro ⟨i, l⟩ w2 ⟨hi, hm, hL⟩
 try dsimp only at hi hm hL
 refine O2 [(3, .map (some m6)), (7, .slice (some ad) ns.length cap), (8, .int .i64 (ns.length : Int)), (9, .int .i64 (i : Int))]<|Wi<|WL.e 1 rfl<|Wb<|U0 rfl (fun c3 => ?_) (fun c3 => ?_)
 ·try simp only [DD] at c3
  refine O0<|H0<|L0<|WC.block<|Wi<|C0 (C1 underlying33 inf3 rfl rfl (n := i) rfl (by omega)) rfl<|C0 (T1 (f := Vi) (0 : Int) hL hrd (n := i) (by omega) underlying3 rfl rfl) rfl<|WL.e 1 rfl<|Wf<|WL.e 2 rfl<|F4 hL 0 rfl underlying136 underlying3 rfl rfl rfl ?_
  intro  w4 h4
  try simp only [ZZ] at h4
  refine WL.nil<|WN.blk<|H0<|K0<|C0 (Q0 rfl rfl (by omega)) rfl<|WL.e 1 rfl<|WL.nil<|X0 (⟨i + 1, _⟩ : Nat × List (Int × Value)) (by show ns.length - (i + 1) < ns.length - i; omega) ⟨rfl, rfl, rfl, rfl, trivial⟩ ⟨by show i + 1 ≤ _; omega, ?_, h4⟩
  have := hm.snoc (n := ns.getD i 0) (o := none) (v := .pointer none) rfl (nodup_take hd (by omega))
  show MR _ _ (ns.take (i + 1)) ((ns.take (i + 1)).map fun _ => none) _
  rw [take_nx (by omega), List.map_append]
  exact this
 ·try simp only [DD] at c3
  refine WC.exit<|Q1<|WX.cut<|S1<|H0<|Wi<|WL.e 2 rfl<|WL.nil (H0 (I1 ?_))
  obtain rfl : i = ns.length := by omega
  rw [List.take_of_length_le (Nat.le_refl _)] at hm
  exact ret1 rfl rfl ⟨_, _, rfl, hm, hL⟩
theorem empty_int {cs : List Res} (w : World) {A : Option Addr} {cap : Nat} {ns : List Int} (h : St W F cs w) (hR : RdS (Kd.one Vi) F A ns) (h0 : 0 < ns.length) (hd : ns.Nodup) (hn : ns.length ≤ 100000) : Calls prog 138 #[.slice A ns.length cap] w fun e w' => ∃ m l, e = .returned (.map (some m)) ∧ MR (Vi : Int → Value) F ns (ns.map fun _ => none) l ∧ St W F ([(m, mobj l)] :: cs) w'  := by
 refine enter (args := [.slice A ns.length cap]) func138 rfl rfl rfl ?_
 obtain ⟨ad, rfl, hrd⟩ := rd1 hR h0
 refine Wi<|WL.e 1 rfl<|We<|WL.makeMap rfl h fun m6 w1 h1=>WL.e 1 rfl<|Wh<|WL.e 1 rfl<|C0 (R0 underlying33 rfl rfl) rfl<|WL.e 1 rfl<|Wj<|WC.lp (σ := Nat × List (Int × Value)) (fun q_ => [(3, .map (some m6)), (7, .slice (some ad) ns.length cap), (8, .int .i64 (ns.length : Int)), (9, .int .i64 (q_.1 : Int))]) (fun q_ w => q_.1 ≤ ns.length ∧ MR (Vi : Int → Value) F (ns.take q_.1) ((ns.take q_.1).map fun _ => none) q_.2 ∧ St W F ([(m6, mobj q_.2)] :: cs) w) (fun q_ => ns.length - q_.1) (⟨0, []⟩) (⟨by omega, trivial, h1⟩) ?_
 rintro ⟨i, l⟩ w2 ⟨hi, hm, hL⟩
 try dsimp only at hi hm hL
 refine O2 [(3, .map (some m6)), (7, .slice (some ad) ns.length cap), (8, .int .i64 (ns.length : Int)), (9, .int .i64 (i : Int))]<|Wi<|WL.e 1 rfl<|Wb<|U0 rfl (fun c3 => ?_) (fun c3 => ?_)
 ·try simp only [DD] at c3
  refine O0<|H0<|L0<|WC.block<|Wi<|C0 (C1 underlying33 inf3 rfl rfl (n := i) rfl (by omega)) rfl<|C0 (T1 (f := Vi) (0 : Int) hL hrd (n := i) (by omega) underlying3 rfl rfl) rfl<|WL.e 1 rfl<|Wf<|WL.e 2 rfl<|F4 hL 0 rfl underlying137 underlying3 rfl rfl rfl ?_
  intro  w4 h4
  try simp only [ZZ] at h4
  refine WL.nil<|WN.blk<|H0<|K0<|C0 (Q0 rfl rfl (by omega)) rfl<|WL.e 1 rfl<|WL.nil<|X0 (⟨i + 1, _⟩ : Nat × List (Int × Value)) (by show ns.length - (i + 1) < ns.length - i; omega) ⟨rfl, rfl, rfl, rfl, trivial⟩ ⟨by show i + 1 ≤ _; omega, ?_, h4⟩
  have := hm.snoc (n := ns.getD i 0) (o := none) (v := .pointer none) rfl (nodup_take hd (by omega))
  show MR _ _ (ns.take (i + 1)) ((ns.take (i + 1)).map fun _ => none) _
  rw [take_nx (by omega), List.map_append]
  exact this
 ·try simp only [DD] at c3
  refine WC.exit<|Q1<|WX.cut<|S1<|H0<|Wi<|WL.e 2 rfl<|WL.nil (H0 (I1 ?_))
  obtain rfl : i = ns.length := by omega
  rw [List.take_of_length_le (Nat.le_refl _)] at hm
  exact ret1 rfl rfl ⟨_, _, rfl, hm, hL⟩
theorem say_bool_A {cs : List Res} (w : World) (i : Nat) {m : Nat} {l : List (Int × Value)} {ns : List Int} {os : List (Option Bool)} (n : Int) (x y : Bool) (may : Bool) (h : St W F cs w) (hi : cs[i]? = some [(m, mobj l)]) (hm : MR .bool F ns os l) (hl : look n ns os = none) : Calls prog 129 #[.map (some m), Vi n, .bool x, .bool may] w fun e w' => ∃ G l', Le F G ∧ e = .returned (Vi (say ns os n x may).1) ∧ MR .bool G ns (say ns os n x may).2 l' ∧ St W G (cs.set i [(m, mobj l')]) w'  := by
 refine enter (args := [.map (some m), Vi n, .bool x, .bool may]) func129 rfl rfl rfl ?_
 have hf := hm.find n 0
 rw [hl] at hf
 have hlk : (Value.tuple #[((mfind n l 0).map (·.2)).getD (.pointer none), .bool (mfind n l 0).isSome]) = .tuple #[.pointer none, .bool false] := by
  rcases hf with ⟨_, h2⟩ | ⟨_, _, _, h1, _⟩
  ·rw [h2]; rfl
  ·cases h1
 refine Wi<|WL.box rfl h rfl fun b6 w1 h1=>WL.e 1 rfl<|We<|WL.e 2 rfl<|C0 (L1 (u := .tuple #[.pointer none, .bool false]) (C3 h1 (i + 1) hi underlying136 underlying3 inf140 rfl rfl) hlk) rfl<|WL.e 5 rfl<|Wb<|WC.block<|Wi<|WL.e 3 rfl<|Wa<|B1 rfl (rfl)<|Wi<|WL.e 1 rfl<|Wg<|ret1 rfl rfl ⟨F, l, Le.refl _, ?_, ?_, by rw [set_self hi]; exact h1.drop 0⟩
 ·simp [say, hl]
 ·simp only [say, hl]; exact hm
theorem say_bool_B {cs : List Res} (w : World) (i : Nat) {m : Nat} {l : List (Int × Value)} {ns : List Int} {os : List (Option Bool)} (n : Int) (x y : Bool) (may : Bool) (h : St W F cs w) (hi : cs[i]? = some [(m, mobj l)]) (hm : MR .bool F ns os l) (hl : look n ns os = some (some y)) (hy : y = x) : Calls prog 129 #[.map (some m), Vi n, .bool x, .bool may] w fun e w' => ∃ G l', Le F G ∧ e = .returned (Vi (say ns os n x may).1) ∧ MR .bool G ns (say ns os n x may).2 l' ∧ St W G (cs.set i [(m, mobj l')]) w'  := by
 refine enter (args := [.map (some m), Vi n, .bool x, .bool may]) func129 rfl rfl rfl ?_
 have hf := hm.find n 0
 rw [hl] at hf
 obtain ⟨ay, hlk, hay⟩ : ∃ a, (Value.tuple #[((mfind n l 0).map (·.2)).getD (.pointer none), .bool (mfind n l 0).isSome]) = .tuple #[.pointer (some a), .bool true] ∧ cellF F a = some (.bool y) := by
  rcases hf with ⟨h1, _⟩ | ⟨_, _, _, h1, h2, h3⟩
  ·cases h1
  ·cases h1
   obtain ⟨a, rfl, h5⟩ := h3
   exact ⟨a, by rw [h2]; rfl, h5⟩
 subst hy
 refine Wi<|WL.box rfl h rfl fun b6 w1 h1=>WL.e 1 rfl<|We<|WL.e 2 rfl<|C0 (L1 (u := .tuple #[.pointer (some ay), .bool true]) (C3 h1 (i + 1) hi underlying136 underlying3 inf140 rfl rfl) hlk) rfl<|WL.e 5 rfl<|Wb<|WC.block<|Wi<|WL.e 3 rfl<|Wa<|V0 rfl (rfl)<|L0<|I2 (C := fun w_ => St W F _ w_) mixed (by kernel_rfl) (h1.drew)<|WQ.e 1 rfl<|WQ.val (fun w_ hC_ => Q2 underlying140 rfl rfl) rfl<|WQ.e 3 rfl<|WQ.gn rfl<|WQ.val (fun w_ hC_ => I0 underlying4 rfl rfl (hC_.cell hay)) rfl<|WQ.m [0] 1 rfl<|WQ.gn rfl<|WQ.val (fun w_ hC_ => Bt (Runs.eqlb underlying4 rfl rfl) (by simp)) rfl<|WQ.e 2 rfl<|WQ.fin fun w2 h2=>H0<|B1 rfl (rfl)<|Wi<|WL.e 1 rfl<|Wg<|ret1 rfl rfl ⟨F, l, Le.refl _, ?_, ?_, by rw [set_self hi]; exact h2.drop 0⟩
 ·simp [say, hl, if_true]
 ·simp only [say, hl, if_true]; exact hm
theorem say_bool_C {cs : List Res} (w : World) (i : Nat) {m : Nat} {l : List (Int × Value)} {ns : List Int} {os : List (Option Bool)} (n : Int) (x y : Bool) (may : Bool) (h : St W F cs w) (hi : cs[i]? = some [(m, mobj l)]) (hm : MR .bool F ns os l) (hl : look n ns os = some (some y)) (hy : y ≠ x) : Calls prog 129 #[.map (some m), Vi n, .bool x, .bool may] w fun e w' => ∃ G l', Le F G ∧ e = .returned (Vi (say ns os n x may).1) ∧ MR .bool G ns (say ns os n x may).2 l' ∧ St W G (cs.set i [(m, mobj l')]) w'  := by
 refine enter (args := [.map (some m), Vi n, .bool x, .bool may]) func129 rfl rfl rfl ?_
 have hf := hm.find n 0
 rw [hl] at hf
 obtain ⟨ay, hlk, hay⟩ : ∃ a, (Value.tuple #[((mfind n l 0).map (·.2)).getD (.pointer none), .bool (mfind n l 0).isSome]) = .tuple #[.pointer (some a), .bool true] ∧ cellF F a = some (.bool y) := by
  rcases hf with ⟨h1, _⟩ | ⟨_, _, _, h1, h2, h3⟩
  ·cases h1
  ·cases h1
   obtain ⟨a, rfl, h5⟩ := h3
   exact ⟨a, by rw [h2]; rfl, h5⟩
 refine Wi<|WL.box rfl h rfl fun b6 w1 h1=>WL.e 1 rfl<|We<|WL.e 2 rfl<|C0 (L1 (u := .tuple #[.pointer (some ay), .bool true]) (C3 h1 (i + 1) hi underlying136 underlying3 inf140 rfl rfl) hlk) rfl<|WL.e 5 rfl<|Wb<|WC.block<|Wi<|WL.e 3 rfl<|Wa<|V0 rfl (rfl)<|L0<|I2 (C := fun w_ => St W F _ w_) mixed (by kernel_rfl) (h1.drew)<|WQ.e 1 rfl<|WQ.val (fun w_ hC_ => Q2 underlying140 rfl rfl) rfl<|WQ.e 3 rfl<|WQ.gn rfl<|WQ.val (fun w_ hC_ => I0 underlying4 rfl rfl (hC_.cell hay)) rfl<|WQ.m [0] 1 rfl<|WQ.gn rfl<|WQ.val (fun w_ hC_ => Bf (Runs.eqlb underlying4 rfl rfl) (by simp [hy])) rfl<|WQ.e 2 rfl<|WQ.fin fun w2 h2=>H0<|V0 rfl (rfl)<|Wi<|WL.e 1 rfl<|C0 (Q2 underlying140 rfl rfl) rfl<|WL.e 5 rfl<|Wa<|B1 rfl (rfl)<|Wi<|WL.e 1 rfl<|Wg<|ret1 rfl rfl ⟨F, l, Le.refl _, ?_, ?_, by rw [set_self hi]; exact h2.drop 0⟩
 ·simp [say, hl, hy]
 ·simp only [say, hl, hy, if_false]; exact hm
theorem say_bool_D {cs : List Res} (w : World) (i : Nat) {m : Nat} {l : List (Int × Value)} {ns : List Int} {os : List (Option Bool)} (n : Int) (x y : Bool) (may : Bool) (h : St W F cs w) (hi : cs[i]? = some [(m, mobj l)]) (hm : MR .bool F ns os l) (hl : look n ns os = some none) (hmay : may = false) : Calls prog 129 #[.map (some m), Vi n, .bool x, .bool may] w fun e w' => ∃ G l', Le F G ∧ e = .returned (Vi (say ns os n x may).1) ∧ MR .bool G ns (say ns os n x may).2 l' ∧ St W G (cs.set i [(m, mobj l')]) w'  := by
 refine enter (args := [.map (some m), Vi n, .bool x, .bool may]) func129 rfl rfl rfl ?_
 have hf := hm.find n 0
 rw [hl] at hf
 obtain ⟨hlk, _⟩ : (Value.tuple #[((mfind n l 0).map (·.2)).getD (.pointer none), .bool (mfind n l 0).isSome]) = .tuple #[.pointer none, .bool true] ∧ True := by
  rcases hf with ⟨h1, _⟩ | ⟨_, _, _, h1, h2, h3⟩
  ·cases h1
  ·cases h1
   exact ⟨by rw [h2]; cases h3; rfl, trivial⟩
 subst hmay
 refine Wi<|WL.box rfl h rfl fun b6 w1 h1=>WL.e 1 rfl<|We<|WL.e 2 rfl<|C0 (L1 (u := .tuple #[.pointer none, .bool true]) (C3 h1 (i + 1) hi underlying136 underlying3 inf140 rfl rfl) hlk) rfl<|WL.e 5 rfl<|Wb<|WC.block<|Wi<|WL.e 3 rfl<|Wa<|V0 rfl (rfl)<|L0<|I2 (C := fun w_ => St W F _ w_) mixed (by kernel_rfl) (h1.drew)<|WQ.e 1 rfl<|WQ.val (fun w_ hC_ => Q2 underlying140 rfl rfl) rfl<|WQ.e 8 rfl<|WQ.fin fun w2 h2=>H0<|V0 rfl (rfl)<|Wi<|WL.e 1 rfl<|C0 (Q2 underlying140 rfl rfl) rfl<|WL.e 5 rfl<|Wa<|B1 rfl (rfl)<|Wi<|WL.e 1 rfl<|Wg<|ret1 rfl rfl ⟨F, l, Le.refl _, ?_, ?_, by rw [set_self hi]; exact h2.drop 0⟩
 ·simp [say, hl]
 ·simp only [say, hl, Bool.false_eq_true, if_false]; exact hm
theorem say_bool_E {cs : List Res} (w : World) (i : Nat) {m : Nat} {l : List (Int × Value)} {ns : List Int} {os : List (Option Bool)} (n : Int) (x y : Bool) (may : Bool) (h : St W F cs w) (hi : cs[i]? = some [(m, mobj l)]) (hm : MR .bool F ns os l) (hl : look n ns os = some none) (hmay : may = true) : Calls prog 129 #[.map (some m), Vi n, .bool x, .bool may] w fun e w' => ∃ G l', Le F G ∧ e = .returned (Vi (say ns os n x may).1) ∧ MR .bool G ns (say ns os n x may).2 l' ∧ St W G (cs.set i [(m, mobj l')]) w'  := by
 refine enter (args := [.map (some m), Vi n, .bool x, .bool may]) func129 rfl rfl rfl ?_
 have hf := hm.find n 0
 rw [hl] at hf
 obtain ⟨hlk, _⟩ : (Value.tuple #[((mfind n l 0).map (·.2)).getD (.pointer none), .bool (mfind n l 0).isSome]) = .tuple #[.pointer none, .bool true] ∧ True := by
  rcases hf with ⟨h1, _⟩ | ⟨_, _, _, h1, h2, h3⟩
  ·cases h1
  ·cases h1
   exact ⟨by rw [h2]; cases h3; rfl, trivial⟩
 subst hmay
 refine Wi<|WL.box rfl h rfl fun b6 w1 h1=>WL.e 1 rfl<|We<|WL.e 2 rfl<|C0 (L1 (u := .tuple #[.pointer none, .bool true]) (C3 h1 (i + 1) hi underlying136 underlying3 inf140 rfl rfl) hlk) rfl<|WL.e 5 rfl<|Wb<|WC.block<|Wi<|WL.e 3 rfl<|Wa<|V0 rfl (rfl)<|L0<|I2 (C := fun w_ => St W F _ w_) mixed (by kernel_rfl) (h1.drew)<|WQ.e 1 rfl<|WQ.val (fun w_ hC_ => Q2 underlying140 rfl rfl) rfl<|WQ.e 8 rfl<|WQ.fin fun w2 h2=>H0<|V0 rfl (rfl)<|Wi<|WL.e 1 rfl<|C0 (Q2 underlying140 rfl rfl) rfl<|WL.e 5 rfl<|Wa<|V0 rfl (rfl)<|O0<|WN.blk<|H0<|Wi<|WL.e 2 rfl<|F4 h2 (i + 1) hi underlying136 underlying3 rfl rfl rfl ?_
 intro  w3 h3
 try simp only [ZZ] at h3
 refine We<|WL.e 1 rfl<|WL.nil (H0 (I1 ?_))
 obtain ⟨G, g1, g2, g3⟩ := h3.freeze (i := 0) rfl
 have hc : cellF G ⟨b6, 0, none⟩ = some (.bool x) := by
  have := g2 _ (List.mem_cons_self)
  unfold cellF
  simp only [this]
  rfl
 refine ret1 rfl rfl ⟨G, _, g1, ?_, ?_, g3⟩
 ·simp [say, hl]
 ·simp only [say, hl, if_true]
  exact (hm.mono g1).put ⟨_, rfl, hc⟩ (by rw [hl]; rfl)
theorem say_bool {cs : List Res} (w : World) (i : Nat) {m : Nat} {l : List (Int × Value)} {ns : List Int} {os : List (Option Bool)} (n : Int) (x : Bool) (may : Bool) (h : St W F cs w) (hi : cs[i]? = some [(m, mobj l)]) (hm : MR .bool F ns os l) : Calls prog 129 #[.map (some m), Vi n, .bool x, .bool may] w fun e w' => ∃ G l', Le F G ∧ e = .returned (Vi (say ns os n x may).1) ∧ MR .bool G ns (say ns os n x may).2 l' ∧ St W G (cs.set i [(m, mobj l')]) w' := by
 cases hl : look n ns os with
 |none => exact say_bool_A w i n x x may h hi hm hl
 |some o =>
  cases o with
  |none =>
   cases may
   ·exact say_bool_D w i n x x false h hi hm hl rfl
   ·exact say_bool_E w i n x x true h hi hm hl rfl
  |some y =>
   by_cases hy : y = x
   ·exact say_bool_B w i n x y may h hi hm hl hy
   ·exact say_bool_C w i n x y may h hi hm hl hy
theorem say_int_A {cs : List Res} (w : World) (i : Nat) {m : Nat} {l : List (Int × Value)} {ns : List Int} {os : List (Option Int)} (n : Int) (x y : Int) (may : Bool) (h : St W F cs w) (hi : cs[i]? = some [(m, mobj l)]) (hm : MR Vi F ns os l) (hl : look n ns os = none) : Calls prog 130 #[.map (some m), Vi n, Vi x, .bool may] w fun e w' => ∃ G l', Le F G ∧ e = .returned (Vi (say ns os n x may).1) ∧ MR Vi G ns (say ns os n x may).2 l' ∧ St W G (cs.set i [(m, mobj l')]) w'  := by
 refine enter (args := [.map (some m), Vi n, Vi x, .bool may]) func130 rfl rfl rfl ?_
 have hf := hm.find n 0
 rw [hl] at hf
 have hlk : (Value.tuple #[((mfind n l 0).map (·.2)).getD (.pointer none), .bool (mfind n l 0).isSome]) = .tuple #[.pointer none, .bool false] := by
  rcases hf with ⟨_, h2⟩ | ⟨_, _, _, h1, _⟩
  ·rw [h2]; rfl
  ·cases h1
 refine Wi<|WL.box rfl h rfl fun b6 w1 h1=>WL.e 1 rfl<|We<|WL.e 2 rfl<|C0 (L1 (u := .tuple #[.pointer none, .bool false]) (C3 h1 (i + 1) hi underlying137 underlying3 inf167 rfl rfl) hlk) rfl<|WL.e 5 rfl<|Wb<|WC.block<|Wi<|WL.e 3 rfl<|Wa<|B1 rfl (rfl)<|Wi<|WL.e 1 rfl<|Wg<|ret1 rfl rfl ⟨F, l, Le.refl _, ?_, ?_, by rw [set_self hi]; exact h1.drop 0⟩
 ·simp [say, hl]
 ·simp only [say, hl]; exact hm
theorem say_int_B {cs : List Res} (w : World) (i : Nat) {m : Nat} {l : List (Int × Value)} {ns : List Int} {os : List (Option Int)} (n : Int) (x y : Int) (may : Bool) (h : St W F cs w) (hi : cs[i]? = some [(m, mobj l)]) (hm : MR Vi F ns os l) (hl : look n ns os = some (some y)) (hy : y = x) : Calls prog 130 #[.map (some m), Vi n, Vi x, .bool may] w fun e w' => ∃ G l', Le F G ∧ e = .returned (Vi (say ns os n x may).1) ∧ MR Vi G ns (say ns os n x may).2 l' ∧ St W G (cs.set i [(m, mobj l')]) w'  := by
 refine enter (args := [.map (some m), Vi n, Vi x, .bool may]) func130 rfl rfl rfl ?_
 have hf := hm.find n 0
 rw [hl] at hf
 obtain ⟨ay, hlk, hay⟩ : ∃ a, (Value.tuple #[((mfind n l 0).map (·.2)).getD (.pointer none), .bool (mfind n l 0).isSome]) = .tuple #[.pointer (some a), .bool true] ∧ cellF F a = some (Vi y) := by
  rcases hf with ⟨h1, _⟩ | ⟨_, _, _, h1, h2, h3⟩
  ·cases h1
  ·cases h1
   obtain ⟨a, rfl, h5⟩ := h3
   exact ⟨a, by rw [h2]; rfl, h5⟩
 subst hy
 refine Wi<|WL.box rfl h rfl fun b6 w1 h1=>WL.e 1 rfl<|We<|WL.e 2 rfl<|C0 (L1 (u := .tuple #[.pointer (some ay), .bool true]) (C3 h1 (i + 1) hi underlying137 underlying3 inf167 rfl rfl) hlk) rfl<|WL.e 5 rfl<|Wb<|WC.block<|Wi<|WL.e 3 rfl<|Wa<|V0 rfl (rfl)<|L0<|I2 (C := fun w_ => St W F _ w_) mixed (by kernel_rfl) (h1.drew)<|WQ.e 1 rfl<|WQ.val (fun w_ hC_ => Q2 underlying167 rfl rfl) rfl<|WQ.e 3 rfl<|WQ.gn rfl<|WQ.val (fun w_ hC_ => I0 underlying3 rfl rfl (hC_.cell hay)) rfl<|WQ.m [0] 1 rfl<|WQ.gn rfl<|WQ.val (fun w_ hC_ => Bt (Y0 rfl rfl) (by simp)) rfl<|WQ.e 2 rfl<|WQ.fin fun w2 h2=>H0<|B1 rfl (rfl)<|Wi<|WL.e 1 rfl<|Wg<|ret1 rfl rfl ⟨F, l, Le.refl _, ?_, ?_, by rw [set_self hi]; exact h2.drop 0⟩
 ·simp [say, hl, if_true]
 ·simp only [say, hl, if_true]; exact hm
theorem say_int_C {cs : List Res} (w : World) (i : Nat) {m : Nat} {l : List (Int × Value)} {ns : List Int} {os : List (Option Int)} (n : Int) (x y : Int) (may : Bool) (h : St W F cs w) (hi : cs[i]? = some [(m, mobj l)]) (hm : MR Vi F ns os l) (hl : look n ns os = some (some y)) (hy : y ≠ x) : Calls prog 130 #[.map (some m), Vi n, Vi x, .bool may] w fun e w' => ∃ G l', Le F G ∧ e = .returned (Vi (say ns os n x may).1) ∧ MR Vi G ns (say ns os n x may).2 l' ∧ St W G (cs.set i [(m, mobj l')]) w'  := by
 refine enter (args := [.map (some m), Vi n, Vi x, .bool may]) func130 rfl rfl rfl ?_
 have hf := hm.find n 0
 rw [hl] at hf
 obtain ⟨ay, hlk, hay⟩ : ∃ a, (Value.tuple #[((mfind n l 0).map (·.2)).getD (.pointer none), .bool (mfind n l 0).isSome]) = .tuple #[.pointer (some a), .bool true] ∧ cellF F a = some (Vi y) := by
  rcases hf with ⟨h1, _⟩ | ⟨_, _, _, h1, h2, h3⟩
  ·cases h1
  ·cases h1
   obtain ⟨a, rfl, h5⟩ := h3
   exact ⟨a, by rw [h2]; rfl, h5⟩
 refine Wi<|WL.box rfl h rfl fun b6 w1 h1=>WL.e 1 rfl<|We<|WL.e 2 rfl<|C0 (L1 (u := .tuple #[.pointer (some ay), .bool true]) (C3 h1 (i + 1) hi underlying137 underlying3 inf167 rfl rfl) hlk) rfl<|WL.e 5 rfl<|Wb<|WC.block<|Wi<|WL.e 3 rfl<|Wa<|V0 rfl (rfl)<|L0<|I2 (C := fun w_ => St W F _ w_) mixed (by kernel_rfl) (h1.drew)<|WQ.e 1 rfl<|WQ.val (fun w_ hC_ => Q2 underlying167 rfl rfl) rfl<|WQ.e 3 rfl<|WQ.gn rfl<|WQ.val (fun w_ hC_ => I0 underlying3 rfl rfl (hC_.cell hay)) rfl<|WQ.m [0] 1 rfl<|WQ.gn rfl<|WQ.val (fun w_ hC_ => Bf (Y0 rfl rfl) (by simp [hy])) rfl<|WQ.e 2 rfl<|WQ.fin fun w2 h2=>H0<|V0 rfl (rfl)<|Wi<|WL.e 1 rfl<|C0 (Q2 underlying167 rfl rfl) rfl<|WL.e 5 rfl<|Wa<|B1 rfl (rfl)<|Wi<|WL.e 1 rfl<|Wg<|ret1 rfl rfl ⟨F, l, Le.refl _, ?_, ?_, by rw [set_self hi]; exact h2.drop 0⟩
 ·simp [say, hl, hy]
 ·simp only [say, hl, hy, if_false]; exact hm
theorem say_int_D {cs : List Res} (w : World) (i : Nat) {m : Nat} {l : List (Int × Value)} {ns : List Int} {os : List (Option Int)} (n : Int) (x y : Int) (may : Bool) (h : St W F cs w) (hi : cs[i]? = some [(m, mobj l)]) (hm : MR Vi F ns os l) (hl : look n ns os = some none) (hmay : may = false) : Calls prog 130 #[.map (some m), Vi n, Vi x, .bool may] w fun e w' => ∃ G l', Le F G ∧ e = .returned (Vi (say ns os n x may).1) ∧ MR Vi G ns (say ns os n x may).2 l' ∧ St W G (cs.set i [(m, mobj l')]) w'  := by
 refine enter (args := [.map (some m), Vi n, Vi x, .bool may]) func130 rfl rfl rfl ?_
 have hf := hm.find n 0
 rw [hl] at hf
 obtain ⟨hlk, _⟩ : (Value.tuple #[((mfind n l 0).map (·.2)).getD (.pointer none), .bool (mfind n l 0).isSome]) = .tuple #[.pointer none, .bool true] ∧ True := by
  rcases hf with ⟨h1, _⟩ | ⟨_, _, _, h1, h2, h3⟩
  ·cases h1
  ·cases h1
   exact ⟨by rw [h2]; cases h3; rfl, trivial⟩
 subst hmay
 refine Wi<|WL.box rfl h rfl fun b6 w1 h1=>WL.e 1 rfl<|We<|WL.e 2 rfl<|C0 (L1 (u := .tuple #[.pointer none, .bool true]) (C3 h1 (i + 1) hi underlying137 underlying3 inf167 rfl rfl) hlk) rfl<|WL.e 5 rfl<|Wb<|WC.block<|Wi<|WL.e 3 rfl<|Wa<|V0 rfl (rfl)<|L0<|I2 (C := fun w_ => St W F _ w_) mixed (by kernel_rfl) (h1.drew)<|WQ.e 1 rfl<|WQ.val (fun w_ hC_ => Q2 underlying167 rfl rfl) rfl<|WQ.e 8 rfl<|WQ.fin fun w2 h2=>H0<|V0 rfl (rfl)<|Wi<|WL.e 1 rfl<|C0 (Q2 underlying167 rfl rfl) rfl<|WL.e 5 rfl<|Wa<|B1 rfl (rfl)<|Wi<|WL.e 1 rfl<|Wg<|ret1 rfl rfl ⟨F, l, Le.refl _, ?_, ?_, by rw [set_self hi]; exact h2.drop 0⟩
 ·simp [say, hl]
 ·simp only [say, hl, Bool.false_eq_true, if_false]; exact hm
theorem say_int_E {cs : List Res} (w : World) (i : Nat) {m : Nat} {l : List (Int × Value)} {ns : List Int} {os : List (Option Int)} (n : Int) (x y : Int) (may : Bool) (h : St W F cs w) (hi : cs[i]? = some [(m, mobj l)]) (hm : MR Vi F ns os l) (hl : look n ns os = some none) (hmay : may = true) : Calls prog 130 #[.map (some m), Vi n, Vi x, .bool may] w fun e w' => ∃ G l', Le F G ∧ e = .returned (Vi (say ns os n x may).1) ∧ MR Vi G ns (say ns os n x may).2 l' ∧ St W G (cs.set i [(m, mobj l')]) w'  := by
 refine enter (args := [.map (some m), Vi n, Vi x, .bool may]) func130 rfl rfl rfl ?_
 have hf := hm.find n 0
 rw [hl] at hf
 obtain ⟨hlk, _⟩ : (Value.tuple #[((mfind n l 0).map (·.2)).getD (.pointer none), .bool (mfind n l 0).isSome]) = .tuple #[.pointer none, .bool true] ∧ True := by
  rcases hf with ⟨h1, _⟩ | ⟨_, _, _, h1, h2, h3⟩
  ·cases h1
  ·cases h1
   exact ⟨by rw [h2]; cases h3; rfl, trivial⟩
 subst hmay
 refine Wi<|WL.box rfl h rfl fun b6 w1 h1=>WL.e 1 rfl<|We<|WL.e 2 rfl<|C0 (L1 (u := .tuple #[.pointer none, .bool true]) (C3 h1 (i + 1) hi underlying137 underlying3 inf167 rfl rfl) hlk) rfl<|WL.e 5 rfl<|Wb<|WC.block<|Wi<|WL.e 3 rfl<|Wa<|V0 rfl (rfl)<|L0<|I2 (C := fun w_ => St W F _ w_) mixed (by kernel_rfl) (h1.drew)<|WQ.e 1 rfl<|WQ.val (fun w_ hC_ => Q2 underlying167 rfl rfl) rfl<|WQ.e 8 rfl<|WQ.fin fun w2 h2=>H0<|V0 rfl (rfl)<|Wi<|WL.e 1 rfl<|C0 (Q2 underlying167 rfl rfl) rfl<|WL.e 5 rfl<|Wa<|V0 rfl (rfl)<|O0<|WN.blk<|H0<|Wi<|WL.e 2 rfl<|F4 h2 (i + 1) hi underlying137 underlying3 rfl rfl rfl ?_
 intro  w3 h3
 try simp only [ZZ] at h3
 refine We<|WL.e 1 rfl<|WL.nil (H0 (I1 ?_))
 obtain ⟨G, g1, g2, g3⟩ := h3.freeze (i := 0) rfl
 have hc : cellF G ⟨b6, 0, none⟩ = some (Vi x) := by
  have := g2 _ (List.mem_cons_self)
  unfold cellF
  simp only [this]
  rfl
 refine ret1 rfl rfl ⟨G, _, g1, ?_, ?_, g3⟩
 ·simp [say, hl]
 ·simp only [say, hl, if_true]
  exact (hm.mono g1).put ⟨_, rfl, hc⟩ (by rw [hl]; rfl)
theorem say_int {cs : List Res} (w : World) (i : Nat) {m : Nat} {l : List (Int × Value)} {ns : List Int} {os : List (Option Int)} (n : Int) (x : Int) (may : Bool) (h : St W F cs w) (hi : cs[i]? = some [(m, mobj l)]) (hm : MR Vi F ns os l) : Calls prog 130 #[.map (some m), Vi n, Vi x, .bool may] w fun e w' => ∃ G l', Le F G ∧ e = .returned (Vi (say ns os n x may).1) ∧ MR Vi G ns (say ns os n x may).2 l' ∧ St W G (cs.set i [(m, mobj l')]) w' := by
 cases hl : look n ns os with
 |none => exact say_int_A w i n x x may h hi hm hl
 |some o =>
  cases o with
  |none =>
   cases may
   ·exact say_int_D w i n x x false h hi hm hl rfl
   ·exact say_int_E w i n x x true h hi hm hl rfl
  |some y =>
   by_cases hy : y = x
   ·exact say_int_B w i n x y may h hi hm hl hy
   ·exact say_int_C w i n x y may h hi hm hl hy
theorem can89 : B.Can prog 89 := ⟨_, func89, by kernel_rfl, rfl⟩
theorem can90 : B.Can prog 90 := ⟨_, func90, by kernel_rfl, rfl⟩
theorem can162 : B.Can prog 162 := ⟨_, func162, by kernel_rfl, rfl⟩
structure TR (F : Snap) (cs : List Res) (bt i j mv mc : Nat) (lv lc : List (Int × Value)) (t : T) : Prop where
 s0 : ∃ A cap, cellF F ⟨bt, 0, none⟩ = some (.slice A t.ns.length cap) ∧ RdS (Kd.one Vi) F A t.ns
 s1 : cellF F ⟨bt, 1, none⟩ = some (.map (some mv))
 s2 : cellF F ⟨bt, 2, none⟩ = some (.map (some mc))
 iv : cs[i]? = some [(mv, mobj lv)]
 ic : cs[j]? = some [(mc, mobj lc)]
 rv : MR Value.bool F t.ns t.vs lv
 rc : MR Vi F t.ns t.cs lc
 pos : 0 < t.ns.length
 small : t.ns.length ≤ 16
 nd : t.ns.Nodup
 ne : i ≠ j
theorem max_step (l : List Int) (i : Nat) (a : Int) (hi : i < l.length) : (l.take (i + 1)).foldl max a = (if (l.take i).foldl max a < l.getD i 0 then l.getD i 0 else (l.take i).foldl max a) := by
 rw [take_nx hi, List.foldl_append]
 show max _ _ = _
 rw [Int.max_def]
 split <;> split <;> omega
theorem not_false {t : T} {lv : List (Int × Value)} {F : Snap} (h : MR Value.bool F t.ns t.vs lv) {seen : Array Nat} (hs : ∀ p, p ∈ seen → t.vs[p]? ≠ some (some false)) (ha : ∀ p, p < lv.length → p ∈ seen) : some false ∉ t.vs := by
 intro hm
 obtain ⟨p, hp⟩ := List.getElem?_of_mem hm
 have hl := h.len
 have : p < t.vs.length := (List.getElem?_eq_some_iff.1 hp).1
 exact hs p (ha p (by omega)) hp
theorem max_c {cs : List Res} (w : World) {ad : Addr} {cap : Nat} (a : Int) (l : List Int) (h : St W F cs w) (hrd : ∀ i x, (a :: l)[i]? = some x → cellF F (ad.add i) = some (Vi x)) (hn : (a :: l).length ≤ 100000) : Calls prog 162 #[.slice (some ad) (a :: l).length cap] w fun e w' => e = .returned (Vi (l.foldl max a)) ∧ St W F cs w'  := by
 refine enter (args := [.slice (some ad) (a :: l).length cap]) func162 rfl rfl rfl<|Wi<|WL.e 1 rfl<|Wh<|WL.e 1 rfl<|C0 (R0 underlying33 rfl rfl) rfl<|C0 (Bf (N1 rfl rfl) (by rw [decide_eq_false_iff_not, List.length_cons]; omega)) rfl<|Wa<|V0 rfl (rfl)<|Wk<|WL.e 1 rfl<|C0 (C1 underlying33 inf3 rfl rfl (n := 0) rfl (by rw [List.length_cons]; omega)) rfl<|C0 (N0 (n := a) (T1 (f := Vi) (0 : Int) h hrd (n := 0) (by rw [List.length_cons]; omega) underlying3 rfl rfl) rfl) rfl<|WL.e 1 rfl<|Wh<|WL.e 1 rfl<|Wj<|WC.lp (σ := Nat) (fun q_ => [(0, .slice (some ad) (a :: l).length cap), (3, Vi ((l.take q_).foldl max a)), (4, .int .i64 ((q_ + 1 : Nat) : Int))]) (fun q_ w => q_ ≤ l.length ∧ St W F cs w) (fun q_ => l.length - q_) (0) (⟨by omega, h⟩) ?_
 rintro i w1 ⟨hi, hL⟩
 try dsimp only at hi hL
 refine O2 [(0, .slice (some ad) (a :: l).length cap), (3, Vi ((l.take i).foldl max a)), (4, .int .i64 ((i + 1 : Nat) : Int))] ?_
 have hll : (a :: l).length = l.length + 1 := rfl
 refine L0<|Wi<|WL.e 2 rfl<|C0 (R0 underlying33 rfl rfl) rfl<|WL.e 1 rfl<|Wa<|U0 rfl (fun c2 => ?_) (fun c2 => ?_)
 ·try simp only [DD] at c2
  refine O0<|H0<|L0<|WC.block<|K0<|WL.e 3 rfl<|C0 (C1 underlying33 inf3 rfl rfl (n := i + 1) rfl (by omega)) rfl<|C0 (N0 (n := l.getD i 0) (T1 (f := Vi) (0 : Int) hL hrd (n := i + 1) (by omega) underlying3 rfl rfl) (by simp)) rfl<|C0 (Runs.max rfl rfl) rfl<|WL.e 1 rfl<|WL.nil<|WN.blk<|H0<|K0<|WL.e 1 rfl<|C0 (Q0 rfl rfl (by omega)) rfl<|WL.e 1 rfl<|WL.nil<|X0 (i + 1) (by omega) ⟨rfl, ?_, rfl, trivial⟩ ⟨by omega, hL⟩
  show _ = some (Vi ((l.take (i + 1)).foldl max a))
  rw [max_step _ _ _ (by omega)]
  rfl
 ·try simp only [DD] at c2
  refine WC.exit<|Q1<|WX.cut<|S1<|H0<|Wi<|WL.e 2 rfl<|WL.nil (H0 (I1 ?_))
  obtain rfl : i = l.length := by omega
  refine ret1 rfl rfl ⟨?_, hL⟩
  rw [List.take_of_length_le (Nat.le_refl _)]
theorem worst_1 {cs : List Res} (w : World) {A : Option Addr} {cap : Nat} (a : Int) (l : List Int) (h : St W F cs w) (hR : RdS (Kd.one Vi) F A (a :: l)) (hn : (a :: l).length ≤ 100000) : Calls prog 140 #[.slice A (a :: l).length cap] w fun e w' => e = .returned (Vi (worst (a :: l))) ∧ St W F cs w'  := by
 refine enter (args := [.slice A (a :: l).length cap]) func140 rfl rfl rfl ?_
 obtain ⟨ad, rfl, hrd⟩ := rd1 hR (by rw [List.length_cons]; omega)
 refine Wi<|WL.e 1 rfl<|Wh<|WL.e 1 rfl<|C0 (R0 underlying33 rfl rfl) rfl<|C0 (Bf (Y0 rfl rfl) (by rw [decide_eq_false_iff_not, List.length_cons]; omega)) rfl<|Wa<|V0 rfl (rfl)<|Wk<|WL.e 1 rfl<|WL.cv can162 rfl rfl (max_c _ a l h hrd hn) fun w1 h1 =>WL.e 1 rfl<|Wg<|ret1 rfl rfl ⟨rfl, h1⟩
theorem worst_0 {cs : List Res} (w : World) {A : Option Addr} {cap : Nat} (h : St W F cs w) : Calls prog 140 #[.slice A 0 cap] w fun e w' => e = .returned (Vi (worst [])) ∧ St W F cs w'  := by
 refine enter (args := [.slice A 0 cap]) func140 rfl rfl rfl<|Wi<|WL.e 1 rfl<|Wh<|WL.e 1 rfl<|C0 (R0 underlying33 rfl rfl) rfl<|WL.e 1 rfl<|Wa<|B1 rfl (rfl)<|Wi<|WL.e 1 rfl<|Wg<|ret1 rfl rfl ⟨rfl, h⟩
theorem worst_c {cs : List Res} (w : World) {A : Option Addr} {cap : Nat} (xs : List Int) (h : St W F cs w) (hR : RdS (Kd.one Vi) F A xs) (hn : xs.length ≤ 100000) : Calls prog 140 #[.slice A xs.length cap] w fun e w' => e = .returned (Vi (worst xs)) ∧ St W F cs w' := by
 cases xs with
 |nil => exact worst_0 w h
 |cons a l => exact worst_1 w a l h hR hn
theorem state_c {cs : List Res} (w : World) {bt i j mv mc : Nat} {lv lc : List (Int × Value)} {t : T} (h : St W F cs w) (ht : TR F cs bt i j mv mc lv lc t) : Calls prog 45 #[.pointer (some ⟨bt, 0, none⟩)] w fun e w' => e = .returned (Vi t.state) ∧ St W F cs w'  := by
 refine enter (args := [.pointer (some ⟨bt, 0, none⟩)]) func45 rfl rfl rfl ?_
 obtain ⟨A, cap, hs0, hR⟩ := ht.s0
 have hpos := ht.pos
 have hsmall := ht.small
 refine Wi<|WL.e 1 rfl<|Wh<|WL.e 1 rfl<|C0 (V1 underlying97 rfl rfl) rfl<|Wa<|V0 rfl (rfl)<|O0<|H0<|L0<|Wi<|WL.e 3 rfl<|C0 (I0 underlying136 rfl rfl (h.cell ht.s1)) rfl<|WL.range h i ht.iv underlying136 rfl rfl ?_
 intro it w1 h1
 try simp only [ZZ] at h1
 refine Wj<|WC.lp (σ := Array Nat) (fun q_ => [(0, .pointer (some ⟨bt, 0, none⟩)), (11, .pointer (some ⟨it, 0, none⟩))]) (fun q_ w => (∀ p, p ∈ q_ → t.vs[p]? ≠ some (some false)) ∧ St W F ([(it, .mapIter (some mv) lv.length q_ lv.length)] :: cs) w) (fun q_ => togo lv.length q_) (#[]) (⟨by simp, h1⟩) ?_
 rintro seen w2 ⟨hq, hL⟩
 try dsimp only at hq hL
 refine O2 [(0, .pointer (some ⟨bt, 0, none⟩)), (11, .pointer (some ⟨it, 0, none⟩))]<|Wi<|WL.next1 hL 0 (i + 1) rfl ht.iv rfl rfl fun on wn hnx=>C0 (Runs.extract rfl (nxa0 on)) rfl<|Wb<|U0 rfl (fun c3 => ?_) (fun c3 => ?_)
 ·try simp only [DD] at c3
  refine O0 (H0 (WC.block (L0 (K0 ?_))))
  obtain ⟨p, kv, rfl, hp, hps, hS⟩ : ∃ p kv, on = some kv ∧ lv[p]? = some kv ∧ p ∉ seen ∧ St W F ([(it, .mapIter (some mv) lv.length (seen.push p) lv.length)] :: cs) wn := by
   rcases hnx with ⟨rfl, _⟩ | hnx
   ·simp_all
   ·exact hnx
  obtain ⟨ov, hov, hpo⟩ := ht.rv.at_ hp
  refine C0 (Runs.entry hS 0 (i + 1) rfl ht.iv hp rfl) rfl<|WL.e 2 rfl<|WL.nil (H0 (L0 ?_))
  cases hov2 : ov
  ·rw [hov2] at hpo hov
   obtain ⟨k0, kx⟩ := kv
   obtain rfl : kx = .pointer none := hpo
   refine K0<|WL.e 1 rfl<|C0 (Q2 underlying140 rfl rfl) rfl<|WL.e 6 rfl<|Wa<|V0 rfl (rfl)<|O0<|WN.blk<|X0 (seen.push p) (togo_push (List.getElem?_eq_some_iff.1 hp).1 hps) ⟨rfl, rfl, trivial⟩ ⟨?_, hS⟩
   intro p' hp'
   rcases Array.mem_push.1 hp' with hp' | rfl
   ·exact hq p' hp'
   ·rw [hov]; simp_all
  ·rename_i bv
   rw [hov2] at hpo hov
   obtain ⟨k0, kx⟩ := kv
   obtain ⟨ap, rfl, hpb⟩ : ∃ a, kx = .pointer (some a) ∧ cellF F a = some (.bool bv) := hpo
   refine K0<|WL.e 1 rfl<|C0 (Q2 underlying140 rfl rfl) rfl<|WL.e 3 rfl<|WL.gn rfl<|C0 (I0 underlying4 rfl rfl (hS.cell hpb)) rfl<|WL.e 2 rfl<|Wa<|U0 rfl (fun c4 => ?_) (fun c4 => ?_)
   ·try simp only [DD] at c4
    refine Wi<|WL.e 1 rfl<|Wg<|ret1 rfl rfl ⟨?_, hS.drop 0⟩
    have : some false ∈ t.vs := List.mem_of_getElem? (i := p) (by rw [hov]; simp_all)
    simp [T.state, this]
   ·try simp only [DD] at c4
    refine O0<|WN.blk<|X0 (seen.push p) (togo_push (List.getElem?_eq_some_iff.1 hp).1 hps) ⟨rfl, rfl, trivial⟩ ⟨?_, hS⟩
    intro p' hp'
    rcases Array.mem_push.1 hp' with hp' | rfl
    ·exact hq p' hp'
    ·rw [hov]; simp_all
 ·try simp only [DD] at c3
  refine WC.exit<|Q1<|WX.cut<|S1<|H0<|L0<|WC.block (L0 ?_)
  obtain ⟨rfl, hall, hS2⟩ : on = none ∧ (∀ p, p < lv.length → p ∈ seen) ∧ St W F ([(it, .mapIter (some mv) lv.length seen lv.length)] :: cs) wn := by
   rcases hnx with hnx | ⟨_, _, rfl, _⟩
   ·exact hnx
   ·simp_all
  have hnf := not_false ht.rv hq hall
  refine O3 (fun w_ => St W _ _ w_) (fun k => Nat.beq k 8) mixed (by kernel_rfl) (hS2.drew)<|fun hx =>WM.e hx 3 rfl<|WM.val 12 hx (by rfl) rfl (by kernel_rfl) (fun w_ hC_ => I0 underlying33 rfl rfl (hC_.cell hs0)) rfl<|WM.e hx 3 rfl<|WM.val 12 hx (by rfl) rfl (by kernel_rfl) (fun w_ hC_ => I0 underlying136 rfl rfl (hC_.cell ht.s1)) rfl<|Z3 hx rfl (by decide) (by kernel_rfl) fun w5 h5=>WD.op (by rfl) rfl (by kernel_rfl)<|H1 can89 rfl rfl (silent_bool _ (i + 1) h5 ht.iv ht.rv hR ht.pos ht.nd (by omega)) ?_
  rintro _ w6 ⟨G7, A7, cap7, hle7, rfl, hc7, hrd7, h6⟩
  refine ⟨_, rfl,WL.nil<|L3<|X2 hx (by rfl) (fun w_ => R0 underlying33 rfl rfl) rfl<|X2 hx (by rfl) (fun w_ => X1 rfl rfl) rfl<|X2 hx (by rfl) (fun w_ => Runs.assign rfl) rfl<|WD.fin rfl (by kernel_rfl)<|H0<|U0 rfl (fun c8 => ?_) (fun c8 => ?_)⟩
  ·try simp only [DD] at c8
   refine Wi<|WL.e 1 rfl<|Wg<|ret1 rfl rfl ⟨?_, (h6.drop 0).weak hle7⟩
   simp only [T.state, hnf, if_false]
   rw [if_pos (by omega)]
  ·try simp only [DD] at c8
   refine L0<|O3 (fun w_ => St W _ _ w_) (fun k => Nat.beq k 8) mixed (by kernel_rfl) (h6.drew)<|fun hx =>WM.e hx 3 rfl<|WM.val 12 hx (by rfl) rfl (by kernel_rfl) (fun w_ hC_ => I0 underlying33 rfl rfl (hC_.cell (cellF_le hle7 hs0))) rfl<|WM.e hx 3 rfl<|WM.val 12 hx (by rfl) rfl (by kernel_rfl) (fun w_ hC_ => I0 underlying137 rfl rfl (hC_.cell (cellF_le hle7 ht.s2))) rfl<|Z3 hx rfl (by decide) (by kernel_rfl) fun w9 h9=>WD.op (by rfl) rfl (by kernel_rfl)<|H1 can90 rfl rfl (silent_int _ (j + 1) h9 ht.ic (ht.rc.mono hle7) (hR.mono hle7) ht.pos ht.nd (by omega)) ?_
   rintro _ w10 ⟨G11, A11, cap11, hle11, rfl, hc11, hrd11, h10⟩
   refine ⟨_, rfl,WL.nil<|L3<|X2 hx (by rfl) (fun w_ => R0 underlying33 rfl rfl) rfl<|X2 hx (by rfl) (fun w_ => X1 rfl rfl) rfl<|X2 hx (by rfl) (fun w_ => Runs.assign rfl) rfl<|WD.fin rfl (by kernel_rfl)<|H0<|U0 rfl (fun c12 => ?_) (fun c12 => ?_)⟩
   ·try simp only [DD] at c12
    refine Wi<|WL.e 1 rfl<|Wg<|ret1 rfl rfl ⟨?_, (h10.drop 0).weak (Le.trans hle7 hle11)⟩
    simp only [T.state, hnf, if_false]
    rw [if_neg (by omega), if_pos (by omega)]
   ·try simp only [DD] at c12
    refine O0<|WN.blk<|H0<|Wi<|WL.e 1 rfl<|Wg<|ret1 rfl rfl ⟨?_, (h10.drop 0).weak (Le.trans hle7 hle11)⟩
    simp only [T.state, hnf, if_false]
    rw [if_neg (by omega), if_neg (by omega)]
theorem can45 : B.Can prog 45 := ⟨_, func45, by kernel_rfl, rfl⟩
theorem can129 : B.Can prog 129 := ⟨_, func129, by kernel_rfl, rfl⟩
theorem can130 : B.Can prog 130 := ⟨_, func130, by kernel_rfl, rfl⟩
theorem can140 : B.Can prog 140 := ⟨_, func140, by kernel_rfl, rfl⟩
theorem TR.mono {F G : Snap} {cs : List Res} {bt i j mv mc : Nat} {lv lc : List (Int × Value)} {t : T} (hle : Le F G) (h : TR F cs bt i j mv mc lv lc t) : TR G cs bt i j mv mc lv lc t := by
 obtain ⟨⟨A, cap, h1, h2⟩, h3, h4, h5, h6, h7, h8, h9, h10, h11, h12⟩ := h
 exact ⟨⟨A, cap, cellF_le hle h1, h2.mono hle⟩, cellF_le hle h3, cellF_le hle h4, h5, h6, h7.mono hle, h8.mono hle, h9, h10, h11, h12⟩
theorem TR.vote {F G : Snap} {cs : List Res} {bt i j mv mc : Nat} {lv lc : List (Int × Value)} {t : T} {l1 : List (Int × Value)} {vs' : List (Option Bool)} (h : TR F cs bt i j mv mc lv lc t) (hle : Le F G) (hm : MR Value.bool G t.ns vs' l1) : TR G (cs.set i [(mv, mobj l1)]) bt i j mv mc l1 lc { t with vs := vs' } := by
 obtain ⟨⟨A, cap, h1, h2⟩, h3, h4, h5, h6, h7, h8, h9, h10, h11, h12⟩ := h
 exact ⟨⟨A, cap, cellF_le hle h1, h2.mono hle⟩, cellF_le hle h3, cellF_le hle h4, by rw [List.getElem?_set_self (List.getElem?_eq_some_iff.1 h5).1], by rw [List.getElem?_set_ne h12]; exact h6, hm, h8.mono hle, h9, h10, h11, h12⟩
theorem TR.exit {F G : Snap} {cs : List Res} {bt i j mv mc : Nat} {lv lc : List (Int × Value)} {t : T} {l1 : List (Int × Value)} {cs' : List (Option Int)} (h : TR F cs bt i j mv mc lv lc t) (hle : Le F G) (hm : MR Vi G t.ns cs' l1) : TR G (cs.set j [(mc, mobj l1)]) bt i j mv mc lv l1 { t with cs := cs' } := by
 obtain ⟨⟨A, cap, h1, h2⟩, h3, h4, h5, h6, h7, h8, h9, h10, h11, h12⟩ := h
 exact ⟨⟨A, cap, cellF_le hle h1, h2.mono hle⟩, cellF_le hle h3, cellF_le hle h4, by rw [List.getElem?_set_ne (Ne.symm h12)]; exact h5, by rw [List.getElem?_set_self (List.getElem?_eq_some_iff.1 h6).1], h7.mono hle, hm, h9, h10, h11, h12⟩
theorem exit_no {t : T} {n c : Int} (h : c < 0 ∨ 255 < c) : t.exit n c = (1, t) := if_pos h
theorem exit_yes {t : T} {n c : Int} (h : ¬ (c < 0 ∨ 255 < c)) : t.exit n c = ((say t.ns t.cs n c (decide (t.state = 1))).1, { t with cs := (say t.ns t.cs n c (decide (t.state = 1))).2 }) := if_neg h
theorem vote_c {cs : List Res} (w : World) (n : Int) (b : Bool) {bt i j mv mc : Nat} {lv lc : List (Int × Value)} {t : T} (h : St W F cs w) (ht : TR F cs bt i j mv mc lv lc t) : Calls prog 87 #[.pointer (some ⟨bt, 0, none⟩), Vi n, .bool b] w fun e w' => ∃ G lv', Le F G ∧ e = .returned (Vi (t.vote n b).1) ∧ St W G (cs.set i [(mv, mobj lv')]) w' ∧ TR G (cs.set i [(mv, mobj lv')]) bt i j mv mc lv' lc (t.vote n b).2  := by
 refine enter (args := [.pointer (some ⟨bt, 0, none⟩), Vi n, .bool b]) func87 rfl rfl rfl ?_
 obtain ⟨A, cap, hs0, hR⟩ := ht.s0
 have hpos := ht.pos
 have hsmall := ht.small
 refine Wi<|WL.e 1 rfl<|Wh<|WL.e 1 rfl<|C0 (V1 underlying97 rfl rfl) rfl<|Wa<|V0 rfl (rfl)<|O0<|H0<|L0<|O3 (fun w_ => St W _ _ w_) (fun k => Nat.beq k 9) mixed (by kernel_rfl) (h.drew)<|fun hx =>WM.e hx 3 rfl<|WM.val 12 hx (by rfl) rfl (by kernel_rfl) (fun w_ hC_ => I0 underlying136 rfl rfl (hC_.cell ht.s1)) rfl<|WM.e hx 3 rfl<|F5 12 hx (by rfl) rfl (by kernel_rfl) can45 rfl rfl (fun w_ hC_ => state_c _ hC_ ht)<|WM.e hx 1 rfl<|Z3 hx rfl (by decide) (by kernel_rfl) fun w1 h1=>WD.op (by rfl) rfl (by kernel_rfl)<|H1 can129 rfl rfl (say_bool _ i n b _ h1 ht.iv ht.rv) ?_
 rintro _ w2 ⟨G, l1, hle, rfl, hm1, h2⟩
 refine ⟨_, rfl,WL.nil<|L3<|X2 hx (by rfl) (fun w_ => Runs.assign rfl) rfl<|WD.fin rfl (by kernel_rfl)<|H0<|I1<|ret1 rfl rfl ⟨G, l1, hle, rfl, h2, ht.vote hle hm1⟩⟩
theorem exit_1 {cs : List Res} (w : World) (n c : Int) {bt i j mv mc : Nat} {lv lc : List (Int × Value)} {t : T} (h : St W F cs w) (ht : TR F cs bt i j mv mc lv lc t) (hc : c < 0) : Calls prog 88 #[.pointer (some ⟨bt, 0, none⟩), Vi n, Vi c] w fun e w' => ∃ G lc', Le F G ∧ e = .returned (Vi (t.exit n c).1) ∧ St W G (cs.set j [(mc, mobj lc')]) w' ∧ TR G (cs.set j [(mc, mobj lc')]) bt i j mv mc lv lc' (t.exit n c).2  := by
 refine enter (args := [.pointer (some ⟨bt, 0, none⟩), Vi n, Vi c]) func88 rfl rfl rfl ?_
 obtain ⟨A, cap, hs0, hR⟩ := ht.s0
 have hpos := ht.pos
 have hsmall := ht.small
 have hbad : c < 0 ∨ 255 < c := by omega
 refine Wi<|WL.e 1 rfl<|Wh<|WL.e 1 rfl<|C0 (V1 underlying97 rfl rfl) rfl<|WL.e 2 rfl<|WL.gn rfl<|C0 (Bt (N1 rfl rfl) (by rw [decide_eq_true_eq]; omega)) rfl<|WL.e 5 rfl<|Wa<|B1 rfl (rfl)<|Wi<|WL.e 1 rfl<|Wg<|ret1 rfl rfl ⟨F, lc, Le.refl _, ?_, by rw [set_self ht.ic]; exact h, by rw [set_self ht.ic, exit_no hbad]; exact ht⟩
 rw [exit_no hbad]
theorem exit_2 {cs : List Res} (w : World) (n c : Int) {bt i j mv mc : Nat} {lv lc : List (Int × Value)} {t : T} (h : St W F cs w) (ht : TR F cs bt i j mv mc lv lc t) (h0 : 0 ≤ c) (hc : 255 < c) : Calls prog 88 #[.pointer (some ⟨bt, 0, none⟩), Vi n, Vi c] w fun e w' => ∃ G lc', Le F G ∧ e = .returned (Vi (t.exit n c).1) ∧ St W G (cs.set j [(mc, mobj lc')]) w' ∧ TR G (cs.set j [(mc, mobj lc')]) bt i j mv mc lv lc' (t.exit n c).2  := by
 refine enter (args := [.pointer (some ⟨bt, 0, none⟩), Vi n, Vi c]) func88 rfl rfl rfl ?_
 obtain ⟨A, cap, hs0, hR⟩ := ht.s0
 have hpos := ht.pos
 have hsmall := ht.small
 have hbad : c < 0 ∨ 255 < c := by omega
 refine Wi<|WL.e 1 rfl<|Wh<|WL.e 1 rfl<|C0 (V1 underlying97 rfl rfl) rfl<|WL.e 2 rfl<|WL.gn rfl<|C0 (Bf (N1 rfl rfl) (by rw [decide_eq_false_iff_not]; omega)) rfl<|WL.e 3 rfl<|WL.gn rfl<|C0 (Bt (X1 rfl rfl) (by rw [decide_eq_true_eq]; omega)) rfl<|WL.e 1 rfl<|Wa<|B1 rfl (rfl)<|Wi<|WL.e 1 rfl<|Wg<|ret1 rfl rfl ⟨F, lc, Le.refl _, ?_, by rw [set_self ht.ic]; exact h, by rw [set_self ht.ic, exit_no hbad]; exact ht⟩
 rw [exit_no hbad]
theorem exit_3 {cs : List Res} (w : World) (n c : Int) {bt i j mv mc : Nat} {lv lc : List (Int × Value)} {t : T} (h : St W F cs w) (ht : TR F cs bt i j mv mc lv lc t) (h0 : 0 ≤ c) (hc : c ≤ 255) : Calls prog 88 #[.pointer (some ⟨bt, 0, none⟩), Vi n, Vi c] w fun e w' => ∃ G lc', Le F G ∧ e = .returned (Vi (t.exit n c).1) ∧ St W G (cs.set j [(mc, mobj lc')]) w' ∧ TR G (cs.set j [(mc, mobj lc')]) bt i j mv mc lv lc' (t.exit n c).2  := by
 refine enter (args := [.pointer (some ⟨bt, 0, none⟩), Vi n, Vi c]) func88 rfl rfl rfl ?_
 obtain ⟨A, cap, hs0, hR⟩ := ht.s0
 have hpos := ht.pos
 have hsmall := ht.small
 have hbad : ¬ (c < 0 ∨ 255 < c) := by omega
 refine Wi<|WL.e 1 rfl<|Wh<|WL.e 1 rfl<|C0 (V1 underlying97 rfl rfl) rfl<|WL.e 2 rfl<|WL.gn rfl<|C0 (Bf (N1 rfl rfl) (by rw [decide_eq_false_iff_not]; omega)) rfl<|WL.e 3 rfl<|WL.gn rfl<|C0 (Bf (X1 rfl rfl) (by rw [decide_eq_false_iff_not]; omega)) rfl<|WL.e 1 rfl<|Wa<|V0 rfl (rfl)<|O0<|H0<|L0<|O3 (fun w_ => St W _ _ w_) (fun k => Nat.beq k 9) mixed (by kernel_rfl) (h.drew)<|fun hx =>WM.e hx 3 rfl<|WM.val 12 hx (by rfl) rfl (by kernel_rfl) (fun w_ hC_ => I0 underlying137 rfl rfl (hC_.cell ht.s2)) rfl<|WM.e hx 3 rfl<|F5 12 hx (by rfl) rfl (by kernel_rfl) can45 rfl rfl (fun w_ hC_ => state_c _ hC_ ht)<|WM.e hx 1 rfl<|Z3 hx rfl (by decide) (by kernel_rfl) fun w1 h1=>WD.op (by rfl) rfl (by kernel_rfl)<|H1 can130 rfl rfl (say_int _ j n c _ h1 ht.ic ht.rc) ?_
 rintro _ w2 ⟨G, l1, hle, rfl, hm1, h2⟩
 refine ⟨_, rfl,WL.nil<|L3<|X2 hx (by rfl) (fun w_ => Runs.assign rfl) rfl<|WD.fin rfl (by kernel_rfl)<|H0<|I1<|ret1 rfl rfl ⟨G, l1, hle, ?_, h2, ?_⟩⟩
 ·rw [exit_yes hbad]
 ·rw [exit_yes hbad]; exact ht.exit hle hm1
theorem exit_c {cs : List Res} (w : World) (n c : Int) {bt i j mv mc : Nat} {lv lc : List (Int × Value)} {t : T} (h : St W F cs w) (ht : TR F cs bt i j mv mc lv lc t) : Calls prog 88 #[.pointer (some ⟨bt, 0, none⟩), Vi n, Vi c] w fun e w' => ∃ G lc', Le F G ∧ e = .returned (Vi (t.exit n c).1) ∧ St W G (cs.set j [(mc, mobj lc')]) w' ∧ TR G (cs.set j [(mc, mobj lc')]) bt i j mv mc lv lc' (t.exit n c).2 := by
 by_cases h1 : c < 0
 ·exact exit_1 w n c h ht h1
 ·by_cases h2 : 255 < c
  ·exact exit_2 w n c h ht (by omega) h2
  ·exact exit_3 w n c h ht (by omega) (by omega)
theorem codes_all {t : T} (hl : t.cs.length = t.ns.length) (h : t.state = 3) : ∀ o ∈ t.cs, o.isSome = true := by
 unfold T.state at h
 split at h
 ·cases h
 ·split at h
  ·cases h
  ·split at h
   ·cases h
   ·rename_i h3
    exact (miss_none hl).1 (List.eq_nil_of_length_eq_zero (by omega))
theorem look_at {ns : List Int} {os : List (Option Int)} : ∀ {k : Nat}, ns.Nodup → os.length = ns.length → k < ns.length → look (ns.getD k 0) ns os = some (os.getD k none) := by
 induction ns generalizing os with
 |nil => intro k _ _ h; simp at h
 |cons m ns ih =>
  intro k hd hl hk
  cases os with
  |nil => simp at hl
  |cons o os =>
   have hd' := List.nodup_cons.1 hd
   cases k with
   |zero => simp [look]
   |succ k =>
    simp only [List.length_cons, Nat.add_lt_add_iff_right] at hk hl
    have hne : ns.getD k 0 ≠ m := fun e => hd'.1 (e ▸ mem_at hk)
    have := ih (os := os) hd'.2 (by simpa using hl) hk
    unfold look
    simp only [List.getD_cons_succ]
    rw [if_neg hne]
    exact this
theorem code_at {F : Snap} {ns : List Int} {os : List (Option Int)} {l : List (Int × Value)} {k : Nat} (hm : MR Vi F ns os l) (hd : ns.Nodup) (hk : k < ns.length) (ha : ∀ o ∈ os, o.isSome = true) : ∃ a, ((mfind (ns.getD k 0) l 0).map (·.2)).getD (.pointer none) = .pointer (some a) ∧ cellF F a = some (Vi ((os.map (·.getD 0)).getD k 0)) := by
 have hl := hm.len
 have h1 := look_at hd hl.1 hk
 rcases hm.find (ns.getD k 0) 0 with ⟨h2, _⟩ | ⟨o, i', v, h2, h3, h4⟩
 ·rw [h1] at h2; cases h2
 ·rw [h1] at h2
  simp only [Option.some.injEq] at h2
  have hk' : k < os.length := by omega
  have e : os.getD k none = os[k] := by rw [List.getD_eq_getElem?_getD, List.getElem?_eq_getElem hk']; rfl
  have hs := ha os[k] (List.getElem_mem hk')
  rw [e] at h2
  subst h2
  have e2 : (os.map (·.getD 0)).getD k 0 = (os[k]).getD 0 := by simp [List.getD_eq_getElem?_getD, List.getElem?_eq_getElem hk']
  rw [h3, e2]
  cases h5 : os[k] with
  |none => rw [h5] at hs; cases hs
  |some x =>
   rw [h5] at h4
   obtain ⟨a, h6, h7⟩ := h4
   exact ⟨a, by rw [← h6]; rfl, h7⟩
theorem code_c {cs : List Res} (w : World) {bt i j mv mc : Nat} {lv lc : List (Int × Value)} {t : T} (h : St W F cs w) (ht : TR F cs bt i j mv mc lv lc t) : Calls prog 100 #[.pointer (some ⟨bt, 0, none⟩)] w fun e w' => e = .returned (Vi t.code) ∧ St W F cs w'  := by
 refine enter (args := [.pointer (some ⟨bt, 0, none⟩)]) func100 rfl rfl rfl ?_
 obtain ⟨A, cap, hs0, hR⟩ := ht.s0
 have hpos := ht.pos
 have hsmall := ht.small
 refine Wi<|WL.e 1 rfl<|Wh<|WL.e 1 rfl<|WL.cv can45 rfl rfl (state_c _ h ht) fun w1 h1 =>WL.e 1 rfl<|Wa<|U0 rfl (fun c2 => ?_) (fun c2 => ?_)
 ·try simp only [DD] at c2
  refine Wi<|WL.e 1 rfl<|Wg<|ret1 rfl rfl ⟨?_, h1⟩
  have : t.state ≠ 3 := by simp_all
  simp [T.code, this]
 ·try simp only [DD] at c2
  refine O0 (H0 (L0 (K0 ?_)))
  have hst : t.state = 3 := by simp_all
  have hall := codes_all ht.rc.len.1 hst
  have hcl := ht.rc.len.1
  obtain ⟨ad, rfl, hrd⟩ := rd1 hR hpos
  have hN0 := h1.nilRes
  refine WL.e 1 rfl<|Wh<|WL.e 3 rfl<|C0 (I0 underlying33 rfl rfl (hN0.cell hs0)) rfl<|C0 (R0 underlying33 rfl rfl) rfl<|WL.e 1 rfl<|Wj<|WC.lp (σ := Nat × Res × Value) (fun q_ => [(0, .pointer (some ⟨bt, 0, none⟩)), (3, q_.2.2), (12, .slice (some ad) t.ns.length cap), (13, .int .i64 (t.ns.length : Int)), (14, .int .i64 (q_.1 : Int))]) (fun q_ w => q_.1 ≤ t.ns.length ∧ Row 3 Vi q_.2.1 q_.2.2 ((t.cs.map (·.getD 0)).take q_.1) ∧ St W F (q_.2.1 :: cs) w) (fun q_ => t.ns.length - q_.1) (⟨0, [], .slice none 0 0⟩) (⟨by omega, Row.nil _ _, hN0⟩) ?_
  rintro ⟨k, r, v⟩ w3 ⟨hk, hro, hL⟩
  try dsimp only at hk hro hL
  refine O2 [(0, .pointer (some ⟨bt, 0, none⟩)), (3, v), (12, .slice (some ad) t.ns.length cap), (13, .int .i64 (t.ns.length : Int)), (14, .int .i64 (k : Int))] ?_
  obtain ⟨A1, cap1, rfl, hcap⟩ := hro.val
  have hlen : ((t.cs.map (·.getD 0)).take k).length = k := by rw [List.length_take, List.length_map]; omega
  have hac := fun h => code_at (k := k) ht.rc ht.nd h hall
  refine Wi<|WL.e 1 rfl<|Wb<|U0 rfl (fun c4 => ?_) (fun c4 => ?_)
  ·try simp only [DD] at c4
   refine O0 (H0 (L0 (WC.block (L0 ?_))))
   obtain ⟨ac, hac1, hac2⟩ := hac (by omega)
   refine K0<|C0 (C1 underlying33 inf3 rfl rfl (n := k) rfl (by omega)) rfl<|C0 (T1 (f := Vi) (0 : Int) hL hrd (n := k) (by omega) underlying3 rfl rfl) rfl<|WL.e 1 rfl<|Wf<|WL.e 4 rfl<|C0 (I0 underlying137 rfl rfl (hL.cell ht.s2)) rfl<|WL.e 1 rfl<|C0 (L1 (u := .pointer (some ac)) (U4 hL (j + 1) ht.ic underlying137 underlying3 inf167 rfl rfl) hac1) rfl<|WL.e 1 rfl<|C0 (I0 underlying3 rfl rfl (hL.cell hac2)) rfl<|WL.lit (vs := (([(t.cs.map (·.getD 0)).getD k 0] : List Int)).map Vi) hL rfl underlying33 inf3 rfl rfl rfl rfl rfl fun lit27 w5 h5=>J3 (ys := ([(t.cs.map (·.getD 0)).getD k 0] : List Int)) 1 h5 rfl rfl rfl rfl underlying33 underlying33 (.inr ⟨_, rfl⟩) inf3 rfl hro (Src.lit h5 0 rfl rfl rfl) rfl rfl (by first | omega | (simp []; done) | (simp []; omega)) (by first | omega | (simp []; done) | (simp []; omega)) ?_
   intro r6 v6 w7 hr6 h7
   simp only [lz, ls] at h7
   replace h7 := h7.drop 0
   simp only [ez, es'] at h7
   refine WL.e 1 rfl<|WL.nil<|WN.blk<|H0<|K0<|C0 (Q0 rfl rfl (by omega)) rfl<|WL.e 1 rfl<|WL.nil<|X0 (⟨k + 1, r6, v6⟩ : Nat × Res × Value) (by show t.ns.length - (k + 1) < t.ns.length - k; omega) ⟨rfl, rfl, rfl, rfl, rfl, trivial⟩ ⟨by show k + 1 ≤ _; omega, ?_, h7⟩
   have := hr6
   rwa [← take_nx (by simp; omega)] at this
  ·try simp only [DD] at c4
   refine WC.exit<|Q1<|WX.cut<|S1<|H0<|L0<|K0 ?_
   obtain rfl : k = t.ns.length := by omega
   obtain ⟨G, A2, cap2, hle, e2, hc2, hR2, hF⟩ := S3 hro hL
   injection e2 with e2
   obtain ⟨rfl, _, rfl⟩ := Value.slice.inj e2
   refine WL.e 1 rfl<|WL.cv can140 rfl rfl (worst_c _ _ hF hR2 (by rw [hlen]; omega)) fun w8 h8 =>WL.e 1 rfl<|Wg<|ret1 rfl rfl ⟨?_, h8.weak hle⟩
   rw [List.take_of_length_le (by simp; omega)]
   simp [T.code, hst]
theorem missing_c {cs : List Res} (w : World) {bt i j mv mc : Nat} {lv lc : List (Int × Value)} {t : T} (h : St W F cs w) (ht : TR F cs bt i j mv mc lv lc t) : Calls prog 117 #[.pointer (some ⟨bt, 0, none⟩)] w (Gives W F cs Vi t.missing)  := by
 refine enter (args := [.pointer (some ⟨bt, 0, none⟩)]) func117 rfl rfl rfl ?_
 obtain ⟨A, cap, hs0, hR⟩ := ht.s0
 have hpos := ht.pos
 have hsmall := ht.small
 refine Wi<|WL.e 1 rfl<|Wb<|WC.block<|Wi<|WL.e 1 rfl<|C0 (V1 underlying97 rfl rfl) rfl<|WL.e 1 rfl<|Wa<|V0 rfl (rfl)<|Wi<|WL.e 1 rfl<|WL.cv can45 rfl rfl (state_c _ h ht) fun w1 h1 =>WL.e 2 rfl<|Wa<|U0 rfl (fun c2 => ?_) (fun c2 => ?_)
 ·try simp only [DD] at c2
  refine L0<|O3 (fun w_ => St W _ _ w_) (fun k => Nat.beq k 8) mixed (by kernel_rfl) (h1.drew)<|fun hx =>WM.e hx 3 rfl<|WM.val 12 hx (by rfl) rfl (by kernel_rfl) (fun w_ hC_ => I0 underlying33 rfl rfl (hC_.cell hs0)) rfl<|WM.e hx 3 rfl<|WM.val 12 hx (by rfl) rfl (by kernel_rfl) (fun w_ hC_ => I0 underlying136 rfl rfl (hC_.cell ht.s1)) rfl<|Z3 hx rfl (by decide) (by kernel_rfl) fun w3 h3=>WD.op (by rfl) rfl (by kernel_rfl)<|H1 can89 rfl rfl (silent_bool _ i h3 ht.iv ht.rv hR ht.pos ht.nd (by omega)) ?_
  rintro _ w4 ⟨G5, A5, cap5, hle5, rfl, hc5, hrd5, h4⟩
  refine ⟨_, rfl,WL.nil<|L3<|X2 hx (by rfl) (fun w_ => Runs.assign rfl) rfl<|WD.fin rfl (by kernel_rfl)<|H0 (I1 ?_)⟩
  have hst : t.state = 0 := by simp_all
  refine ret1 rfl rfl ?_
  have e : t.missing = miss t.ns t.vs := by simp [T.missing, hst]
  rw [e]
  exact ⟨_, _, _, hle5, rfl, hc5, hrd5, h4⟩
 ·try simp only [DD] at c2
  refine Wi<|WL.e 1 rfl<|WL.cv can45 rfl rfl (state_c _ h1 ht) fun w6 h6 =>WL.e 2 rfl<|Wa<|U0 rfl (fun c7 => ?_) (fun c7 => ?_)
  ·try simp only [DD] at c7
   refine L0<|O3 (fun w_ => St W _ _ w_) (fun k => Nat.beq k 8) mixed (by kernel_rfl) (h6.drew)<|fun hx =>WM.e hx 3 rfl<|WM.val 12 hx (by rfl) rfl (by kernel_rfl) (fun w_ hC_ => I0 underlying33 rfl rfl (hC_.cell hs0)) rfl<|WM.e hx 3 rfl<|WM.val 12 hx (by rfl) rfl (by kernel_rfl) (fun w_ hC_ => I0 underlying137 rfl rfl (hC_.cell ht.s2)) rfl<|Z3 hx rfl (by decide) (by kernel_rfl) fun w8 h8=>WD.op (by rfl) rfl (by kernel_rfl)<|H1 can90 rfl rfl (silent_int _ j h8 ht.ic ht.rc hR ht.pos ht.nd (by omega)) ?_
   rintro _ w9 ⟨G10, A10, cap10, hle10, rfl, hc10, hrd10, h9⟩
   refine ⟨_, rfl,WL.nil<|L3<|X2 hx (by rfl) (fun w_ => Runs.assign rfl) rfl<|WD.fin rfl (by kernel_rfl)<|H0 (I1 ?_)⟩
   have hst : t.state = 1 := by simp_all
   refine ret1 rfl rfl ?_
   have e : t.missing = miss t.ns t.cs := by simp [T.missing, hst]
   rw [e]
   exact ⟨_, _, _, hle10, rfl, hc10, hrd10, h9⟩
  ·try simp only [DD] at c7
   refine O0<|WN.blk<|H0<|Wi<|WL.e 1 rfl<|WL.nil (H0 (I1 ?_))
   have hst : t.state ≠ 0 := by simp_all
   have hst1 : t.state ≠ 1 := by simp_all
   refine ret1 rfl rfl ?_
   have e : t.missing = [] := by simp [T.missing, hst, hst1]
   rw [e]
   exact ⟨_, _, _, Le.refl _, rfl, Nat.le_refl _, .inl rfl, h6⟩
theorem can137 : B.Can prog 137 := ⟨_, func137, by kernel_rfl, rfl⟩
theorem can138 : B.Can prog 138 := ⟨_, func138, by kernel_rfl, rfl⟩
def oks (ns : List Int) : Prop := (∀ k, k < ns.length → 0 ≤ ns.getD k 0 ∧ ns.getD k 0 < 16) ∧ ∀ k, k + 1 < ns.length → ns.getD k 0 < ns.getD (k + 1) 0
theorem oks_lt {ns : List Int} (h : oks ns) : ∀ {i j : Nat}, i < j → j < ns.length → ns.getD i 0 < ns.getD j 0 := by
 intro i j hij hj
 induction j with
 |zero => omega
 |succ j ih =>
  have h1 := h.2 j hj
  by_cases e : i = j
  ·rw [e]; exact h1
  ·have := ih (by omega) (by omega)
   omega
theorem oks_nodup {ns : List Int} (h : oks ns) : ns.Nodup := by
 rw [List.Nodup, List.pairwise_iff_getElem]
 intro i j hi hj hij
 have := oks_lt h hij hj
 rw [List.getD_eq_getElem?_getD, List.getD_eq_getElem?_getD, List.getElem?_eq_getElem hi, List.getElem?_eq_getElem hj] at this
 simp only [Option.getD_some] at this
 omega
theorem oks_len {ns : List Int} (h : oks ns) : ns.length ≤ 16 := by
 have : ∀ k, k < ns.length → (k : Int) ≤ ns.getD k 0 := by
  intro k
  induction k with
  |zero => intro hk; exact (h.1 0 hk).1
  |succ k ih => intro hk; have := h.2 k hk; have := ih (by omega); omega
 by_cases hl : ns.length ≤ 16
 ·exact hl
 ·have h1 := this 16 (by omega); have h2 := (h.1 16 (by omega)).2; omega
def last_ (ns : List Int) (k : Nat) : Int := if k = 0 then -1 else ns.getD (k - 1) 0
theorem new_c {cs : List Res} (w : World) {A : Option Addr} {cap : Nat} {ns : List Int} (h : St W F cs w) (hR : RdS (Kd.one Vi) F A ns) (hn : ns.length ≤ 100000) (hk : oks ns) (h0 : 0 < ns.length) : Calls prog 97 #[.slice A ns.length cap] w fun e w' => ∃ G bt mv mc lv lc, e = .returned (.pointer (some ⟨bt, 0, none⟩)) ∧ Le F G ∧ St W G ([(mv, mobj lv)] :: [(mc, mobj lc)] :: cs) w' ∧ TR G ([(mv, mobj lv)] :: [(mc, mobj lc)] :: cs) bt 0 1 mv mc lv lc ⟨ns, ns.map fun _ => none, ns.map fun _ => none⟩  := by
 refine enter (args := [.slice A ns.length cap]) func97 rfl rfl rfl ?_
 obtain ⟨ad, rfl, hrd⟩ := rd1 hR h0
 refine Wi<|WL.e 1 rfl<|We<|WL.e 1 rfl<|Wh<|WL.e 1 rfl<|C0 (R0 underlying33 rfl rfl) rfl<|WL.e 1 rfl<|Wj<|WC.lp (σ := Nat) (fun q_ => [(0, .slice (some ad) ns.length cap), (3, Vi (last_ ns q_)), (6, .slice (some ad) ns.length cap), (7, .int .i64 (ns.length : Int)), (8, .int .i64 (q_ : Int))]) (fun q_ w => q_ ≤ ns.length ∧ St W F cs w) (fun q_ => ns.length - q_) (0) (⟨by omega, h⟩) ?_
 rintro k w1 ⟨hk1, hL⟩
 try dsimp only at hk1 hL
 refine O2 [(0, .slice (some ad) ns.length cap), (3, Vi (last_ ns k)), (6, .slice (some ad) ns.length cap), (7, .int .i64 (ns.length : Int)), (8, .int .i64 (k : Int))] ?_
 have hk3 : k < ns.length → ¬ ns.getD k 0 ≤ last_ ns k := by
  intro hk2
  unfold last_
  split
  ·have := (hk.1 k hk2).1; omega
  ·have := hk.2 (k - 1) (by omega); rw [show k - 1 + 1 = k by omega] at this; omega
 refine Wi<|WL.e 1 rfl<|Wb<|U0 rfl (fun c2 => ?_) (fun c2 => ?_)
 ·try simp only [DD] at c2
  refine O0<|H0<|L0<|WC.block<|Wi<|C0 (C1 underlying33 inf3 rfl rfl (n := k) rfl (by omega)) rfl<|C0 (T1 (f := Vi) (0 : Int) hL hrd (n := k) (by omega) underlying3 rfl rfl) rfl<|WL.e 1 rfl<|Wh<|WL.e 2 rfl<|C0 (Bf (J1 rfl rfl) (by rw [decide_eq_false_iff_not]; exact hk3 (by omega))) rfl<|WL.e 2 rfl<|WL.gn rfl<|C0 (Bf (Z0 rfl rfl) (by rw [decide_eq_false_iff_not]; have := (hk.1 k (by omega)).2; omega)) rfl<|WL.e 1 rfl<|Wa<|V0 rfl (rfl)<|O0<|H0<|K0<|WL.e 2 rfl<|WL.nil<|WN.blk<|H0<|K0<|C0 (Q0 rfl rfl (by omega)) rfl<|WL.e 1 rfl<|WL.nil<|X0 (k + 1) (by omega) ⟨rfl, rfl, rfl, rfl, rfl, trivial⟩ ⟨by omega, hL⟩
 ·try simp only [DD] at c2
  refine WC.exit<|Q1<|WX.cut<|S1<|H0<|L0<|Wi<|WL.e 1 rfl<|C0 (R0 underlying33 rfl rfl) rfl<|C0 (Bf (Y0 rfl rfl) (by rw [decide_eq_false_iff_not]; omega)) rfl<|Wa<|V0 rfl (rfl)<|Wk<|WL.e 1 rfl<|H1 can44 rfl rfl (clone_c _ hL hR h0 hn) ?_
  rintro _ w3 ⟨r1, v1, rfl, hr1, h3⟩
  refine ⟨_, rfl, ?_⟩
  obtain ⟨G1, A1, cap1, hG, e1, hc1, hR1, hS1⟩ := S3 hr1 h3
  injection e1 with e1
  subst e1
  refine WL.e 1 rfl<|We<|WL.e 2 rfl<|H1 can137 rfl rfl (empty_bool _ hS1 hR1 h0 (oks_nodup hk) hn) ?_
  rintro _ w4 ⟨mv, lv, rfl, hmv, h4⟩
  refine ⟨_, rfl,WL.e 1 rfl<|H1 can138 rfl rfl (empty_int _ h4 hR1 h0 (oks_nodup hk) hn) ?_⟩
  rintro _ w5 ⟨mc, lc, rfl, hmc, h5⟩
  refine ⟨_, rfl, ?_⟩
  have hle2 := Le.refl G1
  replace h5 := h5.perm (List.Perm.swap _ _ _)
  refine C0 (B2 (cells := #[.slice A1 ns.length cap1, .map (some mv), .map (some mc)]) rfl (by kernel_rfl)) rfl<|WL.box rfl h5 rfl fun b32 w6 h6=>WL.e 1 rfl<|WL.nil (H0 (I1 ?_))
  obtain ⟨G2, g1, g2, g3⟩ := h6.freeze (i := 0) rfl
  have hbx := g2 _ (List.mem_cons_self)
  refine ret1 rfl rfl ⟨G2, b32, mv, mc, lv, lc, rfl, Le.trans hG g1, g3,⟨⟨A1, cap1, ?_, hR1.mono g1⟩, ?_, ?_, rfl, rfl, hmv.mono (Le.trans hle2 g1), hmc.mono g1, h0, oks_len hk, oks_nodup hk, by decide⟩⟩
  ·unfold cellF; simp only [hbx]; rfl
  ·unfold cellF; simp only [hbx]; rfl
  ·unfold cellF; simp only [hbx]; rfl
theorem state_nil {cs : List Res} (w : World) (h : St W F cs w) : Calls prog 45 #[.pointer none] w fun e w' => e = .returned (Vi 0) ∧ St W F cs w'  := by
 refine enter (args := [.pointer none]) func45 rfl rfl rfl<|Wi<|WL.e 1 rfl<|Wh<|WL.e 1 rfl<|C0 (V1 underlying97 rfl rfl) rfl<|Wa<|B1 rfl (rfl)<|Wi<|WL.e 1 rfl<|Wg<|ret1 rfl rfl ⟨rfl, h⟩
theorem inf33 : Inf prog 33 (.slice none 0 0) 1 24 := by unfold Inf; kernel_rfl
def okp (ns : List Int) (m : Nat) : Prop := (∀ k, k < m → 0 ≤ ns.getD k 0 ∧ ns.getD k 0 < 16) ∧ ∀ k, k + 1 < m → ns.getD k 0 < ns.getD (k + 1) 0
theorem okp_succ {ns : List Int} {k : Nat} (h : okp ns k) (h1 : 0 ≤ ns.getD k 0 ∧ ns.getD k 0 ≤ 15) (h2 : 0 < k → ns.getD (k - 1) 0 < ns.getD k 0) : okp ns (k + 1) := by
 refine ⟨fun j hj => ?_, fun j hj => ?_⟩
 ·by_cases e : j = k
  ·subst e; omega
  ·exact h.1 j (by omega)
 ·by_cases e : j + 1 = k
  ·have := h2 (by omega)
   rw [show k - 1 = j by omega] at this
   rw [e]; exact this
  ·exact h.2 j (by omega)
theorem can92 : B.Can prog 92 := ⟨_, func92, by kernel_rfl, rfl⟩
def eV : Option Bool → Int
 |none => 0
 |some true => 1
 |some false => 2
def eC (o : Option Int) : Int := o.getD (-1)
structure RR (F : Snap) (cs : List Res) (b i j bv bc : Nat) (zv zc : List Value) (fv fc : Nat × Nat) (t : T) : Prop where
 s0 : ∃ A cap, cellF F ⟨b, 0, none⟩ = some (.slice A t.ns.length cap) ∧ RdS (Kd.one Vi) F A t.ns
 s1 : cellF F ⟨b, 1, none⟩ = some (.slice (some ⟨bv, 0, none⟩) (t.vs.map eV).length ((t.vs.map eV).length + zv.length))
 s2 : cellF F ⟨b, 2, none⟩ = some (.slice (some ⟨bc, 0, none⟩) (t.cs.map eC).length ((t.cs.map eC).length + zc.length))
 iv : cs[i]? = some [(bv, .cells ((t.vs.map eV).map Vi ++ zv).toArray 3 fv)]
 ic : cs[j]? = some [(bc, .cells ((t.cs.map eC).map Vi ++ zc).toArray 3 fc)]
 hv : Free fv ((t.vs.map eV).length + zv.length)
 hc : Free fc ((t.cs.map eC).length + zc.length)
 lv : t.vs.length = t.ns.length
 lc : t.cs.length = t.ns.length
 pos : 0 < t.ns.length
 small : t.ns.length ≤ 16
 nd : t.ns.Nodup
 ok : ∀ c, some c ∈ t.cs → 0 ≤ c
 ne : i ≠ j
theorem blk_read {G : Snap} {bb tt : Nat} {xs : List Int} {zs : List Value} {fz : Nat × Nat} (h : G bb = some (.cells (xs.map Vi ++ zs).toArray tt fz)) : RdS (Kd.one Vi) G (some ⟨bb, 0, none⟩) xs := by
 refine .inr ⟨_, rfl, fun i x hx => ⟨[Vi x], rfl, fun j v hv => ?_⟩⟩
 have hj : j = 0 := by
  rcases j with _ | j
  ·rfl
  ·simp at hv
 subst hj
 simp only [List.getElem?_cons_zero, Option.some.injEq] at hv
 subst hv
 show cellF G ((⟨bb, 0, none⟩ : Addr).add (i * 1 + 0)) = some (Vi x)
 rw [add_mk, Nat.mul_one, Nat.add_zero, Nat.zero_add]
 unfold cellF
 simp only [h]
 have hi : i < xs.length := (List.getElem?_eq_some_iff.1 hx).1
 simp [List.getElem?_append_left (show i < (xs.map Vi).length by simpa using hi), hx]
theorem look_at2 {α : Type} {ns : List Int} {os : List (Option α)} : ∀ {k : Nat}, ns.Nodup → os.length = ns.length → k < ns.length → look (ns.getD k 0) ns os = some (os.getD k none) ∧ ∀ x, put (ns.getD k 0) x ns os = os.set k (some x) := by
 induction ns generalizing os with
 |nil => intro k _ _ h; simp at h
 |cons m ns ih =>
  intro k hd hl hk
  cases os with
  |nil => simp at hl
  |cons o os =>
   have hd' := List.nodup_cons.1 hd
   cases k with
   |zero => simp [look, put]
   |succ k =>
    simp only [List.length_cons, Nat.add_lt_add_iff_right] at hk hl
    have hne : ns.getD k 0 ≠ m := fun e => hd'.1 (e ▸ mem_at hk)
    have := ih (os := os) hd'.2 (by simpa using hl) hk
    unfold look put
    simp only [List.getD_cons_succ]
    rw [if_neg hne]
    refine ⟨this.1, fun x => ?_⟩
    rw [if_neg hne, this.2 x]
    rfl
theorem look_no {α : Type} {n : Int} : ∀ {ns : List Int} {os : List (Option α)}, n ∉ ns → look n ns os = none
 |[], [], _ => rfl
 |[], _ :: _, _ => rfl
 |_ :: _, [], _ => rfl
 |m :: ns, o :: os, h => by
  simp only [List.mem_cons, not_or] at h
  unfold look
  rw [if_neg h.1]
  exact look_no h.2
theorem vote_none {t : T} {n : Int} {y : Bool} (h : n ∉ t.ns) : t.vote n y = (1, t) := by simp [T.vote, say, look_no h]
theorem vote_same {t : T} {k : Nat} {y : Bool} (hd : t.ns.Nodup) (hl : t.vs.length = t.ns.length) (hk : k < t.ns.length) (ho : t.vs.getD k none = some y) : t.vote (t.ns.getD k 0) y = (0, t) := by
 unfold T.vote say
 rw [(look_at2 hd hl hk).1, ho]
 simp
theorem vote_bad {t : T} {k : Nat} {y : Bool} (hd : t.ns.Nodup) (hl : t.vs.length = t.ns.length) (hk : k < t.ns.length) (ho : t.vs.getD k none ≠ some y) (h2 : t.vs.getD k none ≠ none ∨ t.state ≠ 0) : t.vote (t.ns.getD k 0) y = (14, t) := by
 unfold T.vote say
 rw [(look_at2 hd hl hk).1]
 cases e : t.vs.getD k none with
 |none =>
  have h3 : t.state ≠ 0 := by
   rcases h2 with h2 | h2
   ·exact absurd e h2
   ·exact h2
  simp [h3]
 |some z =>
  have hz : z ≠ y := fun e' => ho (by rw [e, e'])
  simp [hz]
theorem vote_ok {t : T} {k : Nat} {y : Bool} (hd : t.ns.Nodup) (hl : t.vs.length = t.ns.length) (hk : k < t.ns.length) (ho : t.vs.getD k none = none) (h2 : t.state = 0) : t.vote (t.ns.getD k 0) y = (0, { t with vs := t.vs.set k (some y) }) := by
 unfold T.vote say
 rw [(look_at2 hd hl hk).1, ho]
 simp only [h2, decide_true, if_true]
 rw [(look_at2 hd hl hk).2]
def okN (ns : List Int) : Prop := 0 < ns.length ∧ oks ns
theorem okp_all {ns : List Int} (h : okp ns ns.length) : oks ns := h
theorem last_step {ns : List Int} {k : Nat} (h : okp ns k) (h1 : ¬ ns.getD k 0 ≤ last_ ns k) (h2 : ¬ 16 ≤ ns.getD k 0) : okp ns (k + 1) := by
 unfold last_ at h1
 by_cases e : k = 0
 ·subst e
  rw [if_pos rfl] at h1
  exact okp_succ h (by omega) (by omega)
 ·rw [if_neg e] at h1
  have := (h.1 (k - 1) (by omega)).1
  exact okp_succ h (by omega) (by omega)
theorem new_no {cs : List Res} (w : World) {A : Option Addr} {cap : Nat} {ns : List Int} (h : St W F cs w) (hR : RdS (Kd.one Vi) F A ns) (hn : ns.length ≤ 100000) (hno : ¬ okN ns) : Calls prog 97 #[.slice A ns.length cap] w fun e w' => e = .returned (.pointer none) ∧ St W F cs w'  := by
 refine enter (args := [.slice A ns.length cap]) func97 rfl rfl rfl<|Wi<|WL.e 1 rfl<|We<|WL.e 1 rfl<|Wh<|WL.e 1 rfl<|C0 (R0 underlying33 rfl rfl) rfl<|WL.e 1 rfl<|Wj<|WC.lp (σ := Nat) (fun q_ => [(0, .slice A ns.length cap), (3, Vi (last_ ns q_)), (6, .slice A ns.length cap), (7, .int .i64 (ns.length : Int)), (8, .int .i64 (q_ : Int))]) (fun q_ w => q_ ≤ ns.length ∧ okp ns q_ ∧ St W F cs w) (fun q_ => ns.length - q_) (0) (⟨by omega, ⟨fun j hj => absurd hj (Nat.not_lt_zero _), fun j hj => absurd hj (Nat.not_lt_zero _)⟩, h⟩) ?_
 rintro k w1 ⟨hk1, hok, hL⟩
 try dsimp only at hk1 hok hL
 refine O2 [(0, .slice A ns.length cap), (3, Vi (last_ ns k)), (6, .slice A ns.length cap), (7, .int .i64 (ns.length : Int)), (8, .int .i64 (k : Int))]<|Wi<|WL.e 1 rfl<|Wb<|U0 rfl (fun c2 => ?_) (fun c2 => ?_)
 ·try simp only [DD] at c2
  refine O0 (H0 (L0 (WC.block (L0 ?_))))
  obtain ⟨ad, rfl, hrd⟩ := rd1 hR (by omega)
  refine K0<|C0 (C1 underlying33 inf3 rfl rfl (n := k) rfl (by omega)) rfl<|C0 (T1 (f := Vi) (0 : Int) hL hrd (n := k) (by omega) underlying3 rfl rfl) rfl<|WL.e 1 rfl<|WL.nil (H0 (L0 (L0 ?_)))
  have hcase : ns.getD k 0 ≤ last_ ns k ∨ (¬ ns.getD k 0 ≤ last_ ns k ∧ 16 ≤ ns.getD k 0) ∨ (¬ ns.getD k 0 ≤ last_ ns k ∧ ¬ 16 ≤ ns.getD k 0) := by omega
  rcases hcase with hA | hB | hC
  ·skip
   refine K0<|WL.e 2 rfl<|C0 (Bt (J1 rfl rfl) (decide_eq_true hA)) rfl<|WL.e 4 rfl<|Wa<|B1 rfl (rfl)<|Wi<|WL.e 1 rfl<|Wg<|ret1 rfl rfl ⟨rfl, hL⟩
  ·skip
   refine K0<|WL.e 2 rfl<|C0 (Bf (J1 rfl rfl) (decide_eq_false hB.1)) rfl<|WL.e 2 rfl<|WL.gn rfl<|C0 (Bt (Z0 rfl rfl) (decide_eq_true hB.2)) rfl<|WL.e 1 rfl<|Wa<|B1 rfl (rfl)<|Wi<|WL.e 1 rfl<|Wg<|ret1 rfl rfl ⟨rfl, hL⟩
  ·skip
   refine K0<|WL.e 2 rfl<|C0 (Bf (J1 rfl rfl) (decide_eq_false hC.1)) rfl<|WL.e 2 rfl<|WL.gn rfl<|C0 (Bf (Z0 rfl rfl) (decide_eq_false hC.2)) rfl<|WL.e 1 rfl<|Wa<|V0 rfl (rfl)<|O0<|H0<|K0<|WL.e 2 rfl<|WL.nil<|WN.blk<|H0<|K0<|C0 (Q0 rfl rfl (by omega)) rfl<|WL.e 1 rfl<|WL.nil<|X0 (k + 1) (by omega) ⟨rfl, rfl, rfl, rfl, rfl, trivial⟩ ⟨by omega, last_step hok hC.1 hC.2, hL⟩
 ·try simp only [DD] at c2
  refine WC.exit<|Q1<|WX.cut<|S1<|H0<|L0<|L0 ?_
  obtain rfl : k = ns.length := by omega
  have h0 : ns.length = 0 := by
   by_cases h0 : 0 < ns.length
   ·exact absurd ⟨h0, okp_all hok⟩ hno
   ·omega
  refine K0<|WL.e 1 rfl<|C0 (R0 underlying33 rfl rfl) rfl<|C0 (Bt (Y0 rfl rfl) (by rw [decide_eq_true_eq]; omega)) rfl<|Wa<|B1 rfl (rfl)<|Wi<|WL.e 1 rfl<|Wg<|ret1 rfl rfl ⟨rfl, hL⟩
def T.new (ns : List Int) : T := ⟨ns, ns.map fun _ => none, ns.map fun _ => none⟩
theorem miss_len {α : Type} (ns : List Int) (os : List (Option α)) : (miss ns os).length ≤ ns.length := by
 induction ns generalizing os with
 |nil => simp [miss]
 |cons n ns ih =>
  cases os with
  |nil => simp [miss]
  |cons o os => unfold miss; have := ih os; split <;> simp <;> omega
theorem missing_len (t : T) : t.missing.length ≤ t.ns.length := by
 have h1 := miss_len t.ns t.vs
 have h2 := miss_len t.ns t.cs
 unfold T.missing
 split
 ·exact h1
 ·split
  ·exact h2
  ·simp
theorem exit_vs (t : T) (n c : Int) : (t.exit n c).2.vs = t.vs ∧ (t.exit n c).2.ns = t.ns := by
 unfold T.exit
 split <;> exact ⟨rfl, rfl⟩
theorem vote_vs {t : T} (n : Int) (y : Bool) {k : Nat} (hd : t.ns.Nodup) (hl : t.vs.length = t.ns.length) (hk : k < t.ns.length) : (t.vote n y).2.vs.getD k none = t.vs.getD k none ∨ (t.ns.getD k 0 = n ∧ (t.vote n y).1 = 0 ∧ (t.vote n y).2.vs.getD k none = some y) := by
 by_cases hn : n ∈ t.ns
 ·obtain ⟨j, hj, e⟩ := List.getElem_of_mem hn
  have e' : t.ns.getD j 0 = n := by rw [List.getD_eq_getElem?_getD, List.getElem?_eq_getElem hj]; exact e
  rw [← e']
  by_cases h1 : t.vs.getD j none = some y
  ·rw [vote_same hd hl hj h1]; exact .inl rfl
  ·by_cases h2 : t.vs.getD j none ≠ none ∨ t.state ≠ 0
   ·rw [vote_bad hd hl hj h1 h2]; exact .inl rfl
   ·have h3 : t.vs.getD j none = none := Classical.byContradiction fun h => h2 (.inl h)
    have h4 : t.state = 0 := Classical.byContradiction fun h => h2 (.inr h)
    rw [vote_ok hd hl hj h3 h4]
    by_cases hjk : j = k
    ·subst hjk
     refine .inr ⟨rfl, rfl, ?_⟩
     show (t.vs.set j (some y)).getD j none = some y
     rw [List.getD_eq_getElem?_getD, List.getElem?_set_self (by omega)]; rfl
    ·left
     show (t.vs.set j (some y)).getD k none = _
     rw [List.getD_eq_getElem?_getD, List.getElem?_set_ne hjk, ← List.getD_eq_getElem?_getD]
 ·rw [vote_none hn]; exact .inl rfl
theorem all_yes {t : T} (hl : t.vs.length = t.ns.length) (h : t.state = 1 ∨ t.state = 3) {k : Nat} (hk : k < t.ns.length) : t.vs.getD k none = some true := by
 have h0 : some false ∉ t.vs ∧ ¬ (miss t.ns t.vs).length > 0 := by
  unfold T.state at h
  split at h
  ·rcases h with h | h <;> cases h
  ·rename_i h1
   split at h
   ·rcases h with h | h <;> cases h
   ·rename_i h2; exact ⟨h1, h2⟩
 have hm := (miss_none hl).1 (List.eq_nil_of_length_eq_zero (by omega))
 have hk' : k < t.vs.length := by omega
 rw [List.getD_eq_getElem?_getD, List.getElem?_eq_getElem hk']
 have h3 := hm _ (List.getElem_mem hk')
 have h4 : t.vs[k] ≠ some false := fun e => h0.1 (e ▸ List.getElem_mem hk')
 show t.vs[k] = some true
 cases e : t.vs[k] with
 |none => rw [e] at h3; cases h3
 |some b =>
  cases b with
  |true => rfl
  |false => exact absurd e h4
end Tal
namespace Wir
theorem mixed : prog.follows .mixedOrders = true := by kernel_rfl
theorem inf3 : Inf prog 3 (.int .i64 0) 1 8 := by unfold Inf; kernel_rfl
theorem can155 : B.Can prog 155 := ⟨_, func155, by kernel_rfl, rfl⟩
abbrev Vi (n : Int) : Value := .int .i64 n
def wch (at_ e : Int) : List PanicEntry := chain1 191 (.agg #[Vi at_, Vi e])
theorem must_ok {cs : List Res} (w : World) (a e : Int) (h : St W F cs w) : Calls prog 155 #[.bool true, Vi a, Vi e] w fun r w' => r = .returned (.tuple #[]) ∧ St W F cs w'  := by
 refine enter (args := [.bool true, Vi a, Vi e]) func155 rfl rfl rfl<|Wi<|WL.e 2 rfl<|Wa<|V0 rfl (rfl)<|O0<|end0 rfl ⟨rfl, h⟩
theorem must_no {cs : List Res} (w : World) (a e : Int) (h : St W F cs w) : Calls prog 155 #[.bool false, Vi a, Vi e] w fun r w' => r = .panicked (wch a e) ∧ St W F cs w'  := by
 refine enter (args := [.bool false, Vi a, Vi e]) func155 rfl rfl rfl<|Wi<|WL.e 2 rfl<|Wa<|B1 rfl (rfl)<|K0<|WL.e 2 rfl<|C0 (B2 (vs := [(0, Vi a), (1, Vi e)]) (cells := #[Vi a, Vi e]) rfl (by kernel_rfl)) rfl<|C0 (Runs.makeI underlying191 rfl rfl) rfl<|WL.panicI rfl<|die0 ⟨rfl, h⟩
theorem bytes_ok {cs : List Res} (w : World) {i rb p : Nat} {e : Int} {l : List UInt8}  (n : Nat) (from_ : Int) (h : St W F cs w) (hi : cs[i]? = some [(rb, .cells #[.string (bs l), Vi (p), Vi (e)] 161 (0, 0))]) (hl : l.length ≤ 9223372036854775807) (hp : p ≤ l.length) (hn : p + n ≤ l.length) : Calls prog 128 #[.pointer (some ⟨rb, 0, none⟩), Vi (n : Int), Vi from_] w fun r w' => r = .returned (.string (bs ((l.drop p).take n))) ∧ St W F (cs.set i [(rb, .cells #[.string (bs l), Vi ((p + n : Nat)), Vi (e)] 161 (0, 0))]) w'  := by
 refine enter (args := [.pointer (some ⟨rb, 0, none⟩), Vi (n : Int), Vi from_]) func128 rfl rfl rfl<|Wi<|WL.e 1 rfl<|Wb<|I4 h (fun s_ => ([13] : List Nat).any (Nat.beq s_)) mixed (by kernel_rfl)<|fun hx =>fun w1 h1=>WE.e hx [0, 1, 2, 3, 6, 7, 8, 12] rfl<|E3 12 hx 4 (by rfl) (fun w_ hE_ => I0 underlying9 rfl rfl (hE_.ocell hi rfl)) rfl<|R2 hx 5 (by rfl) (fun w_ => N0 (n := (l.length : Int)) (N2 underlying9 rfl rfl) rfl) rfl<|E3 12 hx 9 (by rfl) (fun w_ hE_ => I0 underlying3 rfl rfl (hE_.ocell hi rfl)) rfl<|R2 hx 10 (by rfl) (fun w_ => W2 rfl rfl (by omega)) rfl<|R2 hx 11 (by rfl) (fun w_ => Bt (J1 rfl rfl) (by rw [decide_eq_true_eq]; omega)) rfl<|WE.op (.inr h1) (i := 13) (by rfl) (by kernel_rfl)<|WL.cv can155 rfl rfl (must_ok _ _ _ h1) fun w2 h2 =>WL.nil<|U1<|WE.fin (.inl ⟨13, rfl, by kernel_rfl⟩) (by kernel_rfl)<|H0<|L0<|I2 (C := fun w_ => St W _ _ w_) mixed (by kernel_rfl) (h2.drew)<|WQ.e 3 rfl<|WQ.val (fun w_ hC_ => I0 underlying9 rfl rfl (hC_.ocell hi rfl)) rfl<|WQ.e 3 rfl<|WQ.val (fun w_ hC_ => I0 underlying3 rfl rfl (hC_.ocell hi rfl)) rfl<|WQ.e 3 rfl<|WQ.val (fun w_ hC_ => I0 underlying3 rfl rfl (hC_.ocell hi rfl)) rfl<|WQ.e 1 rfl<|WQ.val (fun w_ hC_ => Q0 rfl rfl (by omega)) rfl<|WQ.val (fun w_ hC_ => L1 (u := .string (bs ((l.drop p).take n))) (Runs.lssl underlying9 rfl rfl rfl (n := p) (m := p + n) rfl (by omega) (by omega) hn) (by rw [show p + n - p = n by omega])) rfl<|WQ.e 1 rfl<|WQ.fin fun w3 h3=>H0<|Wi<|WL.e 3 rfl<|C0 (I0 underlying3 rfl rfl (h3.ocell hi rfl)) rfl<|WL.e 1 rfl<|C0 (N0 (n := ((p + n : Nat) : Int)) (Q0 rfl rfl (by omega)) (by omega)) rfl<|WL.e 2 rfl<|F1 h3 i hi rfl rfl inf3 rfl rfl (Free.zero _) (Nat.le_of_ble_eq_true rfl) ?_
 intro  w4 h4
 try simp only [ZZ] at h4
 refine We<|WL.e 2 rfl<|Wg<|ret1 rfl rfl ⟨rfl, h4⟩
theorem bytes_no {cs : List Res} (w : World) {i rb p : Nat} {e : Int} {l : List UInt8}  (n : Nat) (from_ : Int) (h : St W F cs w) (hi : cs[i]? = some [(rb, .cells #[.string (bs l), Vi (p), Vi (e)] 161 (0, 0))]) (hl : l.length ≤ 9223372036854775807) (hp : p ≤ l.length) (hn : l.length < p + n) (hn2 : n ≤ 1000000) : Calls prog 128 #[.pointer (some ⟨rb, 0, none⟩), Vi (n : Int), Vi from_] w fun r w' => r = .panicked (wch from_ 2) ∧ St W F cs w'  := by
 refine enter (args := [.pointer (some ⟨rb, 0, none⟩), Vi (n : Int), Vi from_]) func128 rfl rfl rfl<|Wi<|WL.e 1 rfl<|Wb<|I4 h (fun s_ => ([13] : List Nat).any (Nat.beq s_)) mixed (by kernel_rfl)<|fun hx =>fun w1 h1=>WE.e hx [0, 1, 2, 3, 6, 7, 8, 12] rfl<|E3 12 hx 4 (by rfl) (fun w_ hE_ => I0 underlying9 rfl rfl (hE_.ocell hi rfl)) rfl<|R2 hx 5 (by rfl) (fun w_ => N0 (n := (l.length : Int)) (N2 underlying9 rfl rfl) rfl) rfl<|E3 12 hx 9 (by rfl) (fun w_ hE_ => I0 underlying3 rfl rfl (hE_.ocell hi rfl)) rfl<|R2 hx 10 (by rfl) (fun w_ => W2 rfl rfl (by omega)) rfl<|R2 hx 11 (by rfl) (fun w_ => Bf (J1 rfl rfl) (by rw [decide_eq_false_iff_not]; omega)) rfl<|WE.op (.inr h1) (i := 13) (by rfl) (by kernel_rfl)<|R3 can155 rfl rfl (must_no _ _ _ h1) ?_
 rintro _ w2 ⟨rfl, h2⟩
 refine .inr ⟨_, rfl,WP.region<|die0 ⟨rfl, h2⟩⟩
theorem can120 : B.Can prog 120 := ⟨_, func120, by kernel_rfl, rfl⟩
theorem can125 : B.Can prog 125 := ⟨_, func125, by kernel_rfl, rfl⟩
theorem can128 : B.Can prog 128 := ⟨_, func128, by kernel_rfl, rfl⟩
def valN (l : List UInt8) : Nat := l.foldl (fun a b => 256 * a + b.toNat) 0
def szB (l : List UInt8) (p : Nat) : Nat := (l.getD p 0).toNat
def dig (l : List UInt8) (p : Nat) : List UInt8 := (l.drop (p + 1)).take (szB l p)
def rerr (l : List UInt8) (p : Nat) : Int := if l.length ≤ p then 2 else if 6 < szB l p then 3 else if l.length < p + 1 + szB l p then 2 else if 1099511627776 < valN (dig l p) ∨ (0 < szB l p ∧ (dig l p).getD 0 0 = 0) then 3 else 0
def rval (l : List UInt8) (p : Nat) : Nat := valN (dig l p)
def rnx (l : List UInt8) (p : Nat) : Nat := p + 1 + szB l p
theorem valN_snoc (l : List UInt8) (b : UInt8) : valN (l ++ [b]) = 256 * valN l + b.toNat := by simp [valN, List.foldl_append]
theorem take_one {l : List UInt8} {k : Nat} (h : k < l.length) : l.take (k + 1) = l.take k ++ [l.getD k 0] := by
 rw [List.take_add_one, List.getElem?_eq_getElem h, List.getD_eq_getElem?_getD, List.getElem?_eq_getElem h]; rfl
theorem valN_aux : ∀ (l : List UInt8) (a : Nat), l.foldl (fun a b => 256 * a + b.toNat) a < (a + 1) * 256 ^ l.length
 |[], a => by simp
 |b :: l, a => by
  have h1 := valN_aux l (256 * a + b.toNat)
  have h2 := b.toNat_lt
  have h3 : (256 * a + b.toNat + 1) * 256 ^ l.length ≤ (a + 1) * 256 * 256 ^ l.length := Nat.mul_le_mul_right _ (by omega)
  rw [List.foldl_cons, List.length_cons, Nat.pow_succ, Nat.mul_comm (256 ^ l.length) 256, ← Nat.mul_assoc]
  omega
theorem valN_lt (l : List UInt8) : valN l < 256 ^ l.length := by
 have := valN_aux l 0
 simpa [valN] using this
theorem setS {cs : List Res} {i : Nat} {r : Res} (h : cs[i]? = some r) : cs.set i r = cs := by
 apply List.ext_getElem?
 intro j
 rw [List.getElem?_set]
 split
 ·rename_i e; subst e; rw [h, if_pos (List.getElem?_eq_some_iff.1 h).1]
 ·rfl
theorem cases11 (n v m : Nat) (P : Prop) : n = 0 ∨ (0 < n ∧ P) ∨ (0 < n ∧ ¬ P ∧ m < v) ∨ (0 < n ∧ ¬ P ∧ v ≤ m) := by
 by_cases h : P
 ·rcases Nat.eq_zero_or_pos n with h1 | h1
  ·exact .inl h1
  ·exact .inr (.inl ⟨h1, h⟩)
 ·rcases Nat.eq_zero_or_pos n with h1 | h1
  ·exact .inl h1
  ·rcases Nat.lt_or_ge m v with h2 | h2
   ·exact .inr (.inr (.inl ⟨h1, h, h2⟩))
   ·exact .inr (.inr (.inr ⟨h1, h, h2⟩))
theorem pow_le {n : Nat} (h : n ≤ 6) : 256 ^ n ≤ 281474976710656 := Nat.le_trans (Nat.pow_le_pow_right (by decide) h) (by decide)
theorem dig_len {l : List UInt8} {p : Nat} (h : p + 1 + szB l p ≤ l.length) : (dig l p).length = szB l p := by
 unfold dig
 rw [List.length_take, List.length_drop]; omega
theorem take1_at {l : List UInt8} {p : Nat} (h : p < l.length) : ((l.drop p).take 1).getD 0 0 = l.getD p 0 := by
 simp [List.getD_eq_getElem?_getD, List.getElem?_take, List.getElem?_drop]
theorem may_dec (n : Int) : decide (0 ≤ n ∧ n ≤ 1099511627776) = (decide (0 ≤ n) && decide (n ≤ 1099511627776)) := by
 by_cases h1 : 0 ≤ n <;> by_cases h2 : n ≤ 1099511627776 <;> simp [h1, h2]
theorem u8_ne {b : UInt8} (h : b ≠ 0) : ¬ ((b.toNat : Int) = 0) := fun e => h (UInt8.toNat_inj.1 (by simpa using e))
def cerr (l : List UInt8) (p : Nat) (most : Int) : Int := if rerr l p ≠ 0 then rerr l p else if most < (rval l p : Int) then 3 else 0
theorem may_c {cs : List Res} (w : World) (n : Int) (h : St W F cs w) : Calls prog 120 #[Vi n] w fun r w' => r = .returned (.bool (decide (0 ≤ n ∧ n ≤ 1099511627776))) ∧ St W F cs w'  := by
 refine enter (args := [Vi n]) func120 rfl rfl rfl<|Wi<|WL.e 1 rfl<|WL.nil (H0 (L0 ?_))
 by_cases h0 : 0 ≤ n
 ·skip
  refine K0<|WL.e 1 rfl<|C0 (Bt (Z0 rfl rfl) (decide_eq_true h0)) rfl<|WL.e 2 rfl<|WL.gn rfl<|C0 (J1 rfl rfl) rfl<|WL.e 2 rfl<|Wg<|ret1 rfl rfl ⟨?_, h⟩
  rw [may_dec, decide_eq_true h0]; rfl
 ·skip
  refine K0<|WL.e 1 rfl<|C0 (Bf (Z0 rfl rfl) (decide_eq_false h0)) rfl<|WL.e 5 rfl<|Wg<|ret1 rfl rfl ⟨?_, h⟩
  rw [may_dec, decide_eq_false h0]; rfl
theorem may_y {cs : List Res} (w : World) (n : Int) (h : St W F cs w) (hn : 0 ≤ n ∧ n ≤ 1099511627776) : Calls prog 120 #[Vi n] w fun r w' => r = .returned (.bool true) ∧ St W F cs w' := (may_c w n h).mono fun r w' ⟨h1, h2⟩ => ⟨by rw [h1, decide_eq_true hn], h2⟩
theorem may_n {cs : List Res} (w : World) (n : Int) (h : St W F cs w) (hn : ¬ (0 ≤ n ∧ n ≤ 1099511627776)) : Calls prog 120 #[Vi n] w fun r w' => r = .returned (.bool false) ∧ St W F cs w' := (may_c w n h).mono fun r w' ⟨h1, h2⟩ => ⟨by rw [h1, decide_eq_false hn], h2⟩
theorem num_c {cs : List Res} (w : World) {i rb p : Nat} {e : Int} {l : List UInt8}  (h : St W F cs w) (hi : cs[i]? = some [(rb, .cells #[.string (bs l), Vi (p), Vi (e)] 161 (0, 0))]) (hl : l.length ≤ 9223372036854775807) (hp : p ≤ l.length) : Calls prog 125 #[.pointer (some ⟨rb, 0, none⟩)] w fun r w' => (rerr l p = 0 ∧ r = .returned (Vi (rval l p : Int)) ∧ St W F (cs.set i [(rb, .cells #[.string (bs l), Vi (rnx l p), Vi (e)] 161 (0, 0))]) w') ∨ (rerr l p ≠ 0 ∧ ∃ q, r = .panicked (wch p (rerr l p)) ∧ St W F (cs.set i [(rb, .cells #[.string (bs l), Vi q, Vi e] 161 (0, 0))]) w')  := by
 refine enter (args := [.pointer (some ⟨rb, 0, none⟩)]) func125 rfl rfl rfl<|Wi<|WL.e 1 rfl<|We<|WL.e 3 rfl<|C0 (I0 underlying3 rfl rfl (h.ocell hi rfl)) rfl<|WL.e 1 rfl<|WL.nil (H0 (L0 ?_))
 have hcase : p = l.length ∨ p < l.length := by omega
 rcases hcase with hpe | hpl
 ·skip
  refine K0<|WL.e 2 rfl<|R3 can128 rfl rfl (bytes_no _ 1 p h hi hl hp (by omega) (by omega)) ?_
  rintro _ w1 ⟨rfl, h1⟩
  refine .inr ⟨_, rfl, ?_⟩
  have he : rerr l p = 2 := by unfold rerr; rw [if_pos (by omega)]
  exact die0 (.inr ⟨by rw [he]; decide, p, by rw [he], by rw [setS hi]; exact h1⟩)
 ·skip
  refine K0<|WL.e 2 rfl<|WL.cv can128 rfl rfl (bytes_ok _ 1 p h hi hl hp (by omega)) fun w2 h2 => ?_
  have hi1 : (cs.set i [(rb, .cells #[.string (bs l), Vi ((p + 1 : Nat)), Vi (e)] 161 (0, 0))])[i]? = some [(rb, .cells #[.string (bs l), Vi ((p + 1 : Nat)), Vi (e)] 161 (0, 0))] := by rw [List.getElem?_set_self (List.getElem?_eq_some_iff.1 hi).1]
  refine C0 (L1 (u := V8 (l.getD p 0)) (M3 underlying9 rfl rfl (n := 0) rfl (by rw [List.length_take, List.length_drop]; omega)) (by rw [take1_at hpl])) rfl<|C0 (N0 (n := (szB l p : Int)) (T4 underlying5 underlying3 rfl) rfl) rfl<|WL.e 1 rfl<|WL.nil (H0 (L0 ?_))
  have hcase : 6 < szB l p ∨ szB l p ≤ 6 := by omega
  rcases hcase with hs6 | hs6
  ·skip
   refine K0<|WL.e 1 rfl<|C0 (Bf (J1 rfl rfl) (by rw [decide_eq_false_iff_not]; omega)) rfl<|WL.e 1 rfl<|R3 can155 rfl rfl (must_no _ _ _ h2) ?_
   rintro _ w3 ⟨rfl, h3⟩
   refine .inr ⟨_, rfl, ?_⟩
   have he : rerr l p = 3 := by unfold rerr; rw [if_neg (by omega), if_pos hs6]
   exact die0 (.inr ⟨by rw [he]; decide, _, by rw [he], h3⟩)
  ·skip
   refine K0<|WL.e 1 rfl<|C0 (Bt (J1 rfl rfl) (by rw [decide_eq_true_eq]; omega)) rfl<|WL.e 1 rfl<|WL.cv can155 rfl rfl (must_ok _ _ _ h2) fun w4 h4 =>WL.nil (H0 (L0 ?_))
   have hcase : l.length < p + 1 + szB l p ∨ p + 1 + szB l p ≤ l.length := by omega
   rcases hcase with hse | hsl
   ·skip
    refine K0<|WL.e 3 rfl<|R3 can128 rfl rfl (bytes_no _ (szB l p) p h4 hi1 hl hpl (by omega) (by omega)) ?_
    rintro _ w5 ⟨rfl, h5⟩
    refine .inr ⟨_, rfl, ?_⟩
    have he : rerr l p = 2 := by unfold rerr; rw [if_neg (by omega), if_neg (by omega), if_pos hse]
    exact die0 (.inr ⟨by rw [he]; decide, _, by rw [he], h5⟩)
   ·have hdl := dig_len hsl
    refine K0<|WL.e 3 rfl<|WL.cv can128 rfl rfl (bytes_ok _ (szB l p) p h4 hi1 hl hpl hsl) fun w6 h6 => ?_
    rw [List.set_set] at h6
    refine WL.e 1 rfl<|We<|WL.e 1 rfl<|Wh<|WL.e 1 rfl<|C0 (N0 (n := ((dig l p).length : Int)) (N2 underlying9 rfl rfl) rfl) rfl<|WL.e 1 rfl<|Wj<|WC.lp (σ := Nat) (fun q_ => [(0, .pointer (some ⟨rb, 0, none⟩)), (3, Vi p), (4, .int .i64 (szB l p : Int)), (5, .string (bs (dig l p))), (6, .int .i64 (valN ((dig l p).take q_) : Int)), (26, .int .i64 ((dig l p).length : Int)), (27, .int .i64 (q_ : Int))]) (fun q_ w => q_ ≤ (dig l p).length ∧ St W F (cs.set i [(rb, .cells #[.string (bs l), Vi ((p + 1 + szB l p : Nat)), Vi (e)] 161 (0, 0))]) w) (fun q_ => (dig l p).length - q_) (0) (⟨by omega, h6⟩) ?_
    rintro k w7 ⟨hk, hL⟩
    try dsimp only at hk hL
    refine O2 [(0, .pointer (some ⟨rb, 0, none⟩)), (3, Vi p), (4, .int .i64 (szB l p : Int)), (5, .string (bs (dig l p))), (6, .int .i64 (valN ((dig l p).take k) : Int)), (26, .int .i64 ((dig l p).length : Int)), (27, .int .i64 (k : Int))] ?_
    have hvl := valN_lt ((dig l p).take k)
    rw [List.length_take, Nat.min_eq_left hk] at hvl
    have hpw := pow_le (n := k) (by omega)
    refine Wi<|C0 (N1 rfl rfl) rfl<|Wb<|U0 rfl (fun c8 => ?_) (fun c8 => ?_)
    ·try simp only [DD] at c8
     refine O0<|H0<|L0<|WC.block<|Wi<|WL.e 2 rfl<|Wf<|WL.e 1 rfl<|C0 (Runs.shl8 (m := valN ((dig l p).take k)) rfl rfl (by omega)) rfl<|WL.e 2 rfl<|C0 (M3 underlying9 rfl rfl (n := k) rfl (by omega)) rfl<|C0 (T4 underlying5 underlying3 rfl) rfl<|C0 (Runs.orB (m := valN ((dig l p).take k)) rfl rfl (by omega)) rfl<|WL.e 1 rfl<|WL.nil<|WN.blk<|H0<|K0<|C0 (Q0 rfl rfl (by omega)) rfl<|WL.e 1 rfl<|WL.nil<|X0 (k + 1) (by omega) ⟨rfl, rfl, rfl, rfl, ?_, rfl, rfl, trivial⟩ ⟨by omega, hL⟩
     show _ = some (Value.int .i64 (valN ((dig l p).take (k + 1)) : Int))
     rw [take_one (by omega), valN_snoc]
     rfl
    ·try simp only [DD] at c8
     refine WC.exit (Q1 (WX.cut (S1 (H0 (L0 ?_)))))
     obtain rfl : k = (dig l p).length := by omega
     rw [List.take_of_length_le (Nat.le_refl _)] at *
     have hcase := cases11 (szB l p) (valN (dig l p)) 1099511627776 ((dig l p).getD 0 0 = 0)
     rcases hcase with h1 | ⟨h1, h2⟩ | ⟨h1, h2, h3⟩ | ⟨h1, h2, h3⟩
     ·have hv0 : valN (dig l p) = 0 := by rw [List.eq_nil_of_length_eq_zero (hdl.trans h1)]; rfl
      refine K0<|WL.e 1 rfl<|C0 (Bt (Y0 rfl rfl) (by rw [decide_eq_true_eq]; omega)) rfl<|WL.e 5 rfl<|WL.goffU rfl rfl rfl<|WL.goffU rfl rfl rfl<|WL.e 3 rfl<|WL.cv can155 rfl rfl (must_ok _ _ _ hL) fun w9 h9 =>We<|WL.e 2 rfl<|WL.nil (H0 (I1 ?_))
      have he : rerr l p = 0 := by
       unfold rerr
       rw [if_neg (by omega), if_neg (by omega), if_neg (by omega), if_neg]
       rintro (h4 | ⟨h4, h5⟩)
       ·omega
       ·first | omega | exact absurd h5 h2
      exact ret1 rfl rfl (.inl ⟨he, rfl, h9⟩)
     ·skip
      refine K0<|WL.e 1 rfl<|C0 (Bf (Y0 rfl rfl) (by rw [decide_eq_false_iff_not]; omega)) rfl<|WL.e 2 rfl<|WL.gn rfl<|C0 (M3 underlying9 rfl rfl (n := 0) rfl (by omega)) rfl<|WL.gn rfl<|C0 (Bf (Z1 rfl rfl) (by rw [h2]; rfl)) rfl<|WL.e 6 rfl<|R3 can155 rfl rfl (must_no _ _ _ hL) ?_
      rintro _ w10 ⟨rfl, h10⟩
      refine .inr ⟨_, rfl, ?_⟩
      have he : rerr l p = 3 := by unfold rerr; rw [if_neg (by omega), if_neg (by omega), if_neg (by omega), if_pos (.inr ⟨h1, h2⟩)]
      exact die0 (.inr ⟨by rw [he]; decide, _, by rw [he], h10⟩)
     ·have h2b := u8_ne h2
      refine K0<|WL.e 1 rfl<|C0 (Bf (Y0 rfl rfl) (by rw [decide_eq_false_iff_not]; omega)) rfl<|WL.e 2 rfl<|WL.gn rfl<|C0 (M3 underlying9 rfl rfl (n := 0) rfl (by omega)) rfl<|WL.gn rfl<|C0 (Bt (Z1 rfl rfl) (by rw [decide_eq_false h2b]; rfl)) rfl<|WL.e 2 rfl<|WL.gn rfl<|WL.cv can120 rfl rfl (may_n _ _ hL (by omega)) fun w11 h11 =>WL.e 3 rfl<|R3 can155 rfl rfl (must_no _ _ _ h11) ?_
      rintro _ w12 ⟨rfl, h12⟩
      refine .inr ⟨_, rfl, ?_⟩
      have he : rerr l p = 3 := by unfold rerr; rw [if_neg (by omega), if_neg (by omega), if_neg (by omega), if_pos (.inl h3)]
      exact die0 (.inr ⟨by rw [he]; decide, _, by rw [he], h12⟩)
     ·have h2b := u8_ne h2
      refine K0<|WL.e 1 rfl<|C0 (Bf (Y0 rfl rfl) (by rw [decide_eq_false_iff_not]; omega)) rfl<|WL.e 2 rfl<|WL.gn rfl<|C0 (M3 underlying9 rfl rfl (n := 0) rfl (by omega)) rfl<|WL.gn rfl<|C0 (Bt (Z1 rfl rfl) (by rw [decide_eq_false h2b]; rfl)) rfl<|WL.e 2 rfl<|WL.gn rfl<|WL.cv can120 rfl rfl (may_y _ _ hL (by omega)) fun w13 h13 =>WL.e 3 rfl<|WL.cv can155 rfl rfl (must_ok _ _ _ h13) fun w14 h14 =>We<|WL.e 2 rfl<|WL.nil (H0 (I1 ?_))
      have he : rerr l p = 0 := by
       unfold rerr
       rw [if_neg (by omega), if_neg (by omega), if_neg (by omega), if_neg]
       rintro (h4 | ⟨h4, h5⟩)
       ·omega
       ·first | omega | exact absurd h5 h2
      exact ret1 rfl rfl (.inl ⟨he, rfl, h14⟩)
theorem count_c {cs : List Res} (w : World) {i rb p : Nat} {e : Int} {l : List UInt8}  (most : Int) (h : St W F cs w) (hi : cs[i]? = some [(rb, .cells #[.string (bs l), Vi (p), Vi (e)] 161 (0, 0))]) (hl : l.length ≤ 9223372036854775807) (hp : p ≤ l.length) : Calls prog 127 #[.pointer (some ⟨rb, 0, none⟩), Vi most] w fun r w' => (cerr l p most = 0 ∧ r = .returned (Vi (rval l p : Int)) ∧ St W F (cs.set i [(rb, .cells #[.string (bs l), Vi (rnx l p), Vi (e)] 161 (0, 0))]) w') ∨ (cerr l p most ≠ 0 ∧ ∃ q, r = .panicked (wch p (cerr l p most)) ∧ St W F (cs.set i [(rb, .cells #[.string (bs l), Vi q, Vi e] 161 (0, 0))]) w')  := by
 refine enter (args := [.pointer (some ⟨rb, 0, none⟩), Vi most]) func127 rfl rfl rfl<|Wi<|WL.e 1 rfl<|We<|WL.e 3 rfl<|C0 (I0 underlying3 rfl rfl (h.ocell hi rfl)) rfl<|WL.e 1 rfl<|We<|WL.e 1 rfl<|R3 can125 rfl rfl (num_c _ h hi hl hp) ?_
 rintro _ w1 (⟨he, rfl, h1⟩ | ⟨he, q, rfl, h1⟩)
 rotate_left
 ·refine .inr ⟨_, rfl, ?_⟩
  have hc : cerr l p most = rerr l p := if_pos he
  exact die0 (.inr ⟨by rw [hc]; exact he, q, by rw [hc], h1⟩)
 refine .inl ⟨_, rfl,WL.e 1 rfl<|WL.nil (H0 (L0 ?_))⟩
 have hcase : most < (rval l p : Int) ∨ (rval l p : Int) ≤ most := by omega
 rcases hcase with hm | hm
 ·skip
  refine K0<|WL.e 2 rfl<|C0 (Bf (J1 rfl rfl) (by rw [decide_eq_false_iff_not]; omega)) rfl<|WL.e 1 rfl<|R3 can155 rfl rfl (must_no _ _ _ h1) ?_
  rintro _ w2 ⟨rfl, h2⟩
  refine .inr ⟨_, rfl, ?_⟩
  have hc : cerr l p most = 3 := by unfold cerr; rw [if_neg (by rw [he]; decide), if_pos hm]
  exact die0 (.inr ⟨by rw [hc]; decide, _, by rw [hc], h2⟩)
 ·skip
  refine K0<|WL.e 2 rfl<|C0 (Bt (J1 rfl rfl) (by rw [decide_eq_true_eq]; omega)) rfl<|WL.e 1 rfl<|WL.cv can155 rfl rfl (must_ok _ _ _ h1) fun w3 h3 =>We<|WL.e 2 rfl<|WL.nil (H0 (I1 ?_))
  have hc : cerr l p most = 0 := by unfold cerr; rw [if_neg (by rw [he]; decide), if_neg (by omega)]
  exact ret1 rfl rfl (.inl ⟨hc, rfl, h3⟩)
theorem inf43 : Inf prog 43 (.int .i64 0) 1 8 := by unfold Inf; kernel_rfl
theorem inf191 : Inf prog 191 (.agg #[.int .i64 0, .int .i64 0]) 2 16 := by unfold Inf; kernel_rfl
theorem can154 : B.Can prog 154 := ⟨_, func154, by kernel_rfl, rfl⟩
theorem WC.go {P : Program} {Z : Post} {N : Nat} {D : List Deferred} {sl : Sl} {c : Code} {w : World} {a : Act} (h : WC P Z [] N D sl c w) (ha : Ag N D sl a) : c.wp P Z a w := h a ha
theorem ag2 {t : Array Value} {x y : Value} (h0 : t[0]? = some x) (h1 : t[1]? = some y) {d : Nat} {v : Value} (hl : lk [(0, x), (1, y)] d = some v) : t[d]? = some v := by
 rcases d with _ | _ | d
 ·have : x = v := by simpa [lk] using hl
  rw [h0, this]
 ·have : y = v := by simpa [lk] using hl
  rw [h1, this]
 ·simp [lk, Nat.beq] at hl
theorem catch_p {cs : List Res} (w : World) {i rb bb : Nat} {q at_ e e' : Int} {l : List UInt8} (h : St W F cs w) (hi : cs[i]? = some [(rb, .cells #[.string (bs l), Vi q, Vi e] 161 (0, 0))]) (hb : cellF F ⟨bb, 0, none⟩ = some (.pointer (some ⟨rb, 0, none⟩))) : CallsD prog 154 #[.pointer (some ⟨bb, 0, none⟩)] (.panicking (wch at_ e')) w fun r u' w' => r = .returned (.tuple #[]) ∧ u' = .panicking [{ v := .iface 191 (.agg #[Vi at_, Vi e']), recovered := true }] ∧ St W F (cs.set i [(rb, .cells #[.string (bs l), Vi at_, Vi e'] 161 (0, 0))]) w'  := by
 refine callsD_of_wpS func154 rfl fun c₀ cs₀ hu => ?_
 try unfold wch chain1 at hu
 apply wpS_seq
 apply wpS_region
 simp [wpOpsS, go_sem, recoverD, hu, ntmps154, Exit.thenS]
 refine wpS_of_wp<|WC.go (N := 18) (D := []) (sl := [(0, .pointer (some ⟨bb, 0, none⟩)), (1, .iface 191 (.agg #[Vi at_, Vi e']))]) ?_ ⟨rfl, by simp, fun d v hl => ag2 (by simp) (by simp) hl⟩
 refine Wi<|WL.e 1 rfl<|C0 (Runs.ifneq underlying20 rfl rfl) rfl<|Wa<|B1 rfl (rfl)<|Wi<|WL.e 1 rfl<|C0 (Runs.assertS underlying191 rfl rfl) rfl<|O1 rfl h inf191 fun b2 w1 h1=>F1 h1 0 rfl rfl rfl inf191 rfl rfl (Free.zero _) (Nat.le_of_ble_eq_true rfl) ?_
 intro  w2 h2
 try simp only [ZZ] at h2
 refine WL.nil (H0 ?_)
 obtain ⟨G, gl, g0, S0⟩ := h2.freeze (i := 0) rfl
 have hw0 : cellF G ⟨b2, 0, none⟩ = some (Vi at_) := by unfold cellF; simp only [g0 _ List.mem_cons_self]; rfl
 have hw1 : cellF G ⟨b2, 1, none⟩ = some (Vi e') := by unfold cellF; simp only [g0 _ List.mem_cons_self]; rfl
 replace S0 : St W G cs w2 := S0
 have hi2 : (cs.set i [(rb, .cells #[.string (bs l), Vi at_, Vi e] 161 (0, 0))])[i]? = some [(rb, .cells #[.string (bs l), Vi at_, Vi e] 161 (0, 0))] := by rw [List.getElem?_set_self (List.getElem?_eq_some_iff.1 hi).1]
 refine WC.eregF S0 (fun s_ => ([] : List Nat).any (Nat.beq s_)) mixed (by kernel_rfl)<|fun hx =>fun w3 h3=>WE.e hx [2, 4] rfl<|E3 12 hx 0 (by rfl) (fun w_ hE_ => Exists.elim hE_ (fun cs_ hC_ => I0 underlying131 rfl rfl (hC_.cell (cellF_le gl hb)))) rfl<|E3 12 hx 1 (by rfl) (fun w_ hE_ => Exists.elim hE_ (fun cs_ hC_ => I0 underlying131 rfl rfl (hC_.cell (cellF_le gl hb)))) rfl<|E3 12 hx 3 (by rfl) (fun w_ hE_ => Exists.elim hE_ (fun cs_ hC_ => I0 underlying3 rfl rfl (hC_.cell hw0))) rfl<|WE.e hx [6, 7] rfl<|E3 12 hx 5 (by rfl) (fun w_ hE_ => Exists.elim hE_ (fun cs_ hC_ => I0 underlying43 rfl rfl (hC_.cell hw1))) rfl<|WE.op (.inr (EC.mk h3 (Le.refl _))) (i := 8) (by rfl) (by kernel_rfl)<|F1 h3 i hi rfl rfl inf3 rfl rfl (Free.zero _) (Nat.le_of_ble_eq_true rfl) ?_
 intro  w4 h4
 try simp only [ZZ] at h4
 refine WL.nil<|U1<|WE.e hx [9, 10] rfl<|WE.op (.inr (EC.mk h4 (Le.refl _))) (i := 11) (by rfl) (by kernel_rfl)<|F1 h4 i hi2 rfl rfl inf43 rfl rfl (Free.zero _) (Nat.le_of_ble_eq_true rfl) ?_
 intro  w5 h5
 try simp only [ZZ] at h5
 rw [List.set_set] at h5
 refine WL.nil<|U1<|WE.fin (.inr (EC.mk h5 (Le.refl _))) (by kernel_rfl)<|fun a_ ha_ => ⟨ha_.df, _, rfl, .tuple #[], results_none rfl _ _ _, rfl, rfl, h5.weak gl⟩
theorem catch_i {cs : List Res} (w : World) {bb : Nat} (h : St W F cs w) : CallsD prog 154 #[.pointer (some ⟨bb, 0, none⟩)] .returning w fun r u' w' => r = .returned (.tuple #[]) ∧ u' = .returning ∧ St W F cs w'  := by
 refine callsD_of_wpS func154 rfl fun c₀ cs₀ hu => ?_
 try unfold wch chain1 at hu
 apply wpS_seq
 apply wpS_region
 simp [wpOpsS, go_sem, recoverD, hu, ntmps154, Exit.thenS]
 refine wpS_of_wp<|WC.go (N := 18) (D := []) (sl := [(0, .pointer (some ⟨bb, 0, none⟩)), (1, .nilIface)]) ?_ ⟨rfl, by simp, fun d v hl => ag2 (by simp) (by simp) hl⟩
 refine Wi<|WL.e 1 rfl<|C0 (Runs.ifneq0 underlying20 rfl rfl) rfl<|Wa<|V0 rfl (rfl)<|O0<|fun a_ ha_ => ⟨ha_.df, c₀.mode, rfl, .tuple #[], results_none rfl _ _ _, rfl, hu, h⟩
theorem take_off {cs : List Res} (w : World) {i rb : Nat} {q e : Int} {l : List UInt8} (fv : Value) (h : St W F cs w) (hi : cs[i]? = some [(rb, .cells #[.string (bs l), Vi q, Vi e] 161 (0, 0))]) (he : e ≠ 0) : Calls prog 123 #[.pointer (some ⟨rb, 0, none⟩), fv] w fun r w' => r = .returned (.tuple #[]) ∧ St W F cs w'  := by
 refine enterD (P := prog) (args := [.pointer (some ⟨rb, 0, none⟩), fv]) func123 rfl rfl rfl<|Wi<|WL.box rfl h rfl fun b2 w1 h1=>Wh<|W0 h1 [0] 1 rfl<|C0 (V1 underlying131 rfl rfl) rfl<|W0 h1 [0] 4 rfl<|WL.gn rfl<|C0 (I0 underlying43 rfl rfl (h1.ocell (i := i + 1) hi rfl)) rfl<|WL.gn rfl<|C0 (Bt (Z1 rfl rfl) (by rw [decide_eq_false he]; rfl)) rfl<|WL.e 1 rfl<|Wa<|B1 rfl (rfl)<|I1<|leaveN rfl ⟨rfl, h1.drop 0⟩
theorem take_on {cs : List Res} (w : World) {i rb f : Nat} {q : Int} {l : List UInt8} {caps : List Value} {K1 : List Res → Prop} {K2 : Int → Int → List Res → Prop} (hcan : B.Can prog f) (h : St W F cs w) (hi : cs[i]? = some [(rb, .cells #[.string (bs l), Vi q, Vi 0] 161 (0, 0))])
  (hdo : ∀ G w', Le F G → St W G cs w' → Calls prog f caps.toArray w' fun r w'' => (∃ cs1, r = .returned (.tuple #[]) ∧ K1 cs1 ∧ St W G cs1 w'') ∨ ∃ a e q cs2, r = .panicked (wch a e) ∧ K2 a e cs2 ∧ cs2[i]? = some [(rb, .cells #[.string (bs l), Vi q, Vi 0] 161 (0, 0))] ∧ St W G cs2 w'') :
  Calls prog 123 #[.pointer (some ⟨rb, 0, none⟩), .func (.func f) #[] caps.toArray] w fun r w' => r = .returned (.tuple #[]) ∧ ((∃ cs1, K1 cs1 ∧ St W F cs1 w') ∨ ∃ a e cs2, K2 a e cs2 ∧ St W F (cs2.set i [(rb, .cells #[.string (bs l), Vi a, Vi e] 161 (0, 0))]) w')  := by
 refine enterD (P := prog) (args := [.pointer (some ⟨rb, 0, none⟩), .func (.func f) #[] caps.toArray]) func123 rfl rfl rfl<|Wi<|WL.box rfl h rfl fun b2 w1 h1=>Wh<|W0 h1 [0] 1 rfl<|C0 (V1 underlying131 rfl rfl) rfl<|W0 h1 [0] 4 rfl<|WL.gn rfl<|C0 (I0 underlying43 rfl rfl (h1.ocell (i := i + 1) hi rfl)) rfl<|WL.gn rfl<|C0 (Bf (Z1 rfl rfl) rfl) rfl<|WL.e 1 rfl<|Wa<|V0 rfl (rfl)<|O0 (H0 (L0 ?_))
 obtain ⟨G, gl, g0, S0⟩ := h1.freeze (i := 0) rfl
 have hb : cellF G ⟨b2, 0, none⟩ = some (.pointer (some ⟨rb, 0, none⟩)) := by unfold cellF; simp only [g0 _ List.mem_cons_self]; rfl
 replace S0 : St W G cs w1 := S0
 refine K0<|C0 (Runs.makeFunc (us := []) (vs := [.pointer (some ⟨b2, 0, none⟩)]) rfl rfl) rfl<|WL.deferC rfl<|Wf<|WL.e 1 rfl<|WL.callvP hcan rfl rfl rfl (hdo G _ gl S0) ?_
 rintro _ w2 (⟨cs1, rfl, hk1, h2⟩ | ⟨a, e, q2, cs2, rfl, hk2, hi2, h2⟩)
 rotate_left
 ·refine .inr ⟨_, rfl,dieC rfl can154 rfl ((catch_p w2 h2 hi2 hb).mono fun r u' w' ⟨h1, h2, h3⟩ => ⟨h1, h2, rfl, .inr ⟨a, e, cs2, hk2, h3.weak gl⟩⟩)⟩
 refine .inl ⟨_, rfl,WL.nil<|leaveC rfl can154 ((catch_i w2 (bb := b2) h2).mono fun r u' w' ⟨h1, h2, h3⟩ => ⟨h1, h2, rfl, .inl ⟨cs1, hk1, h3.weak gl⟩⟩)⟩
theorem can123 : B.Can prog 123 := ⟨_, func123, by kernel_rfl, rfl⟩
theorem can124 : B.Can prog 124 := ⟨_, func124, by kernel_rfl, rfl⟩
theorem rnx_le {l : List UInt8} {p : Nat} (h : rerr l p = 0) : rnx l p ≤ l.length := by
 unfold rerr at h
 unfold rnx
 split at h
 ·cases h
 ·split at h
  ·cases h
  ·split at h
   ·cases h
   ·omega
theorem cerr_0 {l : List UInt8} {p : Nat} {m : Int} (h : cerr l p m = 0) : rerr l p = 0 ∧ (rval l p : Int) ≤ m := by
 unfold cerr at h
 by_cases h1 : rerr l p = 0
 ·rw [if_neg (by rw [h1]; decide)] at h
  split at h
  ·cases h
  ·exact ⟨h1, by omega⟩
 ·rw [if_pos h1] at h; exact absurd h h1
def rdN (l : List UInt8) (p : Nat) (e : Int) : Nat × Nat × Int := if e ≠ 0 then (0, p, e) else if rerr l p = 0 then (rval l p, rnx l p, 0) else (0, p, rerr l p)
def rdT (l : List UInt8) (p : Nat) (e : Int) : List UInt8 × Nat × Int := if e ≠ 0 then ([], p, e) else if cerr l p 4096 ≠ 0 then ([], p, cerr l p 4096) else if l.length < rnx l p + rval l p then ([], rnx l p, 2) else ((l.drop (rnx l p)).take (rval l p), rnx l p + rval l p, 0)
theorem rdN_le {l : List UInt8} {p : Nat} (e : Int) (hp : p ≤ l.length) : (rdN l p e).2.1 ≤ l.length := by
 unfold rdN
 split
 ·exact hp
 ·split
  ·rename_i h; exact rnx_le h
  ·exact hp
theorem num1_c {cs : List Res} (w : World) {i rb : Nat} {p : Nat} {l : List UInt8} {j k bb nb : Nat} {v0 : Int} (h : St W F cs w) (hi : cs[i]? = some [(rb, .cells #[.string (bs l), Vi p, Vi 0] 161 (0, 0))]) (hk : cs[k]? = some [(bb, .cells #[.pointer (some ⟨rb, 0, none⟩)] 131 (0, 0))]) (hj : cs[j]? = some [(nb, .cells #[Vi v0] 3 (0, 0))]) (hij : i ≠ j) (hl : l.length ≤ 9223372036854775807) (hp : p ≤ l.length) : Calls prog 124 #[.pointer (some ⟨bb, 0, none⟩), .pointer (some ⟨nb, 0, none⟩)] w fun r w' =>
 (r = .returned (.tuple #[]) ∧ rerr l p = 0 ∧ St W F ((cs.set i [(rb, .cells #[.string (bs l), Vi (rnx l p : Nat), Vi 0] 161 (0, 0))]).set j [(nb, .cells #[Vi (rval l p : Nat)] 3 (0, 0))]) w') ∨ (∃ q, r = .panicked (wch p (rerr l p)) ∧ rerr l p ≠ 0 ∧ St W F (cs.set i [(rb, .cells #[.string (bs l), Vi q, Vi 0] 161 (0, 0))]) w')  := by
 refine enter (args := [.pointer (some ⟨bb, 0, none⟩), .pointer (some ⟨nb, 0, none⟩)]) func124 rfl rfl rfl<|K0<|C0 (I0 underlying131 rfl rfl (h.ocell (hk) rfl)) rfl<|R3 can125 rfl rfl (num_c _ h hi hl hp) ?_
 rintro _ w1 (⟨he, rfl, h1⟩ | ⟨he, q, rfl, h1⟩)
 rotate_left
 ·refine .inr ⟨_, rfl,die0 (.inr ⟨q, rfl, he, h1⟩)⟩
 refine .inl ⟨_, rfl,F1 h1 j (by rw [List.getElem?_set_ne hij]; exact hj) rfl rfl inf3 rfl rfl (Free.zero _) (Nat.le_of_ble_eq_true rfl) ?_⟩
 intro  w2 h2
 try simp only [ZZ] at h2
 refine WL.nil<|end0 rfl (.inl ⟨rfl, he, h2⟩)
theorem readN_off {cs : List Res} (w : World) {i rb : Nat} {p : Nat} {l : List UInt8} {e : Int} (h : St W F cs w) (hi : cs[i]? = some [(rb, .cells #[.string (bs l), Vi p, Vi e] 161 (0, 0))]) (he : e ≠ 0) : Calls prog 82 #[.pointer (some ⟨rb, 0, none⟩)] w fun r w' => r = .returned (Vi 0) ∧ St W F cs w'  := by
 refine enter (args := [.pointer (some ⟨rb, 0, none⟩)]) func82 rfl rfl rfl<|Wi<|WL.box rfl h rfl fun b1 w1 h1=>WL.e 1 rfl<|We<|O1 rfl h1 inf3 fun b3 w2 h2=>F1 h2 0 rfl rfl rfl inf3 rfl rfl (Free.zero _) (Nat.le_of_ble_eq_true rfl) ?_
 intro  w3 h3
 try simp only [ZZ] at h3
 refine We<|W0 h3 [1] 1 rfl<|C0 (Runs.makeFunc (us := []) (vs := [.pointer (some ⟨b1, 0, none⟩), .pointer (some ⟨b3, 0, none⟩)]) rfl rfl) rfl<|WL.cv can123 rfl rfl (take_off _ _ h3 (i := i + 2) hi he) fun w4 h4 =>We<|W0 h4 [0] 2 rfl<|Wg<|ret1 rfl rfl ⟨rfl, (h4.drop 0).drop 0⟩
theorem readN_on {cs : List Res} (w : World) {i rb : Nat} {p : Nat} {l : List UInt8} (h : St W F cs w) (hi : cs[i]? = some [(rb, .cells #[.string (bs l), Vi p, Vi 0] 161 (0, 0))]) (hl : l.length ≤ 9223372036854775807) (hp : p ≤ l.length) : Calls prog 82 #[.pointer (some ⟨rb, 0, none⟩)] w fun r w' => r = .returned (Vi ((rdN l p 0).1 : Nat)) ∧ St W F (cs.set i [(rb, .cells #[.string (bs l), Vi ((rdN l p 0).2.1 : Nat), Vi (rdN l p 0).2.2] 161 (0, 0))]) w'  := by
 refine enter (args := [.pointer (some ⟨rb, 0, none⟩)]) func82 rfl rfl rfl<|Wi<|WL.box rfl h rfl fun b1 w1 h1=>WL.e 1 rfl<|We<|O1 rfl h1 inf3 fun b3 w2 h2=>F1 h2 0 rfl rfl rfl inf3 rfl rfl (Free.zero _) (Nat.le_of_ble_eq_true rfl) ?_
 intro  w3 h3
 try simp only [ZZ] at h3
 refine We<|W0 h3 [1] 1 rfl<|C0 (Runs.makeFunc (us := []) (vs := [.pointer (some ⟨b1, 0, none⟩), .pointer (some ⟨b3, 0, none⟩)]) rfl rfl) rfl<|H1 can123 rfl rfl (take_on (f := 124) (caps := [.pointer (some ⟨b1, 0, none⟩), .pointer (some ⟨b3, 0, none⟩)]) (i := i + 2)
  (K1 := fun cs1 => rerr l p = 0 ∧ cs1 = ([(b3, .cells #[Vi (rval l p : Nat)] 3 (0, 0))] :: [(b1, .cells #[.pointer (some ⟨rb, 0, none⟩)] 131 (0, 0))] :: cs.set i [(rb, .cells #[.string (bs l), Vi (rnx l p : Nat), Vi 0] 161 (0, 0))])) (K2 := fun a e cs2 => rerr l p ≠ 0 ∧ a = p ∧ e = rerr l p ∧ ∃ q, cs2 = ([(b3, .cells #[Vi 0] 3 (0, 0))] :: [(b1, .cells #[.pointer (some ⟨rb, 0, none⟩)] 131 (0, 0))] :: cs.set i [(rb, .cells #[.string (bs l), Vi q, Vi 0] 161 (0, 0))]))
  _ can124 h3 hi (fun G w2 hle hS => (num1_c w2 (i := i + 2) (j := 0) (k := 1) hS hi rfl rfl (by omega) hl hp).mono fun r w3 hh => ?_)) ?_
 ·rcases hh with ⟨h1, h2, h3⟩ | ⟨q, h1, h2, h3⟩
  ·exact .inl ⟨_, h1, ⟨h2, rfl⟩, h3⟩
  ·exact .inr ⟨p, rerr l p, q, _, h1, ⟨h2, rfl, rfl, q, rfl⟩, by show (cs.set i _)[i]? = _; rw [List.getElem?_set_self (List.getElem?_eq_some_iff.1 hi).1], h3⟩
 rintro _ wt ⟨rfl, hh⟩
 refine ⟨_, rfl, ?_⟩
 obtain ⟨vv, hvv, hS⟩ : ∃ vv, vv = ((rdN l p 0).1 : Nat) ∧ St W F ([(b3, .cells #[Vi (vv : Nat)] 3 (0, 0))] :: [(b1, .cells #[.pointer (some ⟨rb, 0, none⟩)] 131 (0, 0))] :: cs.set i [(rb, .cells #[.string (bs l), Vi ((rdN l p 0).2.1 : Nat), Vi (rdN l p 0).2.2] 161 (0, 0))]) wt := by
  rcases hh with ⟨cs1, ⟨he, rfl⟩, h3⟩ | ⟨a, e, cs2, ⟨he, rfl, rfl, q, rfl⟩, h3⟩
  ·have e1 : rdN l p 0 = (rval l p, rnx l p, 0) := by unfold rdN; rw [if_neg (by simp), if_pos he]
   rw [e1]; exact ⟨_, rfl, h3⟩
  ·have e1 : rdN l p 0 = (0, p, rerr l p) := by unfold rdN; rw [if_neg (by simp), if_neg he]
   rw [e1]; refine ⟨_, rfl, ?_⟩
   simp only [List.set_cons_succ, List.set_set] at h3
   exact h3
 refine We<|W0 hS [0] 2 rfl<|WL.nil (H0 (I1 ?_))
 obtain ⟨rfl⟩ := hvv
 exact ret1 rfl rfl ⟨rfl, (hS.drop 0).drop 0⟩
theorem inf9 : Inf prog 9 (.string ⟨#[]⟩) 1 16 := by unfold Inf; kernel_rfl
theorem can126 : B.Can prog 126 := ⟨_, func126, by kernel_rfl, rfl⟩
theorem can127 : B.Can prog 127 := ⟨_, func127, by kernel_rfl, rfl⟩
def rdEnd (l : List UInt8) (p : Nat) (e : Int) : Int × Nat := if e = 0 ∧ p < l.length then (4, p) else (e, p)
theorem cases5 (e : Int) (p n : Nat) : e ≠ 0 ∨ (e = 0 ∧ p < n) ∨ (e = 0 ∧ ¬ p < n) := by omega
theorem text1_c {cs : List Res} (w : World) {i rb : Nat} {p : Nat} {l : List UInt8} {j k bb nb : Nat} {v0 : Value} (h : St W F cs w) (hi : cs[i]? = some [(rb, .cells #[.string (bs l), Vi p, Vi 0] 161 (0, 0))]) (hk : cs[k]? = some [(bb, .cells #[.pointer (some ⟨rb, 0, none⟩)] 131 (0, 0))]) (hj : cs[j]? = some [(nb, .cells #[v0] 9 (0, 0))]) (hij : i ≠ j ∧ i ≠ k) (hl : l.length ≤ 9223372036854775807) (hp : p ≤ l.length) : Calls prog 126 #[.pointer (some ⟨bb, 0, none⟩), .pointer (some ⟨nb, 0, none⟩)] w fun r w' =>
 (r = .returned (.tuple #[]) ∧ (cerr l p 4096 = 0 ∧ rnx l p + rval l p ≤ l.length) ∧ St W F ((cs.set i [(rb, .cells #[.string (bs l), Vi (rnx l p + rval l p : Nat), Vi 0] 161 (0, 0))]).set j [(nb, .cells #[.string (bs ((l.drop (rnx l p)).take (rval l p)))] 9 (0, 0))]) w') ∨ (∃ (a : Nat) (e q : Int), r = .panicked (wch a e) ∧ (e ≠ 0 ∧ rdT l p 0 = ([], a, e)) ∧ St W F (cs.set i [(rb, .cells #[.string (bs l), Vi q, Vi 0] 161 (0, 0))]) w')  := by
 refine enter (args := [.pointer (some ⟨bb, 0, none⟩), .pointer (some ⟨nb, 0, none⟩)]) func126 rfl rfl rfl<|Wi<|C0 (I0 underlying131 rfl rfl (h.ocell (hk) rfl)) rfl<|R3 can127 rfl rfl (count_c _ 4096 h hi hl hp) ?_
 rintro _ w1 (⟨he, rfl, h1⟩ | ⟨he, q, rfl, h1⟩)
 rotate_left
 ·refine .inr ⟨_, rfl,die0 (.inr ⟨p, _, q, rfl, ⟨he, by unfold rdT; rw [if_neg (by simp), if_pos he]⟩, h1⟩)⟩
 refine .inl ⟨_, rfl, ?_⟩
 have hi1 : (cs.set i [(rb, .cells #[.string (bs l), Vi (rnx l p : Nat), Vi 0] 161 (0, 0))])[i]? = some [(rb, .cells #[.string (bs l), Vi (rnx l p : Nat), Vi 0] 161 (0, 0))] := by rw [List.getElem?_set_self (List.getElem?_eq_some_iff.1 hi).1]
 have hk1 : (cs.set i [(rb, .cells #[.string (bs l), Vi (rnx l p : Nat), Vi 0] 161 (0, 0))])[k]? = some [(bb, .cells #[.pointer (some ⟨rb, 0, none⟩)] 131 (0, 0))] := by rw [List.getElem?_set_ne hij.2]; exact hk
 have hrn := rnx_le (cerr_0 he).1
 refine WL.e 1 rfl<|WL.nil (H0 ?_)
 have hcase : l.length < rnx l p + rval l p ∨ rnx l p + rval l p ≤ l.length := by omega
 rcases hcase with hn | hn
 ·skip
  refine I4 h1 (fun s_ => ([6, 7] : List Nat).any (Nat.beq s_)) mixed (by kernel_rfl)<|fun hx =>fun w2 h2=>WE.e hx [1] rfl<|E3 12 hx 0 (by rfl) (fun w_ hE_ => I0 underlying131 rfl rfl (hE_.ocell (hk1) rfl)) rfl<|E3 12 hx 2 (by rfl) (fun w_ hE_ => I0 underlying131 rfl rfl (hE_.ocell (hk1) rfl)) rfl<|WE.e hx [3, 4] rfl<|E3 12 hx 5 (by rfl) (fun w_ hE_ => I0 underlying3 rfl rfl (hE_.ocell hi1 rfl)) rfl<|WE.op (.inr h2) (i := 6) (by rfl) (by kernel_rfl)<|R3 can128 rfl rfl (bytes_no _ (rval l p) (rnx l p) h2 hi1 hl hrn hn (by have := (cerr_0 he).2; omega)) ?_
  rintro _ w3 ⟨rfl, h3⟩
  refine .inr ⟨_, rfl,WP.region<|die0 (.inr ⟨rnx l p, 2, _, rfl, ⟨by decide, by unfold rdT; rw [if_neg (by simp), if_neg (by rw [he]; simp), if_pos hn]⟩, h3⟩)⟩
 ·skip
  refine I4 h1 (fun s_ => ([6, 7] : List Nat).any (Nat.beq s_)) mixed (by kernel_rfl)<|fun hx =>fun w4 h4=>WE.e hx [1] rfl<|E3 12 hx 0 (by rfl) (fun w_ hE_ => I0 underlying131 rfl rfl (hE_.ocell (hk1) rfl)) rfl<|E3 12 hx 2 (by rfl) (fun w_ hE_ => I0 underlying131 rfl rfl (hE_.ocell (hk1) rfl)) rfl<|WE.e hx [3, 4] rfl<|E3 12 hx 5 (by rfl) (fun w_ hE_ => I0 underlying3 rfl rfl (hE_.ocell hi1 rfl)) rfl<|WE.op (.inr h4) (i := 6) (by rfl) (by kernel_rfl)<|WL.cv can128 rfl rfl (bytes_ok _ (rval l p) (rnx l p) h4 hi1 hl hrn hn) fun w5 h5 =>WL.nil<|U1<|WE.op (.inl ⟨6, rfl, by kernel_rfl⟩) (i := 7) (by rfl) (by kernel_rfl)<|F1 h5 j (by rw [List.set_set, List.getElem?_set_ne hij.1]; exact hj) rfl rfl inf9 rfl rfl (Free.zero _) (Nat.le_of_ble_eq_true rfl) ?_
  intro  w6 h6
  try simp only [ZZ] at h6
  rw [List.set_set] at h6
  refine WL.nil<|U1<|WE.fin (.inl ⟨6, rfl, by kernel_rfl⟩) (by kernel_rfl)<|end0 rfl (.inl ⟨rfl, ⟨he, hn⟩, h6⟩)
theorem readT_off {cs : List Res} (w : World) {i rb : Nat} {p : Nat} {l : List UInt8} {e : Int} (h : St W F cs w) (hi : cs[i]? = some [(rb, .cells #[.string (bs l), Vi p, Vi e] 161 (0, 0))]) (he : e ≠ 0) : Calls prog 83 #[.pointer (some ⟨rb, 0, none⟩)] w fun r w' => r = .returned (.string (bs [])) ∧ St W F cs w'  := by
 refine enter (args := [.pointer (some ⟨rb, 0, none⟩)]) func83 rfl rfl rfl<|Wi<|WL.box rfl h rfl fun b1 w1 h1=>WL.e 1 rfl<|We<|O1 rfl h1 inf9 fun b3 w2 h2=>F1 h2 0 rfl rfl rfl inf9 rfl rfl (Free.zero _) (Nat.le_of_ble_eq_true rfl) ?_
 intro  w3 h3
 try simp only [ZZ] at h3
 refine We<|W0 h3 [1] 1 rfl<|C0 (Runs.makeFunc (us := []) (vs := [.pointer (some ⟨b1, 0, none⟩), .pointer (some ⟨b3, 0, none⟩)]) rfl rfl) rfl<|WL.cv can123 rfl rfl (take_off _ _ h3 (i := i + 2) hi he) fun w4 h4 =>We<|W0 h4 [0] 2 rfl<|Wg<|ret1 rfl rfl ⟨rfl, (h4.drop 0).drop 0⟩
theorem readT_on {cs : List Res} (w : World) {i rb : Nat} {p : Nat} {l : List UInt8} (h : St W F cs w) (hi : cs[i]? = some [(rb, .cells #[.string (bs l), Vi p, Vi 0] 161 (0, 0))]) (hl : l.length ≤ 9223372036854775807) (hp : p ≤ l.length) : Calls prog 83 #[.pointer (some ⟨rb, 0, none⟩)] w fun r w' => r = .returned (.string (bs (rdT l p 0).1)) ∧ St W F (cs.set i [(rb, .cells #[.string (bs l), Vi ((rdT l p 0).2.1 : Nat), Vi (rdT l p 0).2.2] 161 (0, 0))]) w'  := by
 refine enter (args := [.pointer (some ⟨rb, 0, none⟩)]) func83 rfl rfl rfl<|Wi<|WL.box rfl h rfl fun b1 w1 h1=>WL.e 1 rfl<|We<|O1 rfl h1 inf9 fun b3 w2 h2=>F1 h2 0 rfl rfl rfl inf9 rfl rfl (Free.zero _) (Nat.le_of_ble_eq_true rfl) ?_
 intro  w3 h3
 try simp only [ZZ] at h3
 refine We<|W0 h3 [1] 1 rfl<|C0 (Runs.makeFunc (us := []) (vs := [.pointer (some ⟨b1, 0, none⟩), .pointer (some ⟨b3, 0, none⟩)]) rfl rfl) rfl<|H1 can123 rfl rfl (take_on (f := 126) (caps := [.pointer (some ⟨b1, 0, none⟩), .pointer (some ⟨b3, 0, none⟩)]) (i := i + 2)
  (K1 := fun cs1 => (cerr l p 4096 = 0 ∧ rnx l p + rval l p ≤ l.length) ∧ cs1 = ([(b3, .cells #[.string (bs ((l.drop (rnx l p)).take (rval l p)))] 9 (0, 0))] :: [(b1, .cells #[.pointer (some ⟨rb, 0, none⟩)] 131 (0, 0))] :: cs.set i [(rb, .cells #[.string (bs l), Vi (rnx l p + rval l p : Nat), Vi 0] 161 (0, 0))])) (K2 := fun a e cs2 => (∃ a', a = ((a' : Nat) : Int) ∧ e ≠ 0 ∧ rdT l p 0 = ([], a', e)) ∧ ∃ q, cs2 = ([(b3, .cells #[.string (bs [])] 9 (0, 0))] :: [(b1, .cells #[.pointer (some ⟨rb, 0, none⟩)] 131 (0, 0))] :: cs.set i [(rb, .cells #[.string (bs l), Vi q, Vi 0] 161 (0, 0))]))
  _ can126 h3 hi (fun G w2 hle hS => (text1_c w2 (i := i + 2) (j := 0) (k := 1) hS hi rfl rfl (by omega) hl hp).mono fun r w3 hh => ?_)) ?_
 ·rcases hh with ⟨h1, h2, h3⟩ | ⟨a, e, q, h1, h2, h3⟩
  ·exact .inl ⟨_, h1, ⟨h2, rfl⟩, h3⟩
  ·exact .inr ⟨a, e, q, _, h1, ⟨⟨a, rfl, h2⟩, q, rfl⟩, by show (cs.set i _)[i]? = _; rw [List.getElem?_set_self (List.getElem?_eq_some_iff.1 hi).1], h3⟩
 rintro _ wt ⟨rfl, hh⟩
 refine ⟨_, rfl, ?_⟩
 obtain ⟨vv, hvv, hS⟩ : ∃ vv, vv = (rdT l p 0).1 ∧ St W F ([(b3, .cells #[.string (bs vv)] 9 (0, 0))] :: [(b1, .cells #[.pointer (some ⟨rb, 0, none⟩)] 131 (0, 0))] :: cs.set i [(rb, .cells #[.string (bs l), Vi ((rdT l p 0).2.1 : Nat), Vi (rdT l p 0).2.2] 161 (0, 0))]) wt := by
  rcases hh with ⟨cs1, ⟨⟨he, hle⟩, rfl⟩, h3⟩ | ⟨_, e, cs2, ⟨⟨a, rfl, _, e1⟩, q, rfl⟩, h3⟩
  ·have e1 : rdT l p 0 = ((l.drop (rnx l p)).take (rval l p), rnx l p + rval l p, 0) := by unfold rdT; rw [if_neg (by simp), if_neg (by rw [he]; simp), if_neg (by omega)]
   rw [e1]; exact ⟨_, rfl, h3⟩
  ·rw [e1]; refine ⟨_, rfl, ?_⟩
   simp only [List.set_cons_succ, List.set_set] at h3
   exact h3
 refine We<|W0 hS [0] 2 rfl<|WL.nil (H0 (I1 ?_))
 obtain ⟨rfl⟩ := hvv
 exact ret1 rfl rfl ⟨rfl, (hS.drop 0).drop 0⟩
theorem rend_c {cs : List Res} (w : World) {i rb : Nat} {p : Nat} {l : List UInt8} {e : Int} (h : St W F cs w) (hi : cs[i]? = some [(rb, .cells #[.string (bs l), Vi p, Vi e] 161 (0, 0))]) : Calls prog 84 #[.pointer (some ⟨rb, 0, none⟩)] w fun r w' => r = .returned (.tuple #[Vi (rdEnd l p e).1, Vi ((rdEnd l p e).2 : Nat)]) ∧ St W F cs w'  := by
 refine enter (args := [.pointer (some ⟨rb, 0, none⟩)]) func84 rfl rfl rfl<|Wi<|WL.e 2 rfl<|Wb<|WC.block<|Wi<|WL.e 1 rfl<|C0 (V1 underlying131 rfl rfl) rfl<|WL.e 1 rfl<|Wa<|V0 rfl (rfl)<|L0 ?_
 rcases cases5 e p l.length with hx1 | ⟨hx1, hx2⟩ | ⟨hx1, hx2⟩
 ·skip
  refine I2 (C := fun w_ => St W _ _ w_) mixed (by kernel_rfl) (h.drew)<|WQ.e 3 rfl<|WQ.val (fun w_ hC_ => I0 underlying43 rfl rfl (hC_.ocell hi rfl)) rfl<|WQ.val (fun w_ hC_ => Bf (Y0 rfl rfl) (decide_eq_false hx1)) rfl<|WQ.e 13 rfl<|WQ.fin fun w1 h1=>H0<|V0 rfl (rfl)<|O0<|WN.blk<|H0<|L0<|I2 (C := fun w_ => St W _ _ w_) mixed (by kernel_rfl) (h1.drew)<|WQ.e 3 rfl<|WQ.val (fun w_ hC_ => I0 underlying43 rfl rfl (hC_.ocell hi rfl)) rfl<|WQ.e 3 rfl<|WQ.val (fun w_ hC_ => I0 underlying3 rfl rfl (hC_.ocell hi rfl)) rfl<|WQ.e 2 rfl<|WQ.fin fun w2 h2=>H0<|I1<|ret2 rfl rfl rfl ⟨?_, h2⟩
  unfold rdEnd
  rw [if_neg (fun h => hx1 h.1)]
  rfl
 ·skip
  refine I2 (C := fun w_ => St W _ _ w_) mixed (by kernel_rfl) (h.drew)<|WQ.e 3 rfl<|WQ.val (fun w_ hC_ => I0 underlying43 rfl rfl (hC_.ocell hi rfl)) rfl<|WQ.val (fun w_ hC_ => Bt (Y0 rfl rfl) (decide_eq_true hx1)) rfl<|WQ.e 4 rfl<|WQ.gn rfl<|WQ.val (fun w_ hC_ => I0 underlying3 rfl rfl (hC_.ocell hi rfl)) rfl<|WQ.e 3 rfl<|WQ.gn rfl<|WQ.val (fun w_ hC_ => I0 underlying9 rfl rfl (hC_.ocell hi rfl)) rfl<|WQ.gn rfl<|WQ.val (fun w_ hC_ => N0 (n := (l.length : Int)) (N2 underlying9 rfl rfl) rfl) rfl<|WQ.gn rfl<|WQ.val (fun w_ hC_ => Bt (N1 rfl rfl) (by rw [decide_eq_true_eq]; omega)) rfl<|WQ.e 2 rfl<|WQ.fin fun w3 h3=>H0<|B1 rfl (rfl)<|L0<|I2 (C := fun w_ => St W _ _ w_) mixed (by kernel_rfl) (h3.drew)<|WQ.e 3 rfl<|WQ.val (fun w_ hC_ => I0 underlying3 rfl rfl (hC_.ocell hi rfl)) rfl<|WQ.e 2 rfl<|WQ.fin fun w4 h4=>H0<|I1<|ret2 rfl rfl rfl ⟨?_, h4⟩
  unfold rdEnd
  rw [if_pos ⟨hx1, hx2⟩]
  rfl
 ·skip
  refine I2 (C := fun w_ => St W _ _ w_) mixed (by kernel_rfl) (h.drew)<|WQ.e 3 rfl<|WQ.val (fun w_ hC_ => I0 underlying43 rfl rfl (hC_.ocell hi rfl)) rfl<|WQ.val (fun w_ hC_ => Bt (Y0 rfl rfl) (decide_eq_true hx1)) rfl<|WQ.e 4 rfl<|WQ.gn rfl<|WQ.val (fun w_ hC_ => I0 underlying3 rfl rfl (hC_.ocell hi rfl)) rfl<|WQ.e 3 rfl<|WQ.gn rfl<|WQ.val (fun w_ hC_ => I0 underlying9 rfl rfl (hC_.ocell hi rfl)) rfl<|WQ.gn rfl<|WQ.val (fun w_ hC_ => N0 (n := (l.length : Int)) (N2 underlying9 rfl rfl) rfl) rfl<|WQ.gn rfl<|WQ.val (fun w_ hC_ => Bf (N1 rfl rfl) (by rw [decide_eq_false_iff_not]; omega)) rfl<|WQ.e 2 rfl<|WQ.fin fun w5 h5=>H0<|V0 rfl (rfl)<|O0<|WN.blk<|H0<|L0<|I2 (C := fun w_ => St W _ _ w_) mixed (by kernel_rfl) (h5.drew)<|WQ.e 3 rfl<|WQ.val (fun w_ hC_ => I0 underlying43 rfl rfl (hC_.ocell hi rfl)) rfl<|WQ.e 3 rfl<|WQ.val (fun w_ hC_ => I0 underlying3 rfl rfl (hC_.ocell hi rfl)) rfl<|WQ.e 2 rfl<|WQ.fin fun w6 h6=>H0<|I1<|ret2 rfl rfl rfl ⟨?_, h6⟩
  unfold rdEnd
  rw [if_neg (fun h => hx2 h.2)]
  rfl
theorem read_c {cs : List Res} (w : World) (l : List UInt8) (h : St W F cs w) : Calls prog 81 #[.string (bs l)] w fun r w' => ∃ rb, r = .returned (.pointer (some ⟨rb, 0, none⟩)) ∧ St W F ([(rb, .cells #[.string (bs l), Vi (0 : Nat), Vi 0] 161 (0, 0))] :: cs) w'  := by
 refine enter (args := [.string (bs l)]) func81 rfl rfl rfl<|Wi<|WL.e 1 rfl<|We<|WL.e 1 rfl<|C0 (B2 (vs := [(0, .string (bs l))]) (cells := #[.string (bs l), Vi 0, Vi 0]) rfl (by kernel_rfl)) rfl<|WL.box rfl h rfl fun b5 w1 h1=>WL.e 1 rfl<|Wg<|ret1 rfl rfl ⟨b5, rfl, h1⟩
theorem inf5 : Inf prog 5 (.int .u8 0) 1 1 := by unfold Inf; kernel_rfl
theorem can76 : B.Can prog 76 := ⟨_, func76, by kernel_rfl, rfl⟩
def hi (n : Nat) : List UInt8 := if n = 0 then [] else hi (n / 256) ++ [UInt8.ofNat n]
termination_by n
decreasing_by omega
theorem hi_0 : hi 0 = [] := by rw [hi, if_pos rfl]
theorem hi_s {n : Nat} (h : n ≠ 0) : hi n = hi (n / 256) ++ [UInt8.ofNat n] := by rw [hi, if_neg h]
theorem hi_lt (k : Nat) : ∀ n, k < (hi n).length ↔ 0 < n / 2 ^ (8 * k) := by
 induction k with
 |zero =>
  intro n
  by_cases h : n = 0
  ·subst h; rw [hi_0]; simp
  ·rw [hi_s h]; simp; omega
 |succ k ih =>
  intro n
  by_cases h : n = 0
  ·subst h; rw [hi_0]; simp
  ·rw [hi_s h, List.length_append, List.length_singleton, Nat.add_lt_add_iff_right, ih]
   rw [show 8 * (k + 1) = 8 + 8 * k by omega, Nat.pow_add, ← Nat.div_div_eq_div_mul]
theorem hi_six {n : Nat} (h : n ≤ 1099511627776) : (hi n).length ≤ 6 := by
 rcases Nat.lt_or_ge 6 (hi n).length with h1 | h1
 ·have := (hi_lt 6 n).1 h1
  have h2 : n / 2 ^ (8 * 6) = 0 := Nat.div_eq_of_lt (by omega)
  omega
 ·exact h1
def numN (n : Nat) : List UInt8 := UInt8.ofNat (hi n).length :: hi n
def mayN (n : Int) : Prop := 0 ≤ n ∧ n ≤ 1099511627776
instance (n : Int) : Decidable (mayN n) := inferInstanceAs (Decidable (_ ∧ _))
def numB (n : Int) : List UInt8 := if mayN n then numN n.toNat else []
theorem numB_len (n : Int) : (numB n).length ≤ 7 := by
 unfold numB numN
 split
 ·rename_i h
  have := hi_six (n := n.toNat) (by have := h.2; omega)
  simp; omega
 ·simp
def textB (l : List UInt8) : List UInt8 := if 4096 < l.length then [] else numB (l.length : Int) ++ l
theorem hi_step {n k : Nat} (h : k < (hi n).length) : hi (n / 2 ^ (8 * k)) = hi (n / 2 ^ (8 * (k + 1))) ++ [UInt8.ofNat (n / 2 ^ (8 * k))] := by
 have := (hi_lt k n).1 h
 rw [hi_s (by omega)]
 rw [show 8 * (k + 1) = 8 * k + 8 by omega, Nat.pow_add, ← Nat.div_div_eq_div_mul]
theorem hi_end (n : Nat) : hi (n / 2 ^ (8 * (hi n).length)) = [] := by
 rcases Nat.eq_zero_or_pos (n / 2 ^ (8 * (hi n).length)) with h | h
 ·rw [h, hi_0]
 ·have := (hi_lt (hi n).length n).2 h
  omega
theorem node_dec (n : Int) : decide (-1 ≤ n ∧ n < 16) = (decide (-1 ≤ n) && decide (n < 16)) := by
 by_cases h1 : -1 ≤ n <;> by_cases h2 : n < 16 <;> simp [h1, h2]
theorem wnum_no {cs : List Res} (w : World) (n : Int) (h : St W F cs w) (hn : ¬ mayN n) : Calls prog 76 #[Vi n] w fun r w' => r = .returned (.string (bs (numB n))) ∧ St W F cs w'  := by
 refine enter (args := [Vi n]) func76 rfl rfl rfl<|Wi<|WL.e 1 rfl<|Wh<|WL.e 1 rfl<|WL.cv can120 rfl rfl (may_n _ _ h hn) fun w1 h1 =>WL.e 1 rfl<|Wa<|B1 rfl (rfl)<|Wi<|WL.e 1 rfl<|Wg<|ret1 rfl rfl ⟨?_, h1⟩
 rw [numB, if_neg hn]; rfl
theorem wnum_y {cs : List Res} (w : World) (m : Nat) (h : St W F cs w) (hm : m ≤ 1099511627776) : Calls prog 76 #[Vi (m : Int)] w fun r w' => r = .returned (.string (bs (numN m))) ∧ St W F cs w'  := by
 refine enter (args := [Vi (m : Int)]) func76 rfl rfl rfl ?_
 have h6 := hi_six hm
 refine Wi<|WL.e 1 rfl<|Wh<|WL.e 1 rfl<|WL.cv can120 rfl rfl (may_y _ _ h ⟨by omega, by omega⟩) fun w1 h1 =>WL.e 1 rfl<|Wa<|V0 rfl (rfl)<|Wk<|WL.e 1 rfl<|Wb<|WC.block<|WC.lp (σ := Nat) (fun q_ => [(0, Vi (m : Int)), (3, .int .i64 (q_ : Int))]) (fun q_ w => q_ ≤ (hi m).length ∧ St W F cs w) (fun q_ => (hi m).length - q_) (0) (⟨by omega, h1⟩) ?_
 rintro k w2 ⟨hk, hL⟩
 try dsimp only at hk hL
 refine O2 [(0, Vi (m : Int)), (3, .int .i64 (k : Int))] ?_
 have hlt := hi_lt k m
 refine L0<|Wi<|WL.e 2 rfl<|C0 (N3 rfl rfl (by omega)) rfl<|C0 (Runs.shrN (m := m) (n := 8 * k) rfl rfl (by omega) (by omega)) rfl<|C0 (X1 rfl rfl) rfl<|Wa<|U0 rfl (fun c3 => ?_) (fun c3 => ?_)
 ·try simp only [DD] at c3
  refine O0<|H0<|WC.block<|K0<|WL.e 1 rfl<|C0 (Q0 rfl rfl (by omega)) rfl<|WL.e 1 rfl<|WL.nil<|WN.blk<|X0 (k + 1) (by have := hlt.2 (by omega); omega) ⟨rfl, rfl, trivial⟩ ⟨by have := hlt.2 (by omega); omega, hL⟩
 ·try simp only [DD] at c3
  refine WC.exit<|Q1<|WX.cut<|S1<|H0<|Wi<|WL.e 1 rfl<|C0 (R4 underlying3 underlying5 (m := k) rfl rfl) rfl<|WL.lit (vs := (([UInt8.ofNat k] : List UInt8)).map V8) hL rfl underlying120 inf5 rfl rfl rfl rfl rfl fun lit18 w4 h4=>WL.e 1 rfl<|Wh<|WL.e 1 rfl<|C0 (W2 rfl rfl (by omega)) rfl<|WL.e 1 rfl<|WL.nil (H0 (WC.block ?_))
  have hk2 : k = (hi m).length := by
   rcases Nat.lt_or_ge k (hi m).length with h1 | h1
   ·have := hlt.1 h1; omega
   ·omega
  subst hk2
  refine WC.lp (σ := Nat × Res × Value) (fun q_ => [(0, Vi (m : Int)), (4, q_.2.2), (5, .int .i64 ((q_.1 : Int) - 1))]) (fun q_ w => q_.1 ≤ (hi m).length ∧ Row 5 V8 q_.2.1 q_.2.2 (UInt8.ofNat (hi m).length :: hi (m / 2 ^ (8 * q_.1))) ∧ St W F (q_.2.1 :: cs) w) (fun q_ => q_.1) (⟨(hi m).length, [(lit18, .cells #[V8 (UInt8.ofNat (hi m).length)] 5 (0, 0))], .slice (some ⟨lit18, 0, none⟩) 1 1⟩) (⟨Nat.le_refl _, by rw [hi_end]; exact Row.lit (f := V8) (xs := [UInt8.ofNat (hi m).length]) rfl, h4⟩) ?_
  rintro ⟨j, r, v⟩ w5 ⟨hj, hro, hL⟩
  try dsimp only at hj hro hL
  refine O2 [(0, Vi (m : Int)), (4, v), (5, .int .i64 ((j : Int) - 1))] ?_
  have hvf := hro.val
  have hll : (UInt8.ofNat (hi m).length :: hi (m / 2 ^ (8 * j))).length ≤ 100 := by
   have := hi_six (n := m / 2 ^ (8 * j)) (Nat.le_trans (Nat.div_le_self _ _) hm)
   rw [List.length_cons]; omega
  obtain ⟨A1, c1_, rfl, hcap⟩ := hvf
  refine L0<|Wi<|WL.e 1 rfl<|C0 (Z0 rfl rfl) rfl<|Wa<|U0 rfl (fun c6 => ?_) (fun c6 => ?_)
  ·try simp only [DD] at c6
   refine O0<|H0<|L0<|WC.block<|K0<|WL.e 3 rfl<|C0 (N3 rfl rfl (by omega)) rfl<|C0 (Runs.shrN (m := m) (n := 8 * (j - 1)) rfl rfl (by omega) (by omega)) rfl<|C0 (R4 underlying3 underlying5 (m := m / 2 ^ (8 * (j - 1))) rfl rfl) rfl<|WL.lit (vs := (([UInt8.ofNat (m / 2 ^ (8 * (j - 1)))] : List UInt8)).map V8) hL rfl underlying120 inf5 rfl rfl rfl rfl rfl fun lit31 w7 h7=>J3 (ys := ([UInt8.ofNat (m / 2 ^ (8 * (j - 1)))] : List UInt8)) 1 h7 rfl rfl rfl rfl underlying120 underlying120 (.inr ⟨_, rfl⟩) inf5 rfl hro (Src.lit h7 0 rfl rfl rfl) rfl rfl (by first | omega | (simp []; done) | (simp []; omega)) (by first | omega | (simp []; done) | (simp []; omega)) ?_
   intro r8 v8 w9 hr8 h9
   simp only [lz, ls] at h9
   replace h9 := h9.drop 0
   simp only [ez, es'] at h9
   refine WL.e 1 rfl<|WL.nil<|WN.blk<|H0<|K0<|WL.e 1 rfl<|C0 (W2 rfl rfl (by omega)) rfl<|WL.e 1 rfl<|WL.nil<|X0 (⟨j - 1, r8, v8⟩ : Nat × Res × Value) (by show j - 1 < j; omega) ⟨rfl, rfl, ?_, trivial⟩ ⟨by show j - 1 ≤ _; omega, ?_, h9⟩
   ·show _ = some (Value.int .i64 (((j - 1 : Nat) : Int) - 1))
    rw [show ((j - 1 : Nat) : Int) = (j : Int) - 1 by omega]; rfl
   ·have := hr8
    show Row _ _ _ _ (_ :: hi (m / 2 ^ (8 * (j - 1))))
    rw [hi_step (k := j - 1) (by omega), show j - 1 + 1 = j by omega]
    exact this
  ·try simp only [DD] at c6
   refine WC.exit (Q1 (WX.cut (S1 (H0 (L0 ?_)))))
   obtain rfl : j = 0 := by omega
   rw [show m / 2 ^ (8 * 0) = m by simp] at hro
   refine K0<|WL.e 1 rfl<|C0 (L1 (u := .string (bs (numN m))) (Y4 underlying120 underlying5 underlying9 rfl (by simp [numN]) (bs := numN m) (hro.wcell (i := 0) hL rfl rfl)) rfl) rfl<|WL.e 1 rfl<|Wg<|ret1 rfl rfl ⟨rfl, hL.drop 0⟩
theorem wnum_c {cs : List Res} (w : World) (n : Int) (h : St W F cs w) : Calls prog 76 #[Vi n] w fun r w' => r = .returned (.string (bs (numB n))) ∧ St W F cs w' := by
 by_cases hn : mayN n
 ·have e : n = ((n.toNat : Nat) : Int) := by have := hn.1; omega
  have h2 := hn.2
  rw [numB, if_pos hn]
  have := wnum_y w n.toNat h (by omega)
  rwa [← e] at this
 ·exact wnum_no w n h hn
theorem wtext_c {cs : List Res} (w : World) (l : List UInt8) (h : St W F cs w) (hl : l.length ≤ 100000) : Calls prog 78 #[.string (bs l)] w fun r w' => r = .returned (.string (bs (textB l))) ∧ St W F cs w'  := by
 refine enter (args := [.string (bs l)]) func78 rfl rfl rfl<|Wi<|WL.e 1 rfl<|Wh<|WL.e 1 rfl<|C0 (N0 (n := (l.length : Int)) (N2 underlying9 rfl rfl) rfl) rfl<|C0 (X1 rfl rfl) rfl<|Wa<|U0 rfl (fun c1 => ?_) (fun c1 => ?_)
 ·try simp only [DD] at c1
  refine Wi<|WL.e 1 rfl<|Wg<|ret1 rfl rfl ⟨?_, h⟩
  unfold textB
  rw [if_pos (by omega)]; rfl
 ·try simp only [DD] at c1
  refine Wk<|WL.e 1 rfl<|C0 (N0 (n := (l.length : Int)) (N2 underlying9 rfl rfl) rfl) rfl<|WL.cv can76 rfl rfl (wnum_c _ _ h) fun w2 h2 =>WL.e 1 rfl<|C0 (Y2 rfl rfl (by have := numB_len (l.length : Int); omega)) rfl<|WL.e 1 rfl<|Wg<|ret1 rfl rfl ⟨?_, h2⟩
  unfold textB
  rw [if_neg (by omega)]
theorem node_c {cs : List Res} (w : World) (n : Int) (h : St W F cs w) : Calls prog 119 #[Vi n] w fun r w' => r = .returned (.bool (decide (-1 ≤ n ∧ n < 16))) ∧ St W F cs w'  := by
 refine enter (args := [Vi n]) func119 rfl rfl rfl<|Wi<|WL.e 1 rfl<|WL.nil (H0 (L0 ?_))
 by_cases h0 : -1 ≤ n
 ·skip
  refine K0<|WL.e 1 rfl<|C0 (Bt (Z0 rfl rfl) (decide_eq_true h0)) rfl<|WL.e 2 rfl<|WL.gn rfl<|C0 (N1 rfl rfl) rfl<|WL.e 2 rfl<|Wg<|ret1 rfl rfl ⟨?_, h⟩
  rw [node_dec, decide_eq_true h0]; rfl
 ·skip
  refine K0<|WL.e 1 rfl<|C0 (Bf (Z0 rfl rfl) (decide_eq_false h0)) rfl<|WL.e 5 rfl<|Wg<|ret1 rfl rfl ⟨?_, h⟩
  rw [node_dec, decide_eq_false h0]; rfl
end Wir
open Wir (Vi mayN)
namespace Cr
theorem mixed : prog.follows .mixedOrders = true := by kernel_rfl
theorem inf3 : Inf prog 3 (.int .i64 0) 1 8 := by unfold Inf; kernel_rfl
theorem can182 : B.Can prog 182 := ⟨_, func182, by kernel_rfl, rfl⟩
theorem can183 : B.Can prog 183 := ⟨_, func183, by kernel_rfl, rfl⟩
theorem can184 : B.Can prog 184 := ⟨_, func184, by kernel_rfl, rfl⟩
structure C where
 jb : Int
 ep : Int
 st : Int
 fr : Int
 un : Int
 nd : List Int
 co : Int
def inB (n a b : Int) : Bool := decide (a ≤ n ∧ n ≤ b)
theorem in_dec (n a b : Int) : inB n a b = (decide (n ≥ a) && decide (n ≤ b)) := by
 unfold inB
 by_cases h1 : a ≤ n <;> by_cases h2 : n ≤ b <;> simp [h1, h2]
def epK (n : Int) : Prop := 0 ≤ n ∧ n ≤ 8
instance (n : Int) : Decidable (epK n) := inferInstanceAs (Decidable (_ ∧ _))
def coK (n : Int) : Prop := 1 ≤ n ∧ n ≤ 256
instance (n : Int) : Decidable (coK n) := inferInstanceAs (Decidable (_ ∧ _))
def lastOf (xs : List Int) (i : Nat) : Int := if i = 0 then -1 else xs.getD (i - 1) 0
def ndAt (xs : List Int) (i : Nat) : Prop := lastOf xs i < xs.getD i 0 ∧ xs.getD i 0 < 16
instance (xs : List Int) (i : Nat) : Decidable (ndAt xs i) := inferInstanceAs (Decidable (_ ∧ _))
def nodesOk (xs : List Int) : Prop := (∀ i, i < xs.length → ndAt xs i) ∧ 0 < xs.length
instance (xs : List Int) : Decidable (nodesOk xs) := inferInstanceAs (Decidable (_ ∧ _))
def okC (c : C) : Prop := mayN c.jb ∧ mayN c.st ∧ mayN c.fr ∧ mayN c.un ∧ epK c.ep ∧ coK c.co ∧ nodesOk c.nd
instance (c : C) : Decidable (okC c) := inferInstanceAs (Decidable (_ ∧ _ ∧ _ ∧ _ ∧ _ ∧ _ ∧ _))
def checkM (c : C) : Int := if okC c then 0 else 1
theorem ndCase (a b : Int) : b ≤ a ∨ (a < b ∧ 16 ≤ b) ∨ (a < b ∧ b < 16) := by omega
theorem first7 (P0 P1 P2 P3 P4 P5 P6 : Prop) : (¬ P0) ∨ (P0 ∧ ¬ P1) ∨ (P0 ∧ P1 ∧ ¬ P2) ∨ (P0 ∧ P1 ∧ P2 ∧ ¬ P3) ∨ (P0 ∧ P1 ∧ P2 ∧ P3 ∧ ¬ P4) ∨ (P0 ∧ P1 ∧ P2 ∧ P3 ∧ P4 ∧ ¬ P5) ∨ (P0 ∧ P1 ∧ P2 ∧ P3 ∧ P4 ∧ P5 ∧ ¬ P6) ∨ (P0 ∧ P1 ∧ P2 ∧ P3 ∧ P4 ∧ P5 ∧ P6) := by
 by_cases h0 : P0
 ·by_cases h1 : P1
  ·by_cases h2 : P2
   ·by_cases h3 : P3
    ·by_cases h4 : P4
     ·by_cases h5 : P5
      ·by_cases h6 : P6
       ·exact .inr (.inr (.inr (.inr (.inr (.inr (.inr (⟨h0, h1, h2, h3, h4, h5, h6⟩)))))))
       ·exact .inr (.inr (.inr (.inr (.inr (.inr (.inl ⟨h0, h1, h2, h3, h4, h5, h6⟩))))))
      ·exact .inr (.inr (.inr (.inr (.inr (.inl ⟨h0, h1, h2, h3, h4, h5⟩)))))
     ·exact .inr (.inr (.inr (.inr (.inl ⟨h0, h1, h2, h3, h4⟩))))
    ·exact .inr (.inr (.inr (.inl ⟨h0, h1, h2, h3⟩)))
   ·exact .inr (.inr (.inl ⟨h0, h1, h2⟩))
  ·exact .inr (.inl ⟨h0, h1⟩)
 ·exact .inl h0
theorem in_c {cs : List Res} (w : World) (n a b : Int) (h : St W F cs w) : Calls prog 183 #[Vi n, Vi a, Vi b] w fun r w' => r = .returned (.bool (inB n a b)) ∧ St W F cs w'  := by
 refine enter (args := [Vi n, Vi a, Vi b]) func183 rfl rfl rfl<|Wi<|WL.e 1 rfl<|WL.nil (H0 (L0 ?_))
 by_cases h0 : n ≥ a
 ·skip
  refine K0<|WL.e 2 rfl<|C0 (Bt (Z0 rfl rfl) (decide_eq_true h0)) rfl<|WL.e 3 rfl<|WL.gn rfl<|C0 (J1 rfl rfl) rfl<|WL.e 2 rfl<|Wg<|ret1 rfl rfl ⟨?_, h⟩
  rw [in_dec, decide_eq_true h0]; rfl
 ·skip
  refine K0<|WL.e 2 rfl<|C0 (Bf (Z0 rfl rfl) (decide_eq_false h0)) rfl<|WL.e 6 rfl<|Wg<|ret1 rfl rfl ⟨?_, h⟩
  rw [in_dec, decide_eq_false h0]; rfl
theorem check1_c {cs : List Res} (w : World) (n : Int) (h : St W F cs w) : Calls prog 182 #[Vi n] w fun r w' => r = .returned (.bool (decide (mayN n))) ∧ St W F cs w'  := by
 refine enter (args := [Vi n]) func182 rfl rfl rfl<|Wi<|WL.e 1 rfl<|We<|WL.e 1 rfl<|WL.cv can183 rfl rfl (in_c _ n 0 1099511627776 h) fun w1 h1 =>WL.e 1 rfl<|Wg<|ret1 rfl rfl ⟨rfl, h1⟩
theorem nodes_c {cs : List Res} (w : World) {A : Option Addr} {cap : Nat} {xs : List Int} (h : St W F cs w) (hR : RdS (Kd.one Vi) F A xs) (hn : xs.length ≤ 9223372036854775807) : Calls prog 184 #[.slice A xs.length cap] w fun r w' => r = .returned (.bool (decide (nodesOk xs))) ∧ St W F cs w'  := by
 refine enter (args := [.slice A xs.length cap]) func184 rfl rfl rfl<|Wi<|WL.e 1 rfl<|We<|WL.e 1 rfl<|Wh<|WL.e 1 rfl<|C0 (N0 (n := (xs.length : Int)) (R0 underlying33 rfl rfl) rfl) rfl<|WL.e 1 rfl<|Wj<|WC.lp (σ := Nat) (fun q_ => [(0, .slice A xs.length cap), (3, Vi (lastOf xs q_)), (6, .slice A xs.length cap), (7, .int .i64 (xs.length : Int)), (8, .int .i64 (q_ : Int))]) (fun q_ w => q_ ≤ xs.length ∧ (∀ j, j < q_ → ndAt xs j) ∧ St W F cs w) (fun q_ => xs.length - q_) (0) (⟨Nat.zero_le _, fun j hj => absurd hj (Nat.not_lt_zero _), h⟩) ?_
 rintro i w1 ⟨hi, hall, hL⟩
 try dsimp only at hi hall hL
 refine O2 [(0, .slice A xs.length cap), (3, Vi (lastOf xs i)), (6, .slice A xs.length cap), (7, .int .i64 (xs.length : Int)), (8, .int .i64 (i : Int))]<|Wi<|C0 (N1 rfl rfl) rfl<|Wb<|U0 rfl (fun c2 => ?_) (fun c2 => ?_)
 ·try simp only [DD] at c2
  refine O0 (H0 (L0 (WC.block (L0 ?_))))
  obtain ⟨ad, rfl, hrd⟩ := rd1 hR (by omega)
  have hi2 : i < xs.length := by omega
  refine K0<|C0 (C1 underlying33 inf3 rfl rfl (n := i) rfl (by omega)) rfl<|C0 (T1 (f := Vi) (0 : Int) hL hrd (n := i) (by omega) underlying3 rfl rfl) rfl<|WL.e 1 rfl<|WL.nil (H0 (L0 (L0 ?_)))
  rcases ndCase (lastOf xs i) (xs.getD i 0) with hx | ⟨hx, hy⟩ | ⟨hx, hy⟩
  ·skip
   refine K0<|WL.e 2 rfl<|C0 (Bt (J1 rfl rfl) (by rw [decide_eq_true_eq]; omega)) rfl<|WL.e 4 rfl<|Wa<|B1 rfl (rfl)<|Wi<|WL.e 1 rfl<|WL.nil (H0 (I1 ?_))
   have hz : ¬ nodesOk xs := fun hh => by
    have h9 := hh.1 i hi2
    unfold ndAt at h9
    omega
   refine ret1 rfl rfl ⟨?_, hL⟩
   rw [decide_eq_false hz]
  ·skip
   refine K0<|WL.e 2 rfl<|C0 (Bf (J1 rfl rfl) (by rw [decide_eq_false_iff_not]; omega)) rfl<|WL.e 2 rfl<|WL.gn rfl<|C0 (Bt (Z0 rfl rfl) (by rw [decide_eq_true_eq]; omega)) rfl<|WL.e 1 rfl<|Wa<|B1 rfl (rfl)<|Wi<|WL.e 1 rfl<|WL.nil (H0 (I1 ?_))
   have hz : ¬ nodesOk xs := fun hh => by
    have h9 := hh.1 i hi2
    unfold ndAt at h9
    omega
   refine ret1 rfl rfl ⟨?_, hL⟩
   rw [decide_eq_false hz]
  ·skip
   refine K0<|WL.e 2 rfl<|C0 (Bf (J1 rfl rfl) (by rw [decide_eq_false_iff_not]; omega)) rfl<|WL.e 2 rfl<|WL.gn rfl<|C0 (Bf (Z0 rfl rfl) (by rw [decide_eq_false_iff_not]; omega)) rfl<|WL.e 1 rfl<|Wa<|V0 rfl (rfl)<|O0<|H0<|K0<|WL.e 2 rfl<|WL.nil<|WN.blk<|H0<|K0<|C0 (Q0 rfl rfl (by omega)) rfl<|WL.e 1 rfl<|WL.nil<|X0 (i + 1) (by omega) ⟨rfl, rfl, rfl, rfl, rfl, trivial⟩ ⟨by omega, fun j hj => (by
    by_cases e : j = i
    ·subst e; exact ⟨hx, hy⟩
    ·exact hall j (by omega)), hL⟩
 ·try simp only [DD] at c2
  refine WC.exit<|Q1<|WX.cut<|S1<|H0<|Wi<|WL.e 1 rfl<|C0 (N0 (n := (xs.length : Int)) (R0 underlying33 rfl rfl) rfl) rfl<|C0 (X1 rfl rfl) rfl<|WL.e 1 rfl<|WL.nil (H0 (I1 ?_))
  have he : decide (nodesOk xs) = decide ((0 : Int) < (xs.length : Int)) := decide_eq_decide.2 ⟨fun hh => by have := hh.2; omega, fun hh => ⟨fun j hj => hall j (by omega), by omega⟩⟩
  refine ret1 rfl rfl ⟨?_, hL⟩
  rw [he]
theorem check_c {cs : List Res} (w : World) {A : Option Addr} {cap : Nat} {c : C} (h : St W F cs w) (hR : RdS (Kd.one Vi) F A c.nd) (hn : c.nd.length ≤ 9223372036854775807) : Calls prog 175 #[.agg #[Vi c.jb, Vi c.ep, Vi c.st, Vi c.fr, Vi c.un, .slice A c.nd.length cap, Vi c.co]] w fun r w' => r = .returned (Vi (checkM c)) ∧ St W F cs w'  := by
 refine enter (args := [.agg #[Vi c.jb, Vi c.ep, Vi c.st, Vi c.fr, Vi c.un, .slice A c.nd.length cap, Vi c.co]]) func175 rfl rfl rfl<|Wi<|WL.box rfl h rfl fun b1 w1 h1=>WL.e 1 rfl<|We<|WL.e 1 rfl<|WL.nil (H0 (L0 (L0 ?_)))
 rcases first7 (mayN c.jb) (mayN c.st) (mayN c.fr) (mayN c.un) (epK c.ep) (coK c.co) (nodesOk c.nd) with q0 | ⟨q0, q1⟩ | ⟨q0, q1, q2⟩ | ⟨q0, q1, q2, q3⟩ | ⟨q0, q1, q2, q3, q4⟩ | ⟨q0, q1, q2, q3, q4, q5⟩ | ⟨q0, q1, q2, q3, q4, q5, q6⟩ | ⟨q0, q1, q2, q3, q4, q5, q6⟩
 ·skip
  refine K0<|W0 h1 [0] 3 rfl<|L2 can182 rfl rfl rfl (check1_c _ c.jb h1) ?_
  rintro _ w2 ⟨rfl, h2⟩
  refine ⟨_, rfl,C0 (Bt (E1 rfl) (by rw [decide_eq_false q0]; rfl)) rfl<|WL.e 39 rfl<|Wa<|B1 rfl (rfl)<|Wi<|WL.e 1 rfl<|Wg<|ret1 rfl rfl ⟨?_, h2.drop 0⟩⟩
  rw [show checkM c = 1 from if_neg (fun hh => q0 hh.1)]
 ·skip
  refine K0<|W0 h1 [0] 3 rfl<|L2 can182 rfl rfl rfl (check1_c _ c.jb h1) ?_
  rintro _ w3 ⟨rfl, h3⟩
  refine ⟨_, rfl,C0 (Bf (E1 rfl) (by rw [decide_eq_true q0]; rfl)) rfl<|W0 h3 [0] 4 rfl<|WL.gn rfl<|L2 can182 rfl rfl rfl (check1_c _ c.st h3) ?_⟩
  rintro _ w4 ⟨rfl, h4⟩
  refine ⟨_, rfl,WL.gn rfl<|C0 (Bt (E1 rfl) (by rw [decide_eq_false q1]; rfl)) rfl<|WL.e 33 rfl<|Wa<|B1 rfl (rfl)<|Wi<|WL.e 1 rfl<|Wg<|ret1 rfl rfl ⟨?_, h4.drop 0⟩⟩
  rw [show checkM c = 1 from if_neg (fun hh => q1 hh.2.1)]
 ·skip
  refine K0<|W0 h1 [0] 3 rfl<|L2 can182 rfl rfl rfl (check1_c _ c.jb h1) ?_
  rintro _ w5 ⟨rfl, h5⟩
  refine ⟨_, rfl,C0 (Bf (E1 rfl) (by rw [decide_eq_true q0]; rfl)) rfl<|W0 h5 [0] 4 rfl<|WL.gn rfl<|L2 can182 rfl rfl rfl (check1_c _ c.st h5) ?_⟩
  rintro _ w6 ⟨rfl, h6⟩
  refine ⟨_, rfl,WL.gn rfl<|C0 (Bf (E1 rfl) (by rw [decide_eq_true q1]; rfl)) rfl<|W0 h6 [0] 5 rfl<|WL.gn rfl<|L2 can182 rfl rfl rfl (check1_c _ c.fr h6) ?_⟩
  rintro _ w7 ⟨rfl, h7⟩
  refine ⟨_, rfl,WL.gn rfl<|C0 (Bt (E1 rfl) (by rw [decide_eq_false q2]; rfl)) rfl<|WL.e 26 rfl<|Wa<|B1 rfl (rfl)<|Wi<|WL.e 1 rfl<|Wg<|ret1 rfl rfl ⟨?_, h7.drop 0⟩⟩
  rw [show checkM c = 1 from if_neg (fun hh => q2 hh.2.2.1)]
 ·skip
  refine K0<|W0 h1 [0] 3 rfl<|L2 can182 rfl rfl rfl (check1_c _ c.jb h1) ?_
  rintro _ w8 ⟨rfl, h8⟩
  refine ⟨_, rfl,C0 (Bf (E1 rfl) (by rw [decide_eq_true q0]; rfl)) rfl<|W0 h8 [0] 4 rfl<|WL.gn rfl<|L2 can182 rfl rfl rfl (check1_c _ c.st h8) ?_⟩
  rintro _ w9 ⟨rfl, h9⟩
  refine ⟨_, rfl,WL.gn rfl<|C0 (Bf (E1 rfl) (by rw [decide_eq_true q1]; rfl)) rfl<|W0 h9 [0] 5 rfl<|WL.gn rfl<|L2 can182 rfl rfl rfl (check1_c _ c.fr h9) ?_⟩
  rintro _ w10 ⟨rfl, h10⟩
  refine ⟨_, rfl,WL.gn rfl<|C0 (Bf (E1 rfl) (by rw [decide_eq_true q2]; rfl)) rfl<|W0 h10 [0] 5 rfl<|WL.gn rfl<|L2 can182 rfl rfl rfl (check1_c _ c.un h10) ?_⟩
  rintro _ w11 ⟨rfl, h11⟩
  refine ⟨_, rfl,WL.gn rfl<|C0 (Bt (E1 rfl) (by rw [decide_eq_false q3]; rfl)) rfl<|WL.e 19 rfl<|Wa<|B1 rfl (rfl)<|Wi<|WL.e 1 rfl<|Wg<|ret1 rfl rfl ⟨?_, h11.drop 0⟩⟩
  rw [show checkM c = 1 from if_neg (fun hh => q3 hh.2.2.2.1)]
 ·skip
  refine K0<|W0 h1 [0] 3 rfl<|L2 can182 rfl rfl rfl (check1_c _ c.jb h1) ?_
  rintro _ w12 ⟨rfl, h12⟩
  refine ⟨_, rfl,C0 (Bf (E1 rfl) (by rw [decide_eq_true q0]; rfl)) rfl<|W0 h12 [0] 4 rfl<|WL.gn rfl<|L2 can182 rfl rfl rfl (check1_c _ c.st h12) ?_⟩
  rintro _ w13 ⟨rfl, h13⟩
  refine ⟨_, rfl,WL.gn rfl<|C0 (Bf (E1 rfl) (by rw [decide_eq_true q1]; rfl)) rfl<|W0 h13 [0] 5 rfl<|WL.gn rfl<|L2 can182 rfl rfl rfl (check1_c _ c.fr h13) ?_⟩
  rintro _ w14 ⟨rfl, h14⟩
  refine ⟨_, rfl,WL.gn rfl<|C0 (Bf (E1 rfl) (by rw [decide_eq_true q2]; rfl)) rfl<|W0 h14 [0] 5 rfl<|WL.gn rfl<|L2 can182 rfl rfl rfl (check1_c _ c.un h14) ?_⟩
  rintro _ w15 ⟨rfl, h15⟩
  refine ⟨_, rfl,WL.gn rfl<|C0 (Bf (E1 rfl) (by rw [decide_eq_true q3]; rfl)) rfl<|W0 h15 [0] 4 rfl<|WL.gn rfl<|WL.cv can183 rfl rfl ((show Calls _ _ _ _ (fun r w' => r = .returned (.bool (decide (epK c.ep))) ∧ St W F _ w') from in_c _ c.ep 0 8 h15)) fun w16 h16 =>WL.gn rfl<|C0 (Bt (E1 rfl) (by rw [decide_eq_false q4]; rfl)) rfl<|WL.e 13 rfl<|Wa<|B1 rfl (rfl)<|Wi<|WL.e 1 rfl<|Wg<|ret1 rfl rfl ⟨?_, h16.drop 0⟩⟩
  rw [show checkM c = 1 from if_neg (fun hh => q4 hh.2.2.2.2.1)]
 ·skip
  refine K0<|W0 h1 [0] 3 rfl<|L2 can182 rfl rfl rfl (check1_c _ c.jb h1) ?_
  rintro _ w17 ⟨rfl, h17⟩
  refine ⟨_, rfl,C0 (Bf (E1 rfl) (by rw [decide_eq_true q0]; rfl)) rfl<|W0 h17 [0] 4 rfl<|WL.gn rfl<|L2 can182 rfl rfl rfl (check1_c _ c.st h17) ?_⟩
  rintro _ w18 ⟨rfl, h18⟩
  refine ⟨_, rfl,WL.gn rfl<|C0 (Bf (E1 rfl) (by rw [decide_eq_true q1]; rfl)) rfl<|W0 h18 [0] 5 rfl<|WL.gn rfl<|L2 can182 rfl rfl rfl (check1_c _ c.fr h18) ?_⟩
  rintro _ w19 ⟨rfl, h19⟩
  refine ⟨_, rfl,WL.gn rfl<|C0 (Bf (E1 rfl) (by rw [decide_eq_true q2]; rfl)) rfl<|W0 h19 [0] 5 rfl<|WL.gn rfl<|L2 can182 rfl rfl rfl (check1_c _ c.un h19) ?_⟩
  rintro _ w20 ⟨rfl, h20⟩
  refine ⟨_, rfl,WL.gn rfl<|C0 (Bf (E1 rfl) (by rw [decide_eq_true q3]; rfl)) rfl<|W0 h20 [0] 4 rfl<|WL.gn rfl<|WL.cv can183 rfl rfl ((show Calls _ _ _ _ (fun r w' => r = .returned (.bool (decide (epK c.ep))) ∧ St W F _ w') from in_c _ c.ep 0 8 h20)) fun w21 h21 =>WL.gn rfl<|C0 (Bf (E1 rfl) (by rw [decide_eq_true q4]; rfl)) rfl<|W0 h21 [0] 4 rfl<|WL.gn rfl<|WL.cv can183 rfl rfl ((show Calls _ _ _ _ (fun r w' => r = .returned (.bool (decide (coK c.co))) ∧ St W F _ w') from in_c _ c.co 1 256 h21)) fun w22 h22 =>WL.gn rfl<|C0 (Bt (E1 rfl) (by rw [decide_eq_false q5]; rfl)) rfl<|WL.e 7 rfl<|Wa<|B1 rfl (rfl)<|Wi<|WL.e 1 rfl<|Wg<|ret1 rfl rfl ⟨?_, h22.drop 0⟩⟩
  rw [show checkM c = 1 from if_neg (fun hh => q5 hh.2.2.2.2.2.1)]
 ·skip
  refine K0<|W0 h1 [0] 3 rfl<|L2 can182 rfl rfl rfl (check1_c _ c.jb h1) ?_
  rintro _ w23 ⟨rfl, h23⟩
  refine ⟨_, rfl,C0 (Bf (E1 rfl) (by rw [decide_eq_true q0]; rfl)) rfl<|W0 h23 [0] 4 rfl<|WL.gn rfl<|L2 can182 rfl rfl rfl (check1_c _ c.st h23) ?_⟩
  rintro _ w24 ⟨rfl, h24⟩
  refine ⟨_, rfl,WL.gn rfl<|C0 (Bf (E1 rfl) (by rw [decide_eq_true q1]; rfl)) rfl<|W0 h24 [0] 5 rfl<|WL.gn rfl<|L2 can182 rfl rfl rfl (check1_c _ c.fr h24) ?_⟩
  rintro _ w25 ⟨rfl, h25⟩
  refine ⟨_, rfl,WL.gn rfl<|C0 (Bf (E1 rfl) (by rw [decide_eq_true q2]; rfl)) rfl<|W0 h25 [0] 5 rfl<|WL.gn rfl<|L2 can182 rfl rfl rfl (check1_c _ c.un h25) ?_⟩
  rintro _ w26 ⟨rfl, h26⟩
  refine ⟨_, rfl,WL.gn rfl<|C0 (Bf (E1 rfl) (by rw [decide_eq_true q3]; rfl)) rfl<|W0 h26 [0] 4 rfl<|WL.gn rfl<|WL.cv can183 rfl rfl ((show Calls _ _ _ _ (fun r w' => r = .returned (.bool (decide (epK c.ep))) ∧ St W F _ w') from in_c _ c.ep 0 8 h26)) fun w27 h27 =>WL.gn rfl<|C0 (Bf (E1 rfl) (by rw [decide_eq_true q4]; rfl)) rfl<|W0 h27 [0] 4 rfl<|WL.gn rfl<|WL.cv can183 rfl rfl ((show Calls _ _ _ _ (fun r w' => r = .returned (.bool (decide (coK c.co))) ∧ St W F _ w') from in_c _ c.co 1 256 h27)) fun w28 h28 =>WL.gn rfl<|C0 (Bf (E1 rfl) (by rw [decide_eq_true q5]; rfl)) rfl<|W0 h28 [0] 4 rfl<|WL.gn rfl<|WL.cv can184 rfl rfl (nodes_c _ h28 hR hn) fun w29 h29 =>WL.gn rfl<|C0 (Bt (E1 rfl) (by rw [decide_eq_false q6]; rfl)) rfl<|WL.e 1 rfl<|Wa<|B1 rfl (rfl)<|Wi<|WL.e 1 rfl<|Wg<|ret1 rfl rfl ⟨?_, h29.drop 0⟩⟩
  rw [show checkM c = 1 from if_neg (fun hh => q6 hh.2.2.2.2.2.2)]
 ·skip
  refine K0<|W0 h1 [0] 3 rfl<|L2 can182 rfl rfl rfl (check1_c _ c.jb h1) ?_
  rintro _ w30 ⟨rfl, h30⟩
  refine ⟨_, rfl,C0 (Bf (E1 rfl) (by rw [decide_eq_true q0]; rfl)) rfl<|W0 h30 [0] 4 rfl<|WL.gn rfl<|L2 can182 rfl rfl rfl (check1_c _ c.st h30) ?_⟩
  rintro _ w31 ⟨rfl, h31⟩
  refine ⟨_, rfl,WL.gn rfl<|C0 (Bf (E1 rfl) (by rw [decide_eq_true q1]; rfl)) rfl<|W0 h31 [0] 5 rfl<|WL.gn rfl<|L2 can182 rfl rfl rfl (check1_c _ c.fr h31) ?_⟩
  rintro _ w32 ⟨rfl, h32⟩
  refine ⟨_, rfl,WL.gn rfl<|C0 (Bf (E1 rfl) (by rw [decide_eq_true q2]; rfl)) rfl<|W0 h32 [0] 5 rfl<|WL.gn rfl<|L2 can182 rfl rfl rfl (check1_c _ c.un h32) ?_⟩
  rintro _ w33 ⟨rfl, h33⟩
  refine ⟨_, rfl,WL.gn rfl<|C0 (Bf (E1 rfl) (by rw [decide_eq_true q3]; rfl)) rfl<|W0 h33 [0] 4 rfl<|WL.gn rfl<|WL.cv can183 rfl rfl ((show Calls _ _ _ _ (fun r w' => r = .returned (.bool (decide (epK c.ep))) ∧ St W F _ w') from in_c _ c.ep 0 8 h33)) fun w34 h34 =>WL.gn rfl<|C0 (Bf (E1 rfl) (by rw [decide_eq_true q4]; rfl)) rfl<|W0 h34 [0] 4 rfl<|WL.gn rfl<|WL.cv can183 rfl rfl ((show Calls _ _ _ _ (fun r w' => r = .returned (.bool (decide (coK c.co))) ∧ St W F _ w') from in_c _ c.co 1 256 h34)) fun w35 h35 =>WL.gn rfl<|C0 (Bf (E1 rfl) (by rw [decide_eq_true q5]; rfl)) rfl<|W0 h35 [0] 4 rfl<|WL.gn rfl<|WL.cv can184 rfl rfl (nodes_c _ h35 hR hn) fun w36 h36 =>WL.gn rfl<|C0 (Bf (E1 rfl) (by rw [decide_eq_true q6]; rfl)) rfl<|WL.e 1 rfl<|Wa<|V0 rfl (rfl)<|Wk<|WL.e 1 rfl<|Wg<|ret1 rfl rfl ⟨?_, h36.drop 0⟩⟩
  rw [show checkM c = 0 from if_pos ⟨q0, q1, q2, q3, q4, q5, q6⟩]
end Cr
namespace Wir
theorem inf119 : Inf prog 119 (.pointer none) 1 8 := by unfold Inf; kernel_rfl
theorem inf120 : Inf prog 120 (.slice none 0 0) 1 24 := by unfold Inf; kernel_rfl
theorem inf122 : Inf prog 122 (.agg #[.pointer none, .slice none 0 0]) 2 32 := by unfold Inf; kernel_rfl
theorem fld42_0 : fldB prog 42 0 0 = true := by kernel_rfl
theorem fld42_1 : fldB prog 42 1 1 = true := by kernel_rfl
theorem fld42_2 : fldB prog 42 2 2 = true := by kernel_rfl
theorem fld42_3 : fldB prog 42 3 3 = true := by kernel_rfl
theorem fld42_4 : fldB prog 42 4 4 = true := by kernel_rfl
theorem fld42_5 : fldB prog 42 5 5 = true := by kernel_rfl
theorem fld42_6 : fldB prog 42 6 6 = true := by kernel_rfl
theorem can119 : B.Can prog 119 := ⟨_, func119, by kernel_rfl, rfl⟩
theorem can121 : B.Can prog 121 := ⟨_, func121, by kernel_rfl, rfl⟩
theorem conj9 (P0 P1 P2 P3 P4 P5 P6 P7 P8 : Prop) : (¬ P0) ∨ (P0 ∧ ¬ P1) ∨ (P0 ∧ P1 ∧ ¬ P2) ∨ (P0 ∧ P1 ∧ P2 ∧ ¬ P3) ∨ (P0 ∧ P1 ∧ P2 ∧ P3 ∧ ¬ P4) ∨ (P0 ∧ P1 ∧ P2 ∧ P3 ∧ P4 ∧ ¬ P5) ∨ (P0 ∧ P1 ∧ P2 ∧ P3 ∧ P4 ∧ P5 ∧ ¬ P6) ∨ (P0 ∧ P1 ∧ P2 ∧ P3 ∧ P4 ∧ P5 ∧ P6 ∧ ¬ P7) ∨ (P0 ∧ P1 ∧ P2 ∧ P3 ∧ P4 ∧ P5 ∧ P6 ∧ P7 ∧ ¬ P8) ∨ (P0 ∧ P1 ∧ P2 ∧ P3 ∧ P4 ∧ P5 ∧ P6 ∧ P7 ∧ P8) := by
 by_cases h0 : P0
 rotate_left
 ·exact .inl h0
 by_cases h1 : P1
 rotate_left
 ·exact .inr (.inl ⟨h0, h1⟩)
 by_cases h2 : P2
 rotate_left
 ·exact .inr (.inr (.inl ⟨h0, h1, h2⟩))
 by_cases h3 : P3
 rotate_left
 ·exact .inr (.inr (.inr (.inl ⟨h0, h1, h2, h3⟩)))
 by_cases h4 : P4
 rotate_left
 ·exact .inr (.inr (.inr (.inr (.inl ⟨h0, h1, h2, h3, h4⟩))))
 by_cases h5 : P5
 rotate_left
 ·exact .inr (.inr (.inr (.inr (.inr (.inl ⟨h0, h1, h2, h3, h4, h5⟩)))))
 by_cases h6 : P6
 rotate_left
 ·exact .inr (.inr (.inr (.inr (.inr (.inr (.inl ⟨h0, h1, h2, h3, h4, h5, h6⟩))))))
 by_cases h7 : P7
 rotate_left
 ·exact .inr (.inr (.inr (.inr (.inr (.inr (.inr (.inl ⟨h0, h1, h2, h3, h4, h5, h6, h7⟩)))))))
 by_cases h8 : P8
 rotate_left
 ·exact .inr (.inr (.inr (.inr (.inr (.inr (.inr (.inr (.inl ⟨h0, h1, h2, h3, h4, h5, h6, h7, h8⟩))))))))
 exact .inr (.inr (.inr (.inr (.inr (.inr (.inr (.inr (.inr ⟨h0, h1, h2, h3, h4, h5, h6, h7, h8⟩))))))))
structure M where
 k : Int
 f : Int
 t : Int
 j : Int
 ep : Int
 st : Int
 ar : Int
 tx : List UInt8
def M.val (m : M) : Value := .agg #[Vi m.k, Vi m.f, Vi m.t, Vi m.j, Vi m.ep, Vi m.st, Vi m.ar, .string (bs m.tx)]
def mayM (m : M) : Prop := 0 ≤ m.k ∧ m.k < 10 ∧ (-1 ≤ m.f ∧ m.f < 16) ∧ (-1 ≤ m.t ∧ m.t < 16) ∧ mayN m.j ∧ mayN m.ep ∧ mayN m.st ∧ mayN m.ar ∧ (m.tx.length : Int) ≤ 4096
instance (m : M) : Decidable (mayM m) := inferInstanceAs (Decidable (_ ∧ _))
theorem node_y {cs : List Res} (w : World) (n : Int) (h : St W F cs w) (hn : -1 ≤ n ∧ n < 16) : Calls prog 119 #[Vi n] w fun r w' => r = .returned (.bool true) ∧ St W F cs w' := (node_c w n h).mono fun r w' ⟨h1, h2⟩ => ⟨by rw [h1, decide_eq_true hn], h2⟩
theorem node_n {cs : List Res} (w : World) (n : Int) (h : St W F cs w) (hn : ¬ (-1 ≤ n ∧ n < 16)) : Calls prog 119 #[Vi n] w fun r w' => r = .returned (.bool false) ∧ St W F cs w' := (node_c w n h).mono fun r w' ⟨h1, h2⟩ => ⟨by rw [h1, decide_eq_false hn], h2⟩
theorem message_c {cs : List Res} (w : World) (m : M) (h : St W F cs w) : Calls prog 74 #[m.val] w fun r w' => r = .returned (.bool (decide (mayM m))) ∧ St W F cs w'  := by
 refine enter (args := [.agg #[Vi m.k, Vi m.f, Vi m.t, Vi m.j, Vi m.ep, Vi m.st, Vi m.ar, .string (bs m.tx)]]) func74 rfl rfl rfl<|Wi<|WL.box rfl h rfl fun b1 w1 h1=>WL.e 1 rfl<|WL.nil (H0 (L0 ?_))
 rcases conj9 (0 ≤ m.k) (m.k < 10) ((-1 ≤ m.f ∧ m.f < 16)) ((-1 ≤ m.t ∧ m.t < 16)) (mayN m.j) (mayN m.ep) (mayN m.st) (mayN m.ar) ((m.tx.length : Int) ≤ 4096) with q0 | ⟨q0, q1⟩ | ⟨q0, q1, q2⟩ | ⟨q0, q1, q2, q3⟩ | ⟨q0, q1, q2, q3, q4⟩ | ⟨q0, q1, q2, q3, q4, q5⟩ | ⟨q0, q1, q2, q3, q4, q5, q6⟩ | ⟨q0, q1, q2, q3, q4, q5, q6, q7⟩ | ⟨q0, q1, q2, q3, q4, q5, q6, q7, q8⟩ | ⟨q0, q1, q2, q3, q4, q5, q6, q7, q8⟩
 ·skip
  refine K0<|W0 h1 [0] 2 rfl<|C0 (Bf (Z0 rfl rfl) (decide_eq_false q0)) rfl<|WL.e 42 rfl<|Wg<|ret1 rfl rfl ⟨?_, h1.drop 0⟩
  rw [decide_eq_false (show ¬ mayM m from fun hh => q0 hh.1)]; rfl
 ·skip
  refine K0<|W0 h1 [0] 2 rfl<|C0 (Bt (Z0 rfl rfl) (decide_eq_true q0)) rfl<|W0 h1 [0] 3 rfl<|WL.gn rfl<|C0 (Bf (N1 rfl rfl) (decide_eq_false q1)) rfl<|WL.e 38 rfl<|Wg<|ret1 rfl rfl ⟨?_, h1.drop 0⟩
  rw [decide_eq_false (show ¬ mayM m from fun hh => q1 hh.2.1)]; rfl
 ·skip
  refine K0<|W0 h1 [0] 2 rfl<|C0 (Bt (Z0 rfl rfl) (decide_eq_true q0)) rfl<|W0 h1 [0] 3 rfl<|WL.gn rfl<|C0 (Bt (N1 rfl rfl) (decide_eq_true q1)) rfl<|W0 h1 [0] 4 rfl<|WL.gn rfl<|WL.cv can119 rfl rfl (node_n _ _ h1 q2) fun w2 h2 =>WL.e 33 rfl<|Wg<|ret1 rfl rfl ⟨?_, h2.drop 0⟩
  rw [decide_eq_false (show ¬ mayM m from fun hh => q2 hh.2.2.1)]; rfl
 ·skip
  refine K0<|W0 h1 [0] 2 rfl<|C0 (Bt (Z0 rfl rfl) (decide_eq_true q0)) rfl<|W0 h1 [0] 3 rfl<|WL.gn rfl<|C0 (Bt (N1 rfl rfl) (decide_eq_true q1)) rfl<|W0 h1 [0] 4 rfl<|WL.gn rfl<|WL.cv can119 rfl rfl (node_y _ _ h1 q2) fun w3 h3 =>W0 h3 [0] 4 rfl<|WL.gn rfl<|WL.cv can119 rfl rfl (node_n _ _ h3 q3) fun w4 h4 =>WL.e 28 rfl<|Wg<|ret1 rfl rfl ⟨?_, h4.drop 0⟩
  rw [decide_eq_false (show ¬ mayM m from fun hh => q3 hh.2.2.2.1)]; rfl
 ·skip
  refine K0<|W0 h1 [0] 2 rfl<|C0 (Bt (Z0 rfl rfl) (decide_eq_true q0)) rfl<|W0 h1 [0] 3 rfl<|WL.gn rfl<|C0 (Bt (N1 rfl rfl) (decide_eq_true q1)) rfl<|W0 h1 [0] 4 rfl<|WL.gn rfl<|WL.cv can119 rfl rfl (node_y _ _ h1 q2) fun w5 h5 =>W0 h5 [0] 4 rfl<|WL.gn rfl<|WL.cv can119 rfl rfl (node_y _ _ h5 q3) fun w6 h6 =>W0 h6 [0] 4 rfl<|WL.gn rfl<|WL.cv can120 rfl rfl (may_n _ _ h6 q4) fun w7 h7 =>WL.e 23 rfl<|Wg<|ret1 rfl rfl ⟨?_, h7.drop 0⟩
  rw [decide_eq_false (show ¬ mayM m from fun hh => q4 hh.2.2.2.2.1)]; rfl
 ·skip
  refine K0<|W0 h1 [0] 2 rfl<|C0 (Bt (Z0 rfl rfl) (decide_eq_true q0)) rfl<|W0 h1 [0] 3 rfl<|WL.gn rfl<|C0 (Bt (N1 rfl rfl) (decide_eq_true q1)) rfl<|W0 h1 [0] 4 rfl<|WL.gn rfl<|WL.cv can119 rfl rfl (node_y _ _ h1 q2) fun w8 h8 =>W0 h8 [0] 4 rfl<|WL.gn rfl<|WL.cv can119 rfl rfl (node_y _ _ h8 q3) fun w9 h9 =>W0 h9 [0] 4 rfl<|WL.gn rfl<|WL.cv can120 rfl rfl (may_y _ _ h9 q4) fun w10 h10 =>W0 h10 [0] 4 rfl<|WL.gn rfl<|WL.cv can120 rfl rfl (may_n _ _ h10 q5) fun w11 h11 =>WL.e 18 rfl<|Wg<|ret1 rfl rfl ⟨?_, h11.drop 0⟩
  rw [decide_eq_false (show ¬ mayM m from fun hh => q5 hh.2.2.2.2.2.1)]; rfl
 ·skip
  refine K0<|W0 h1 [0] 2 rfl<|C0 (Bt (Z0 rfl rfl) (decide_eq_true q0)) rfl<|W0 h1 [0] 3 rfl<|WL.gn rfl<|C0 (Bt (N1 rfl rfl) (decide_eq_true q1)) rfl<|W0 h1 [0] 4 rfl<|WL.gn rfl<|WL.cv can119 rfl rfl (node_y _ _ h1 q2) fun w12 h12 =>W0 h12 [0] 4 rfl<|WL.gn rfl<|WL.cv can119 rfl rfl (node_y _ _ h12 q3) fun w13 h13 =>W0 h13 [0] 4 rfl<|WL.gn rfl<|WL.cv can120 rfl rfl (may_y _ _ h13 q4) fun w14 h14 =>W0 h14 [0] 4 rfl<|WL.gn rfl<|WL.cv can120 rfl rfl (may_y _ _ h14 q5) fun w15 h15 =>W0 h15 [0] 4 rfl<|WL.gn rfl<|WL.cv can120 rfl rfl (may_n _ _ h15 q6) fun w16 h16 =>WL.e 13 rfl<|Wg<|ret1 rfl rfl ⟨?_, h16.drop 0⟩
  rw [decide_eq_false (show ¬ mayM m from fun hh => q6 hh.2.2.2.2.2.2.1)]; rfl
 ·skip
  refine K0<|W0 h1 [0] 2 rfl<|C0 (Bt (Z0 rfl rfl) (decide_eq_true q0)) rfl<|W0 h1 [0] 3 rfl<|WL.gn rfl<|C0 (Bt (N1 rfl rfl) (decide_eq_true q1)) rfl<|W0 h1 [0] 4 rfl<|WL.gn rfl<|WL.cv can119 rfl rfl (node_y _ _ h1 q2) fun w17 h17 =>W0 h17 [0] 4 rfl<|WL.gn rfl<|WL.cv can119 rfl rfl (node_y _ _ h17 q3) fun w18 h18 =>W0 h18 [0] 4 rfl<|WL.gn rfl<|WL.cv can120 rfl rfl (may_y _ _ h18 q4) fun w19 h19 =>W0 h19 [0] 4 rfl<|WL.gn rfl<|WL.cv can120 rfl rfl (may_y _ _ h19 q5) fun w20 h20 =>W0 h20 [0] 4 rfl<|WL.gn rfl<|WL.cv can120 rfl rfl (may_y _ _ h20 q6) fun w21 h21 =>W0 h21 [0] 4 rfl<|WL.gn rfl<|WL.cv can120 rfl rfl (may_n _ _ h21 q7) fun w22 h22 =>WL.e 8 rfl<|Wg<|ret1 rfl rfl ⟨?_, h22.drop 0⟩
  rw [decide_eq_false (show ¬ mayM m from fun hh => q7 hh.2.2.2.2.2.2.2.1)]; rfl
 ·skip
  refine K0<|W0 h1 [0] 2 rfl<|C0 (Bt (Z0 rfl rfl) (decide_eq_true q0)) rfl<|W0 h1 [0] 3 rfl<|WL.gn rfl<|C0 (Bt (N1 rfl rfl) (decide_eq_true q1)) rfl<|W0 h1 [0] 4 rfl<|WL.gn rfl<|WL.cv can119 rfl rfl (node_y _ _ h1 q2) fun w23 h23 =>W0 h23 [0] 4 rfl<|WL.gn rfl<|WL.cv can119 rfl rfl (node_y _ _ h23 q3) fun w24 h24 =>W0 h24 [0] 4 rfl<|WL.gn rfl<|WL.cv can120 rfl rfl (may_y _ _ h24 q4) fun w25 h25 =>W0 h25 [0] 4 rfl<|WL.gn rfl<|WL.cv can120 rfl rfl (may_y _ _ h25 q5) fun w26 h26 =>W0 h26 [0] 4 rfl<|WL.gn rfl<|WL.cv can120 rfl rfl (may_y _ _ h26 q6) fun w27 h27 =>W0 h27 [0] 4 rfl<|WL.gn rfl<|WL.cv can120 rfl rfl (may_y _ _ h27 q7) fun w28 h28 =>W0 h28 [0] 4 rfl<|WL.gn rfl<|C0 (N0 (n := (m.tx.length : Int)) (N2 underlying9 rfl rfl) rfl) rfl<|WL.gn rfl<|C0 (Bf (J1 rfl rfl) (decide_eq_false q8)) rfl<|WL.e 2 rfl<|Wg<|ret1 rfl rfl ⟨?_, h28.drop 0⟩
  rw [decide_eq_false (show ¬ mayM m from fun hh => q8 hh.2.2.2.2.2.2.2.2)]; rfl
 ·skip
  refine K0<|W0 h1 [0] 2 rfl<|C0 (Bt (Z0 rfl rfl) (decide_eq_true q0)) rfl<|W0 h1 [0] 3 rfl<|WL.gn rfl<|C0 (Bt (N1 rfl rfl) (decide_eq_true q1)) rfl<|W0 h1 [0] 4 rfl<|WL.gn rfl<|WL.cv can119 rfl rfl (node_y _ _ h1 q2) fun w29 h29 =>W0 h29 [0] 4 rfl<|WL.gn rfl<|WL.cv can119 rfl rfl (node_y _ _ h29 q3) fun w30 h30 =>W0 h30 [0] 4 rfl<|WL.gn rfl<|WL.cv can120 rfl rfl (may_y _ _ h30 q4) fun w31 h31 =>W0 h31 [0] 4 rfl<|WL.gn rfl<|WL.cv can120 rfl rfl (may_y _ _ h31 q5) fun w32 h32 =>W0 h32 [0] 4 rfl<|WL.gn rfl<|WL.cv can120 rfl rfl (may_y _ _ h32 q6) fun w33 h33 =>W0 h33 [0] 4 rfl<|WL.gn rfl<|WL.cv can120 rfl rfl (may_y _ _ h33 q7) fun w34 h34 =>W0 h34 [0] 4 rfl<|WL.gn rfl<|C0 (N0 (n := (m.tx.length : Int)) (N2 underlying9 rfl rfl) rfl) rfl<|WL.gn rfl<|C0 (Bt (J1 rfl rfl) (decide_eq_true q8)) rfl<|WL.e 2 rfl<|Wg<|ret1 rfl rfl ⟨?_, h34.drop 0⟩
  rw [decide_eq_true (show mayM m from ⟨q0, q1, q2, q3, q4, q5, q6, q7, q8⟩)]; rfl
theorem cc_c {cs : List Res} (w : World) {bb : Nat} {pp v : Value} (h : St W F ([(bb, .cells #[pp, v] 122 (0, 0))] :: cs) w) (hpp : pp = .pointer none) : Calls prog 121 #[.pointer (some ⟨bb, 0, none⟩)] w fun r w' => r = .returned (.tuple #[]) ∧ St W F ([(bb, .cells #[.pointer (some ⟨bb, 0, none⟩), v] 122 (0, 0))] :: cs) w'  := by
 refine enter (args := [.pointer (some ⟨bb, 0, none⟩)]) func121 rfl rfl rfl ?_
 subst hpp
 refine Wi<|W0 h [0] 4 rfl<|C0 (V1 underlying119 rfl rfl) rfl<|Wa<|B1 rfl (rfl)<|K0<|WL.e 2 rfl<|C0 (Runs.toUnsafe h (i := 0) rfl underlying119 underlying188 inf122 rfl (by show 0 < 2; decide) rfl) rfl<|C0 (Runs.same func153 (by kernel_rfl) (by kernel_rfl) (by kernel_rfl) (by kernel_rfl) rfl) rfl<|C0 (Runs.fromUnsafe h (i := 0) rfl underlying188 underlying119 inf122 (cells := 2) rfl (by kernel_rfl) rfl) rfl<|WL.e 2 rfl<|F1 h 0 rfl rfl rfl inf119 rfl rfl (Free.zero _) (Nat.le_of_ble_eq_true rfl) ?_
 intro  w1 h1
 try simp only [ZZ] at h1
 refine WL.nil<|end0 rfl ⟨rfl, h1⟩
theorem cc_s {cs : List Res} (w : World) {bb : Nat} {pp v : Value} (h : St W F ([(bb, .cells #[pp, v] 122 (0, 0))] :: cs) w) (hpp : pp = .pointer (some ⟨bb, 0, none⟩)) : Calls prog 121 #[.pointer (some ⟨bb, 0, none⟩)] w fun r w' => r = .returned (.tuple #[]) ∧ St W F ([(bb, .cells #[.pointer (some ⟨bb, 0, none⟩), v] 122 (0, 0))] :: cs) w'  := by
 refine enter (args := [.pointer (some ⟨bb, 0, none⟩)]) func121 rfl rfl rfl ?_
 subst hpp
 refine Wi<|W0 h [0] 4 rfl<|C0 (V1 underlying119 rfl rfl) rfl<|Wa<|V0 rfl (rfl)<|Wi<|W0 h [0] 5 rfl<|C0 (Runs.pneqS underlying119 inf122 rfl rfl) rfl<|Wa<|V0 rfl (rfl)<|O0<|end0 rfl ⟨rfl, h⟩
theorem wstr_c {cs : List Res} (w : World) {bb : Nat} {pp v : Value} {r0 : Res} {xs : List UInt8} (l : List UInt8) (h : St W F ([(bb, .cells #[pp, v] 122 (0, 0))] :: r0 :: cs) w) (hpp : pp = .pointer none ∨ pp = .pointer (some ⟨bb, 0, none⟩)) (hr : Row 5 V8 r0 v xs) (hb : xs.length + l.length ≤ 10000000) : Calls prog 75 #[.pointer (some ⟨bb, 0, none⟩), .string (bs l)] w fun r w' => ∃ r1 v1, r = .returned (.tuple #[Vi l.length, .nilIface]) ∧ Row 5 V8 r1 v1 (xs ++ l) ∧ St W F ([(bb, .cells #[.pointer (some ⟨bb, 0, none⟩), v1] 122 (0, 0))] :: r1 :: cs) w'  := by
 refine enter (args := [.pointer (some ⟨bb, 0, none⟩), .string (bs l)]) func75 rfl rfl rfl ?_
 obtain ⟨Ao, co, rfl, hcap⟩ := hr.val
 refine Wi<|WL.e 2 rfl<|We<|WL.e 1 rfl<|WL.cv can121 rfl rfl ((hpp.elim (cc_c _ h) (cc_s _ h))) fun w1 h1 =>We<|W0 h1 [0] 6 rfl<|J3 (ys := l) 1 h1 rfl rfl rfl rfl underlying120 underlying9 (.inl rfl) inf5 rfl hr (Src.str) rfl rfl (by first | omega | (simp [bs_size]; done) | (simp [bs_size]; omega)) (by first | omega | (simp [bs_size]; done) | (simp [bs_size]; omega)) ?_
 intro r2 v2 w3 hr2 h3
 simp only [lz, ls] at h3
 obtain ⟨A2, c2, hv2, hcap2⟩ := (hr2).val
 subst hv2
 refine WL.e 2 rfl<|F1 h3 0 rfl rfl rfl inf120 rfl rfl (Free.zero _) (Nat.le_of_ble_eq_true rfl) ?_
 intro  w4 h4
 try simp only [ZZ] at h4
 refine We<|WL.e 1 rfl<|C0 (N0 (n := (l.length : Int)) (N2 underlying9 rfl rfl) rfl) rfl<|WL.e 2 rfl<|Wg<|ret2 rfl rfl rfl ⟨_, _, rfl, hr2, h4⟩
theorem str_c {cs : List Res} (w : World) {bb : Nat} {pp v : Value} {r0 : Res} {xs : List UInt8} (h : St W F ([(bb, .cells #[pp, v] 122 (0, 0))] :: r0 :: cs) w) (hr : Row 5 V8 r0 v xs) (h0 : xs ≠ []) (hb : xs.length ≤ 10000000) : Calls prog 77 #[.pointer (some ⟨bb, 0, none⟩)] w fun r w' => r = .returned (.string (bs xs)) ∧ St W F cs w'  := by
 refine enter (args := [.pointer (some ⟨bb, 0, none⟩)]) func77 rfl rfl rfl ?_
 have hpos : 0 < xs.length := List.length_pos_iff.2 h0
 obtain ⟨b, zs, fz, rfl, rfl, hfr⟩ := Row.blk hr hpos
 refine Wi<|WL.e 1 rfl<|Wb<|I4 h (fun s_ => ([10] : List Nat).any (Nat.beq s_)) mixed (by kernel_rfl)<|fun hx =>fun w1 h1=>K3 hx 12 [3, 8] [0, 1, 2, 5, 6, 7, 3, 8] [0, 0] rfl<|R2 hx 9 (by rfl) (fun w_ => R0 underlying120 rfl rfl) rfl<|WE.op (.inr h1) (i := 4) (by rfl) (by kernel_rfl)<|C0 (Runs.usd rfl (by omega)) rfl<|WL.nil<|U1<|WE.op (.inr h1) (i := 10) (by rfl) (by kernel_rfl)<|WL.ustr h1 1 rfl underlying159 (by kernel_rfl) h0 (by omega) rfl rfl rfl ?_
 intro fz2 w2 h2
 try simp only [ZZ] at h2
 refine WL.nil<|U1<|WE.e hx [11] rfl<|WE.fin (.inl ⟨10, rfl, by kernel_rfl⟩) (by kernel_rfl)<|H0<|I1<|ret1 rfl rfl ⟨rfl, (h2.drop 0).drop 0⟩
theorem inf42 : Inf prog 42 (.agg #[.int .i64 0, .int .i64 0, .int .i64 0, .int .i64 0, .int .i64 0, .int .i64 0, .int .i64 0, .string ⟨#[]⟩]) 8 72 := by unfold Inf; kernel_rfl
theorem can74 : B.Can prog 74 := ⟨_, func74, by kernel_rfl, rfl⟩
theorem can75 : B.Can prog 75 := ⟨_, func75, by kernel_rfl, rfl⟩
theorem can77 : B.Can prog 77 := ⟨_, func77, by kernel_rfl, rfl⟩
theorem can78 : B.Can prog 78 := ⟨_, func78, by kernel_rfl, rfl⟩
def okL (xs : List Int) : Prop := ∀ x ∈ xs, mayN x
instance (xs : List Int) : Decidable (okL xs) := inferInstanceAs (Decidable (∀ x ∈ xs, mayN x))
def listB (xs : List Int) : List UInt8 := if 4096 < xs.length then [] else if okL xs then numB (xs.length : Int) ++ xs.flatMap numB else []
theorem flat_len (xs : List Int) : (xs.flatMap numB).length ≤ 7 * xs.length := by
 induction xs with
 |nil => simp
 |cons x xs ih => have := numB_len x; rw [List.flatMap_cons, List.length_append, List.length_cons]; omega
theorem flat_take {xs : List Int} {k : Nat} (h : k < xs.length) : (xs.take (k + 1)).flatMap numB = (xs.take k).flatMap numB ++ numB (xs.getD k 0) := by
 have e : xs.take (k + 1) = xs.take k ++ [xs.getD k 0] := by
  rw [List.take_add_one, List.getElem?_eq_getElem h, List.getD_eq_getElem?_getD, List.getElem?_eq_getElem h]; rfl
 rw [e, List.flatMap_append]
 simp
theorem numB_ne {n : Int} (h : mayN n) : numB n ≠ [] := by
 unfold numB numN
 rw [if_pos h]
 simp
def numsM (m : M) : List Int := [m.k, m.f + 1, m.t + 1, m.j, m.ep, m.st, m.ar]
def encB (m : M) : List UInt8 := if mayM m then (numsM m).flatMap numB ++ textB m.tx else []
theorem nums_at (m : M) {k : Nat} (hk : k < 7) : (#[Vi m.k, Vi (m.f + 1), Vi (m.t + 1), Vi m.j, Vi m.ep, Vi m.st, Vi m.ar])[k]? = some (Vi ((numsM m).getD k 0)) := by
 have : k = 0 ∨ k = 1 ∨ k = 2 ∨ k = 3 ∨ k = 4 ∨ k = 5 ∨ k = 6 := by omega
 rcases this with rfl | rfl | rfl | rfl | rfl | rfl | rfl <;> rfl
theorem text_len {l : List UInt8} (h : l.length ≤ 100000) : (textB l).length ≤ 200000 := by
 unfold textB
 split
 ·simp
 ·have := numB_len (l.length : Int)
  rw [List.length_append]; omega
theorem wlist_c {cs : List Res} (w : World) {A : Option Addr} {cap : Nat} {xs : List Int} (h : St W F cs w) (hR : RdS (Kd.one Vi) F A xs) (hn : xs.length ≤ 100000) : Calls prog 176 #[.slice A xs.length cap] w fun r w' => r = .returned (.string (bs (listB xs))) ∧ St W F cs w'  := by
 refine enter (args := [.slice A xs.length cap]) func176 rfl rfl rfl<|Wi<|WL.e 1 rfl<|Wh<|WL.e 1 rfl<|C0 (R0 underlying33 rfl rfl) rfl<|C0 (X1 rfl rfl) rfl<|Wa<|U0 rfl (fun c1 => ?_) (fun c1 => ?_)
 ·try simp only [DD] at c1
  refine Wi<|WL.e 1 rfl<|Wg<|ret1 rfl rfl ⟨?_, h⟩
  unfold listB
  rw [if_pos (by omega)]; rfl
 ·try simp only [DD] at c1
  refine Wk<|O1 rfl h inf122 fun b3 w2 h2=>WL.nil (H0 (L0 ?_))
  have hB0 : St W F ([(b3, .cells #[.pointer none, .slice none 0 0] 122 (0, 0))] :: [] :: cs) w2 := (h2.nilRes).perm (List.Perm.swap _ _ _)
  refine K0<|WL.e 1 rfl<|C0 (R0 underlying33 rfl rfl) rfl<|WL.cv can76 rfl rfl (wnum_c _ _ hB0) fun w3 h3 =>H1 can75 rfl rfl (wstr_c _ _ h3 (.inl rfl) (Row.nil _ _) (by have := numB_len (xs.length : Int); simp; omega)) ?_
  rintro _ w4 ⟨r1, v1, rfl, hr1, h4⟩
  refine ⟨_, rfl, ?_⟩
  rw [List.nil_append] at hr1
  refine Wh<|WL.e 1 rfl<|C0 (R0 underlying33 rfl rfl) rfl<|WL.e 1 rfl<|Wj<|WC.lp (σ := Nat × Res × Value) (fun q_ => [(3, .pointer (some ⟨b3, 0, none⟩)), (13, .slice A xs.length cap), (14, .int .i64 (xs.length : Int)), (15, .int .i64 (q_.1 : Int))]) (fun q_ w => q_.1 ≤ xs.length ∧ (∀ j, j < q_.1 → mayN (xs.getD j 0)) ∧ Row 5 V8 q_.2.1 q_.2.2 (numB (xs.length : Int) ++ (xs.take q_.1).flatMap numB) ∧ St W F ([(b3, .cells #[.pointer (some ⟨b3, 0, none⟩), q_.2.2] 122 (0, 0))] :: q_.2.1 :: cs) w) (fun q_ => xs.length - q_.1) (⟨0, r1, v1⟩) (⟨by omega, fun j hj => absurd hj (Nat.not_lt_zero _), by simpa using hr1, h4⟩) ?_
  rintro ⟨k, r, v⟩ w5 ⟨hk, hok, hro, hL⟩
  try dsimp only at hk hok hro hL
  refine O2 [(3, .pointer (some ⟨b3, 0, none⟩)), (13, .slice A xs.length cap), (14, .int .i64 (xs.length : Int)), (15, .int .i64 (k : Int))] ?_
  have hfl := flat_len (xs.take k)
  rw [List.length_take] at hfl
  refine Wi<|C0 (N1 rfl rfl) rfl<|Wb<|U0 rfl (fun c6 => ?_) (fun c6 => ?_)
  ·try simp only [DD] at c6
   refine O0 (H0 (L0 (WC.block (L0 ?_))))
   obtain ⟨ad, rfl, hrd⟩ := rd1 hR (by omega)
   refine K0<|C0 (C1 underlying33 inf3 rfl rfl (n := k) rfl (by omega)) rfl<|C0 (T1 (f := Vi) (0 : Int) hL hrd (n := k) (by omega) underlying3 rfl rfl) rfl<|WL.e 1 rfl<|WL.nil (H0 (L0 (L0 ?_)))
   by_cases hmy : mayN (xs.getD k 0)
   ·skip
    refine K0<|WL.e 1 rfl<|WL.cv can120 rfl rfl (may_y _ _ hL hmy) fun w7 h7 =>WL.e 1 rfl<|Wa<|V0 rfl (rfl)<|O0<|H0<|K0<|WL.e 1 rfl<|WL.cv can76 rfl rfl (wnum_c _ _ h7) fun w8 h8 =>H1 can75 rfl rfl (wstr_c _ _ h8 (.inr rfl) hro (by have := numB_len (xs.length : Int); have := numB_len (xs.getD k 0); rw [List.length_append]; omega)) ?_
    rintro _ w9 ⟨r2, v2, rfl, hr2, h9⟩
    refine ⟨_, rfl,WL.nil<|WN.blk<|H0<|K0<|C0 (Q0 rfl rfl (by omega)) rfl<|WL.e 1 rfl<|WL.nil<|X0 (⟨k + 1, r2, v2⟩ : Nat × Res × Value) (by show xs.length - (k + 1) < xs.length - k; omega) ⟨rfl, rfl, rfl, rfl, trivial⟩ ⟨by show k + 1 ≤ _; omega, fun j hj => ?_, ?_, h9⟩⟩
    ·have hj : j < k + 1 := hj
     by_cases e : j = k
     ·subst e; exact hmy
     ·exact hok j (by omega)
    ·show Row _ _ _ _ (_ ++ (xs.take (k + 1)).flatMap numB)
     rw [flat_take (by omega), ← List.append_assoc]
     exact hr2
   ·skip
    refine K0<|WL.e 1 rfl<|WL.cv can120 rfl rfl (may_n _ _ hL hmy) fun w10 h10 =>WL.e 1 rfl<|Wa<|B1 rfl (rfl)<|Wi<|WL.e 1 rfl<|Wg<|ret1 rfl rfl ⟨?_, (h10.drop 0).drop 0⟩
    unfold listB
    rw [if_neg (by omega), if_neg (fun hh => hmy (hh _ (by
     rw [List.getD_eq_getElem?_getD, List.getElem?_eq_getElem (by omega)]; exact List.getElem_mem _)))]; rfl
  ·try simp only [DD] at c6
   refine WC.exit (Q1 (WX.cut (S1 (H0 (L0 ?_)))))
   obtain rfl : k = xs.length := by omega
   rw [List.take_of_length_le (Nat.le_refl _)] at *
   refine K0<|WL.cv can77 rfl rfl (str_c _ hL hro (fun e => numB_ne (n := (xs.length : Int)) ⟨by omega, by omega⟩ (List.append_eq_nil_iff.1 e).1) (by have := numB_len (xs.length : Int); rw [List.length_append]; omega)) fun w11 h11 =>WL.e 1 rfl<|WL.nil (H0 (I1 ?_))
   have hall : okL xs := fun x hx => by
    obtain ⟨j, hj, e⟩ := List.getElem_of_mem hx
    have := hok j hj
    rwa [List.getD_eq_getElem?_getD, List.getElem?_eq_getElem hj, Option.getD_some, e] at this
   refine ret1 rfl rfl ⟨?_, h11⟩
   unfold listB
   rw [if_neg (by omega), if_pos hall]
theorem enc_c {cs : List Res} (w : World) (m : M) (h : St W F cs w) (hl : m.tx.length ≤ 100000) : Calls prog 33 #[m.val] w fun r w' => r = .returned (.string (bs (encB m))) ∧ St W F cs w'  := by
 refine enter (args := [.agg #[Vi m.k, Vi m.f, Vi m.t, Vi m.j, Vi m.ep, Vi m.st, Vi m.ar, .string (bs m.tx)]]) func33 rfl rfl rfl<|Wi<|WL.box rfl h rfl fun b1 w1 h1=>WL.e 1 rfl<|WL.nil (H0 (L0 (L0 ?_)))
 by_cases hmy : mayM m
 ·skip
  refine K0<|C0 (E2 h1 0 rfl underlying42 rfl inf42 rfl rfl) rfl<|WL.cv can74 rfl rfl (message_c _ m h1) fun w2 h2 =>WL.e 1 rfl<|Wa<|V0 rfl ((by rw [decide_eq_true hmy]; rfl))<|Wk<|O1 rfl h2 inf122 fun b3 w3 h3=>WL.nil (H0 (L0 (L0 ?_)))
  have hB0 : St W F ([(b3, .cells #[.pointer none, .slice none 0 0] 122 (0, 0))] :: [] :: [(b1, .cells #[Vi m.k, Vi m.f, Vi m.t, Vi m.j, Vi m.ep, Vi m.st, Vi m.ar, .string (bs m.tx)] 42 (0, 0))] :: cs) w3 := (h3.nilRes).perm (List.Perm.swap _ _ _)
  have hmy2 := hmy
  obtain ⟨q0, q1, q2, q3, q4, q5, q6, q7, q8⟩ := hmy2
  refine K0<|W0 hB0 [2, 2] 4 rfl<|C0 (Q0 rfl rfl (by omega)) rfl<|W0 hB0 [2] 2 rfl<|C0 (Q0 rfl rfl (by omega)) rfl<|W0 hB0 [2, 2, 2, 2] 8 rfl<|C0 (B2 (vs := [(0, Vi m.k), (1, Vi (m.f + 1)), (2, Vi (m.t + 1)), (3, Vi m.j), (4, Vi m.ep), (5, Vi m.st), (6, Vi m.ar)]) (cells := #[Vi m.k, Vi (m.f + 1), Vi (m.t + 1), Vi m.j, Vi m.ep, Vi m.st, Vi m.ar]) rfl (by kernel_rfl)) rfl<|WL.e 1 rfl<|Wj<|WC.lp (σ := Nat × Res × Value × Value) (fun q_ => [(1, .pointer (some ⟨b1, 0, none⟩)), (3, .pointer (some ⟨b3, 0, none⟩)), (25, .agg #[Vi m.k, Vi (m.f + 1), Vi (m.t + 1), Vi m.j, Vi m.ep, Vi m.st, Vi m.ar]), (26, .int .i64 (q_.1 : Int))]) (fun q_ w => q_.1 ≤ 7 ∧ (q_.2.2.2 = .pointer none ∨ q_.2.2.2 = .pointer (some ⟨b3, 0, none⟩)) ∧ Row 5 V8 q_.2.1 q_.2.2.1 (((numsM m).take q_.1).flatMap numB) ∧ St W F ([(b3, .cells #[q_.2.2.2, q_.2.2.1] 122 (0, 0))] :: q_.2.1 :: [(b1, .cells #[Vi m.k, Vi m.f, Vi m.t, Vi m.j, Vi m.ep, Vi m.st, Vi m.ar, .string (bs m.tx)] 42 (0, 0))] :: cs) w) (fun q_ => 7 - q_.1) (⟨0, [], .slice none 0 0, .pointer none⟩) (⟨by omega, .inl rfl, Row.nil _ _, hB0⟩) ?_
  rintro ⟨k, r, v, pp⟩ w4 ⟨hk, hpp, hro, hL⟩
  try dsimp only at hk hpp hro hL
  refine O2 [(1, .pointer (some ⟨b1, 0, none⟩)), (3, .pointer (some ⟨b3, 0, none⟩)), (25, .agg #[Vi m.k, Vi (m.f + 1), Vi (m.t + 1), Vi m.j, Vi m.ep, Vi m.st, Vi m.ar]), (26, .int .i64 (k : Int))] ?_
  have hfl := flat_len ((numsM m).take k)
  rw [List.length_take, show (numsM m).length = 7 from rfl] at hfl
  refine Wi<|C0 (N1 rfl rfl) rfl<|Wb<|U0 rfl (fun c5 => ?_) (fun c5 => ?_)
  ·try simp only [DD] at c5
   refine O0<|H0<|L0<|WC.block<|Wi<|C0 (N0 (n := (numsM m).getD k 0) (M4 underlying123 underlying3 rfl inf3 rfl rfl (n := k) rfl (by omega) (u := Vi ((numsM m).getD k 0)) (nums_at m (by omega))) rfl) rfl<|WL.e 1 rfl<|Wf<|WL.e 1 rfl<|WL.cv can76 rfl rfl (wnum_c _ _ hL) fun w6 h6 =>H1 can75 rfl rfl (wstr_c _ _ h6 hpp hro (by have := numB_len ((numsM m).getD k 0); omega)) ?_
   rintro _ w7 ⟨r2, v2, rfl, hr2, h7⟩
   refine ⟨_, rfl,WL.nil<|WN.blk<|H0<|K0<|C0 (Q0 rfl rfl (by omega)) rfl<|WL.e 1 rfl<|WL.nil<|X0 (⟨k + 1, r2, v2, .pointer (some ⟨b3, 0, none⟩)⟩ : Nat × Res × Value × Value) (by show 7 - (k + 1) < 7 - k; omega) ⟨rfl, rfl, rfl, rfl, trivial⟩ ⟨by show k + 1 ≤ _; omega, .inr rfl, ?_, h7⟩⟩
   show Row _ _ _ _ (((numsM m).take (k + 1)).flatMap numB)
   rw [flat_take (by show k < 7; omega)]
   exact hr2
  ·try simp only [DD] at c5
   refine WC.exit (Q1 (WX.cut (S1 (H0 (L0 ?_)))))
   obtain rfl : k = 7 := by omega
   rw [show (numsM m).take 7 = numsM m from rfl] at *
   have hne : (numsM m).flatMap numB ≠ [] := fun e => numB_ne (n := m.k) ⟨hmy.1, by have := hmy.2.1; omega⟩ (List.append_eq_nil_iff.1 e).1
   obtain ⟨G, gl, g0, S0⟩ := hL.freeze (i := 2) rfl
   have hm7 : cellF G ⟨b1, 7, none⟩ = some (.string (bs m.tx)) := by unfold cellF; simp only [g0 _ List.mem_cons_self]; rfl
   replace S0 : St W G ([(b3, .cells #[pp, v] 122 (0, 0))] :: r :: cs) w4 := S0
   refine WC.eregF S0 (fun s_ => ([] : List Nat).any (Nat.beq s_)) mixed (by kernel_rfl)<|fun hx =>fun w8 h8=>WE.e hx [1] rfl<|E3 12 hx 2 (by rfl) (fun w_ hE_ => Exists.elim hE_ (fun cs_ hC_ => I0 underlying9 rfl rfl (hC_.cell hm7))) rfl<|WE.op (.inr (EC.mk h8 (Le.refl _))) (i := 0) (by rfl) (by kernel_rfl)<|WL.cv can77 rfl rfl (str_c _ h8 hro hne (by omega)) fun w9 h9 =>WL.nil<|U1<|WE.op (.inr (EC.mk h9 (Le.refl _))) (i := 3) (by rfl) (by kernel_rfl)<|WL.cv can78 rfl rfl (wtext_c _ _ h9 hl) fun w10 h10 =>WL.nil<|U1<|R2 hx 4 (by rfl) (fun w_ => Y2 rfl rfl (by have := text_len hl; omega)) rfl<|WE.e hx [5] rfl<|WE.fin (.inr (EC.mk h10 (Le.refl _))) (by kernel_rfl)<|H0<|I1<|ret1 rfl rfl ⟨?_, h10.weak gl⟩
   unfold encB
   rw [if_pos hmy]
 ·skip
  refine K0<|C0 (E2 h1 0 rfl underlying42 rfl inf42 rfl rfl) rfl<|WL.cv can74 rfl rfl (message_c _ m h1) fun w11 h11 =>WL.e 1 rfl<|Wa<|B1 rfl ((by rw [decide_eq_false hmy]; rfl))<|Wi<|WL.e 1 rfl<|Wg<|ret1 rfl rfl ⟨?_, h11.drop 0⟩
  unfold encB
  rw [if_neg hmy]; rfl
theorem can81 : B.Can prog 81 := ⟨_, func81, by kernel_rfl, rfl⟩
theorem can82 : B.Can prog 82 := ⟨_, func82, by kernel_rfl, rfl⟩
theorem can83 : B.Can prog 83 := ⟨_, func83, by kernel_rfl, rfl⟩
theorem can84 : B.Can prog 84 := ⟨_, func84, by kernel_rfl, rfl⟩
theorem rdN_bnd (l : List UInt8) (p : Nat) (e : Int) : (rdN l p e).1 ≤ 1099511627776 := by
 unfold rdN
 split
 ·simp
 ·split
  ·rename_i h
   show rval l p ≤ _
   unfold rerr at h
   unfold rval
   split at h
   ·cases h
   ·split at h
    ·cases h
    ·split at h
     ·cases h
     ·split at h
      ·cases h
      ·rename_i h4
       omega
  ·simp
theorem readN_c {cs : List Res} (w : World) {rb p : Nat} {e : Int} {l : List UInt8} (h : St W F ([(rb, .cells #[.string (bs l), Vi (p), Vi (e)] 161 (0, 0))] :: cs) w) (hl : l.length ≤ 9223372036854775807) (hp : p ≤ l.length) : Calls prog 82 #[.pointer (some ⟨rb, 0, none⟩)] w fun r w' => r = .returned (Vi ((rdN l p e).1 : Nat)) ∧ St W F ([(rb, .cells #[.string (bs l), Vi (((rdN l p e).2.1 : Nat)), Vi ((rdN l p e).2.2)] 161 (0, 0))] :: cs) w' := by
 by_cases he : e = 0
 ·subst he
  exact readN_on w h (i := 0) rfl hl hp
 ·have e1 : rdN l p e = (0, p, e) := by unfold rdN; rw [if_pos he]
  rw [e1]
  exact readN_off w h (i := 0) rfl he
theorem readT_c {cs : List Res} (w : World) {rb p : Nat} {e : Int} {l : List UInt8} (h : St W F ([(rb, .cells #[.string (bs l), Vi (p), Vi (e)] 161 (0, 0))] :: cs) w) (hl : l.length ≤ 9223372036854775807) (hp : p ≤ l.length) : Calls prog 83 #[.pointer (some ⟨rb, 0, none⟩)] w fun r w' => r = .returned (.string (bs (rdT l p e).1)) ∧ St W F ([(rb, .cells #[.string (bs l), Vi (((rdT l p e).2.1 : Nat)), Vi ((rdT l p e).2.2)] 161 (0, 0))] :: cs) w' := by
 by_cases he : e = 0
 ·subst he
  exact readT_on w h (i := 0) rfl hl hp
 ·have e1 : rdT l p e = ([], p, e) := by unfold rdT; rw [if_pos he]
  rw [e1]
  exact readT_off w h (i := 0) rfl he
def D0 (l : List UInt8) : Nat × Nat × Int := rdN l 0 0
def D1 (l : List UInt8) : Nat × Nat × Int := rdN l (D0 l).2.1 (D0 l).2.2
def D2 (l : List UInt8) : Nat × Nat × Int := rdN l (D1 l).2.1 (D1 l).2.2
def D3 (l : List UInt8) : Nat × Nat × Int := rdN l (D2 l).2.1 (D2 l).2.2
def D4 (l : List UInt8) : Nat × Nat × Int := rdN l (D3 l).2.1 (D3 l).2.2
def D5 (l : List UInt8) : Nat × Nat × Int := rdN l (D4 l).2.1 (D4 l).2.2
def D6 (l : List UInt8) : Nat × Nat × Int := rdN l (D5 l).2.1 (D5 l).2.2
def DT (l : List UInt8) := rdT l (D6 l).2.1 (D6 l).2.2
def decM (l : List UInt8) : M := ⟨(D0 l).1, ((D1 l).1 : Int) - 1, ((D2 l).1 : Int) - 1, (D3 l).1, (D4 l).1, (D5 l).1, (D6 l).1, (DT l).1⟩
def decE (l : List UInt8) : Int := (rdEnd l (DT l).2.1 (DT l).2.2).1
def M0 : M := ⟨0, 0, 0, 0, 0, 0, 0, []⟩
def decB (l : List UInt8) : M × Int := if decE l ≠ 0 then (M0, decE l) else if mayM (decM l) then (decM l, 0) else (M0, 5)
theorem dec_c {cs : List Res} (w : World) (l : List UInt8) (h : St W F cs w) (hl : l.length ≤ 9223372036854775807) : Calls prog 38 #[.string (bs l)] w fun r w' => r = .returned (.tuple #[(decB l).1.val, Vi (decB l).2]) ∧ St W F cs w'  := by
 refine enter (args := [.string (bs l)]) func38 rfl rfl rfl<|Wi<|O1 rfl h inf42 fun b2 w1 h1=>WL.e 1 rfl<|We<|WL.e 1 rfl<|H1 can81 rfl rfl (read_c _ l h1) ?_
 rintro _ w2 ⟨rb, rfl, h2⟩
 refine ⟨_, rfl,WL.e 1 rfl<|We<|WL.e 1 rfl<|WL.cv can82 rfl rfl (readN_c _ (p := 0) (e := 0) h2 hl (by omega)) fun w3 h3 => ?_⟩
 replace h3 : St W F ([(rb, .cells #[.string (bs l), Vi (((D0 l).2.1 : Nat)), Vi ((D0 l).2.2)] 161 (0, 0))] :: [(b2, .cells #[Vi 0, Vi 0, Vi 0, Vi 0, Vi 0, Vi 0, Vi 0, .string ⟨#[]⟩] 42 (0, 0))] :: cs) w3 := h3
 have hp0 : (D0 l).2.1 ≤ l.length := rdN_le _ (by omega)
 have hb0 : (D0 l).1 ≤ 1099511627776 := rdN_bnd _ _ _
 refine WL.e 1 rfl<|WL.cv can82 rfl rfl (readN_c _ (p := (D0 l).2.1) (e := (D0 l).2.2) h3 hl hp0) fun w4 h4 => ?_
 replace h4 : St W F ([(rb, .cells #[.string (bs l), Vi (((D1 l).2.1 : Nat)), Vi ((D1 l).2.2)] 161 (0, 0))] :: [(b2, .cells #[Vi 0, Vi 0, Vi 0, Vi 0, Vi 0, Vi 0, Vi 0, .string ⟨#[]⟩] 42 (0, 0))] :: cs) w4 := h4
 have hp1 : (D1 l).2.1 ≤ l.length := rdN_le _ hp0
 have hb1 : (D1 l).1 ≤ 1099511627776 := rdN_bnd _ _ _
 refine C0 (W2 (m := ((D1 l).1 : Int)) rfl rfl (by omega)) rfl<|WL.e 1 rfl<|WL.cv can82 rfl rfl (readN_c _ (p := (D1 l).2.1) (e := (D1 l).2.2) h4 hl hp1) fun w5 h5 => ?_
 replace h5 : St W F ([(rb, .cells #[.string (bs l), Vi (((D2 l).2.1 : Nat)), Vi ((D2 l).2.2)] 161 (0, 0))] :: [(b2, .cells #[Vi 0, Vi 0, Vi 0, Vi 0, Vi 0, Vi 0, Vi 0, .string ⟨#[]⟩] 42 (0, 0))] :: cs) w5 := h5
 have hp2 : (D2 l).2.1 ≤ l.length := rdN_le _ hp1
 have hb2 : (D2 l).1 ≤ 1099511627776 := rdN_bnd _ _ _
 refine C0 (W2 (m := ((D2 l).1 : Int)) rfl rfl (by omega)) rfl<|WL.e 1 rfl<|WL.cv can82 rfl rfl (readN_c _ (p := (D2 l).2.1) (e := (D2 l).2.2) h5 hl hp2) fun w6 h6 => ?_
 replace h6 : St W F ([(rb, .cells #[.string (bs l), Vi (((D3 l).2.1 : Nat)), Vi ((D3 l).2.2)] 161 (0, 0))] :: [(b2, .cells #[Vi 0, Vi 0, Vi 0, Vi 0, Vi 0, Vi 0, Vi 0, .string ⟨#[]⟩] 42 (0, 0))] :: cs) w6 := h6
 have hp3 : (D3 l).2.1 ≤ l.length := rdN_le _ hp2
 have hb3 : (D3 l).1 ≤ 1099511627776 := rdN_bnd _ _ _
 refine WL.e 1 rfl<|WL.cv can82 rfl rfl (readN_c _ (p := (D3 l).2.1) (e := (D3 l).2.2) h6 hl hp3) fun w7 h7 => ?_
 replace h7 : St W F ([(rb, .cells #[.string (bs l), Vi (((D4 l).2.1 : Nat)), Vi ((D4 l).2.2)] 161 (0, 0))] :: [(b2, .cells #[Vi 0, Vi 0, Vi 0, Vi 0, Vi 0, Vi 0, Vi 0, .string ⟨#[]⟩] 42 (0, 0))] :: cs) w7 := h7
 have hp4 : (D4 l).2.1 ≤ l.length := rdN_le _ hp3
 have hb4 : (D4 l).1 ≤ 1099511627776 := rdN_bnd _ _ _
 refine WL.e 1 rfl<|WL.cv can82 rfl rfl (readN_c _ (p := (D4 l).2.1) (e := (D4 l).2.2) h7 hl hp4) fun w8 h8 => ?_
 replace h8 : St W F ([(rb, .cells #[.string (bs l), Vi (((D5 l).2.1 : Nat)), Vi ((D5 l).2.2)] 161 (0, 0))] :: [(b2, .cells #[Vi 0, Vi 0, Vi 0, Vi 0, Vi 0, Vi 0, Vi 0, .string ⟨#[]⟩] 42 (0, 0))] :: cs) w8 := h8
 have hp5 : (D5 l).2.1 ≤ l.length := rdN_le _ hp4
 have hb5 : (D5 l).1 ≤ 1099511627776 := rdN_bnd _ _ _
 refine WL.e 1 rfl<|WL.cv can82 rfl rfl (readN_c _ (p := (D5 l).2.1) (e := (D5 l).2.2) h8 hl hp5) fun w9 h9 => ?_
 replace h9 : St W F ([(rb, .cells #[.string (bs l), Vi (((D6 l).2.1 : Nat)), Vi ((D6 l).2.2)] 161 (0, 0))] :: [(b2, .cells #[Vi 0, Vi 0, Vi 0, Vi 0, Vi 0, Vi 0, Vi 0, .string ⟨#[]⟩] 42 (0, 0))] :: cs) w9 := h9
 have hp6 : (D6 l).2.1 ≤ l.length := rdN_le _ hp5
 have hb6 : (D6 l).1 ≤ 1099511627776 := rdN_bnd _ _ _
 refine WL.e 1 rfl<|WL.cv can83 rfl rfl (readT_c _ (p := (D6 l).2.1) (e := (D6 l).2.2) h9 hl hp6) fun w10 h10 => ?_
 replace h10 : St W F ([(rb, .cells #[.string (bs l), Vi (((DT l).2.1 : Nat)), Vi ((DT l).2.2)] 161 (0, 0))] :: [(b2, .cells #[Vi 0, Vi 0, Vi 0, Vi 0, Vi 0, Vi 0, Vi 0, .string ⟨#[]⟩] 42 (0, 0))] :: cs) w10 := h10
 refine C0 (B2 (cells := #[Vi ((D0 l).1 : Nat), Vi (((D1 l).1 : Int) - 1), Vi (((D2 l).1 : Int) - 1), Vi ((D3 l).1 : Nat), Vi ((D4 l).1 : Nat), Vi ((D5 l).1 : Nat), Vi ((D6 l).1 : Nat), .string (bs (DT l).1)]) rfl (by kernel_rfl)) rfl<|O1 rfl h10 inf42 fun b5 w11 h11=>M1 h11 0 rfl rfl rfl inf42 rfl rfl rfl (Free.zero _) ?_
 intro  w12 h12
 try simp only [ZZ] at h12
 refine Wh<|WL.e 1 rfl<|WL.cv can84 rfl rfl (rend_c _ (p := (DT l).2.1) (e := (DT l).2.2) h12 (i := 1) rfl) fun w13 h13 =>WL.e 5 rfl<|WL.nil (H0 (L0 ?_))
 by_cases hde : decE l = 0
 ·skip
  refine K0<|WL.e 1 rfl<|C0 (Bf (Z1 rfl rfl) (by show (!decide (decE l = 0)) = false; rw [decide_eq_true hde]; rfl)) rfl<|Wa<|V0 rfl (rfl)<|O0 (H0 (L0 (L0 ?_)))
  by_cases hmy : mayM (decM l)
  ·skip
   refine K0<|C0 (E2 h13 0 rfl underlying42 rfl inf42 rfl rfl) rfl<|WL.cv can74 rfl rfl (message_c _ (decM l) h13) fun w14 h14 =>WL.e 1 rfl<|Wa<|V0 rfl ((by rw [decide_eq_true hmy]; rfl))<|Wk<|C0 (E2 h14 0 rfl underlying42 rfl inf42 rfl rfl) rfl<|M1 h14 2 rfl rfl rfl inf42 rfl rfl rfl (Free.zero _) ?_
   intro  w15 h15
   try simp only [ZZ] at h15
   refine WL.e 1 rfl<|Wg<|retB rfl (v := .agg #[Vi ((D0 l).1 : Nat), Vi (((D1 l).1 : Int) - 1), Vi (((D2 l).1 : Int) - 1), Vi ((D3 l).1 : Nat), Vi ((D4 l).1 : Nat), Vi ((D5 l).1 : Nat), Vi ((D6 l).1 : Nat), .string (bs (DT l).1)]) ⟨_, rfl, run_loadVarA (vs := [Vi ((D0 l).1 : Nat), Vi (((D1 l).1 : Int) - 1), Vi (((D2 l).1 : Int) - 1), Vi ((D3 l).1 : Nat), Vi ((D4 l).1 : Nat), Vi ((D5 l).1 : Nat), Vi ((D6 l).1 : Nat), .string (bs (DT l).1)]) underlying42 rfl inf42 rfl (fun j v hv => by rw [add_mk, Nat.zero_add]; exact h15.ocell (i := 2) rfl (by simpa using hv))⟩ (show lk _ _ = _ from rfl) ⟨by unfold decB; rw [if_neg (by rw [hde]; simp), if_pos hmy]; rfl, ((h15.drop 0).drop 0).drop 0⟩
  ·skip
   refine K0<|C0 (E2 h13 0 rfl underlying42 rfl inf42 rfl rfl) rfl<|WL.cv can74 rfl rfl (message_c _ (decM l) h13) fun w16 h16 =>WL.e 1 rfl<|Wa<|B1 rfl ((by rw [decide_eq_false hmy]; rfl))<|Wi<|C0 (B2 (vs := []) (cells := #[Vi 0, Vi 0, Vi 0, Vi 0, Vi 0, Vi 0, Vi 0, .string ⟨#[]⟩]) rfl (by kernel_rfl)) rfl<|M1 h16 2 rfl rfl rfl inf42 rfl rfl rfl (Free.zero _) ?_
   intro  w17 h17
   try simp only [ZZ] at h17
   refine WL.e 1 rfl<|Wg<|retB rfl (v := .agg #[Vi 0, Vi 0, Vi 0, Vi 0, Vi 0, Vi 0, Vi 0, .string ⟨#[]⟩]) ⟨_, rfl, run_loadVarA (vs := [Vi 0, Vi 0, Vi 0, Vi 0, Vi 0, Vi 0, Vi 0, .string ⟨#[]⟩]) underlying42 rfl inf42 rfl (fun j v hv => by rw [add_mk, Nat.zero_add]; exact h17.ocell (i := 2) rfl (by simpa using hv))⟩ (show lk _ _ = _ from rfl) ⟨by unfold decB; rw [if_neg (by rw [hde]; simp), if_neg hmy]; rfl, ((h17.drop 0).drop 0).drop 0⟩
 ·skip
  refine K0<|WL.e 1 rfl<|C0 (Bt (Z1 rfl rfl) (by show (!decide (decE l = 0)) = true; rw [decide_eq_false hde]; rfl)) rfl<|Wa<|B1 rfl (rfl)<|Wi<|C0 (B2 (vs := []) (cells := #[Vi 0, Vi 0, Vi 0, Vi 0, Vi 0, Vi 0, Vi 0, .string ⟨#[]⟩]) rfl (by kernel_rfl)) rfl<|WL.e 1 rfl<|M1 h13 2 rfl rfl rfl inf42 rfl rfl rfl (Free.zero _) ?_
  intro  w18 h18
  try simp only [ZZ] at h18
  refine WL.e 1 rfl<|Wg<|retB rfl (v := .agg #[Vi 0, Vi 0, Vi 0, Vi 0, Vi 0, Vi 0, Vi 0, .string ⟨#[]⟩]) ⟨_, rfl, run_loadVarA (vs := [Vi 0, Vi 0, Vi 0, Vi 0, Vi 0, Vi 0, Vi 0, .string ⟨#[]⟩]) underlying42 rfl inf42 rfl (fun j v hv => by rw [add_mk, Nat.zero_add]; exact h18.ocell (i := 2) rfl (by simpa using hv))⟩ (show lk _ _ = _ from rfl) ⟨by unfold decB; rw [if_pos hde]; rfl, ((h18.drop 0).drop 0).drop 0⟩
theorem n0 : numB 0 = [0] := by simp [numB, numN, mayN, hi_0]
theorem n2 : numB 2 = [1, 2] := by simp [numB, numN, mayN, hi_s, hi_0]
theorem n4 : numB 4 = [1, 4] := by simp [numB, numN, mayN, hi_s, hi_0]
theorem n1 : numB 1 = [1, 1] := by simp [numB, numN, mayN, hi_s, hi_0]
theorem eqM (w : World) (m n : M) : (Op.equalIn 10000 42 m.val n.val).run prog w = .ok (decide (m.k = n.k) && (decide (m.f = n.f) && (decide (m.t = n.t) && (decide (m.j = n.j) && (decide (m.ep = n.ep) && (decide (m.st = n.st) && (decide (m.ar = n.ar) && (decide (m.tx = n.tx) && true)))))))) w := by
 unfold M.val
 refine eqA_of (d := 9999) underlying42 (by kernel_rfl)<|eqf_int (d := 9998) rfl underlying3 rfl rfl (eqf_int (d := 9998) rfl underlying3 rfl rfl (eqf_int (d := 9998) rfl underlying3 rfl rfl (eqf_int (d := 9998) rfl underlying3 rfl rfl (eqf_int (d := 9998) rfl underlying3 rfl rfl (eqf_int (d := 9998) rfl underlying3 rfl rfl (eqf_int (d := 9998) rfl underlying3 rfl rfl (eqf_str (d := 9998) rfl underlying9 rfl rfl eqf_nil)))))))
theorem valN_hi : ∀ (n : Nat), valN (hi n) = n := by
 intro n
 induction n using Nat.strongRecOn with
 |_ n ih =>
  by_cases h : n = 0
  ·subst h; rw [hi_0]; rfl
  ·rw [hi_s h, valN_snoc, ih (n / 256) (by omega), UInt8.toNat_ofNat']
   omega
theorem hi_ne {n : Nat} (h : n ≠ 0) : hi n ≠ [] := by rw [hi_s h]; simp
theorem hi_head : ∀ (n : Nat), n ≠ 0 → (hi n).getD 0 0 ≠ 0 := by
 intro n
 induction n using Nat.strongRecOn with
 |_ n ih =>
  intro h
  rw [hi_s h]
  by_cases h2 : n / 256 = 0
  ·rw [h2, hi_0]
   intro e
   have := congrArg UInt8.toNat e
   simp at this
   omega
  ·have h3 := ih (n / 256) (by omega) h2
   cases e : hi (n / 256) with
   |nil => exact absurd e (hi_ne h2)
   |cons a t => rw [e] at h3; simpa using h3
theorem numN_len (n : Nat) (h : n ≤ 1099511627776) : (UInt8.ofNat (hi n).length).toNat = (hi n).length := by
 have := hi_six h
 rw [UInt8.toNat_ofNat']; omega
theorem rdN_num (pre rest : List UInt8) {n : Nat} (h : n ≤ 1099511627776) : rdN (pre ++ (numN n ++ rest)) pre.length 0 = (n, (pre ++ numN n).length, 0) := by
 have h6 := hi_six h
 have e1 : szB (pre ++ (numN n ++ rest)) pre.length = (hi n).length := by
  unfold szB numN
  rw [List.getD_eq_getElem?_getD, List.getElem?_append_right (Nat.le_refl _), Nat.sub_self]
  exact numN_len n h
 have e2 : dig (pre ++ (numN n ++ rest)) pre.length = hi n := by
  unfold dig
  rw [e1]
  unfold numN
  rw [List.drop_append, List.drop_eq_nil_of_le (by omega), List.nil_append, show pre.length + 1 - pre.length = 1 by omega]
  show ((hi n) ++ rest).take _ = _
  rw [List.take_left' rfl]
 have e3 : rerr (pre ++ (numN n ++ rest)) pre.length = 0 := by
  unfold rerr
  rw [e1, e2, valN_hi]
  rw [if_neg (by simp [numN]), if_neg (by omega), if_neg (by simp [numN]; omega), if_neg]
  rintro (h1 | ⟨h1, h2⟩)
  ·omega
  ·refine hi_head n ?_ h2
   intro e; subst e; rw [hi_0] at h1; simp at h1
 unfold rdN
 rw [if_neg (by simp), if_pos e3]
 unfold rval rnx
 rw [e1, e2, valN_hi]
 simp only [Prod.mk.injEq, true_and, and_true]
 simp [numN]; omega
theorem rdT_text (pre : List UInt8) {t : List UInt8} (h : t.length ≤ 4096) : rdT (pre ++ textB t) pre.length 0 = (t, (pre ++ textB t).length, 0) := by
 have et : textB t = numN t.length ++ t := by
  unfold textB numB
  rw [if_neg (by omega), if_pos ⟨by omega, by omega⟩]; rfl
 rw [et]
 have hr := rdN_num pre t (n := t.length) (by omega)
 unfold rdN at hr
 rw [if_neg (by simp)] at hr
 have he : rerr (pre ++ (numN t.length ++ t)) pre.length = 0 := by
  by_cases h0 : rerr (pre ++ (numN t.length ++ t)) pre.length = 0
  ·exact h0
  ·rw [if_neg h0] at hr
   simp only [Prod.mk.injEq] at hr
   exact absurd hr.2.2 h0
 rw [if_pos he] at hr
 simp only [Prod.mk.injEq, and_true] at hr
 obtain ⟨hv, hx⟩ := hr
 have hc : cerr (pre ++ (numN t.length ++ t)) pre.length 4096 = 0 := by
  unfold cerr
  rw [if_neg (by rw [he]; simp), hv, if_neg (by omega)]
 unfold rdT
 rw [if_neg (by simp), if_neg (by rw [hc]; simp), hv, hx, if_neg (by simp; omega)]
 simp only [Prod.mk.injEq, and_true]
 refine ⟨?_, by simp; omega⟩
 rw [← List.append_assoc, List.drop_left' rfl, List.take_of_length_le (Nat.le_refl _)]
theorem numB_y {n : Int} (h : mayN n) : numB n = numN n.toNat := if_pos h
theorem tn {n : Int} (h : mayN n) : n.toNat ≤ 1099511627776 ∧ ((n.toNat : Nat) : Int) = n := by have := h.1; have := h.2; omega
theorem encB_y {m : M} (h : mayM m) : encB m = numN m.k.toNat ++ (numN (m.f + 1).toNat ++ (numN (m.t + 1).toNat ++ (numN m.j.toNat ++ (numN m.ep.toNat ++ (numN m.st.toNat ++ (numN m.ar.toNat ++ textB m.tx)))))) := by
 unfold encB
 rw [if_pos h]
 obtain ⟨q0, q1, q2, q3, q4, q5, q6, q7, q8⟩ := h
 show (numB m.k ++ (numB (m.f + 1) ++ (numB (m.t + 1) ++ (numB m.j ++ (numB m.ep ++ (numB m.st ++ (numB m.ar ++ []))))))) ++ textB m.tx = _
 rw [numB_y (n := m.k) ⟨q0, by omega⟩, numB_y (n := m.f + 1) ⟨by omega, by omega⟩, numB_y (n := m.t + 1) ⟨by omega, by omega⟩, numB_y q4, numB_y q5, numB_y q6, numB_y q7]
 simp
theorem decB_enc {m : M} (h : mayM m) : decB (encB m) = (m, 0) := by
 have h' := h
 obtain ⟨q0, q1, q2, q3, q4, q5, q6, q7, q8⟩ := h'
 have t0 := tn (n := m.k) ⟨q0, by omega⟩
 have t1 := tn (n := m.f + 1) ⟨by omega, by omega⟩
 have t2 := tn (n := m.t + 1) ⟨by omega, by omega⟩
 have t3 := tn q4
 have t4 := tn q5
 have t5 := tn q6
 have t6 := tn q7
 have e := encB_y h
 generalize hl : encB m = l at e
 have d0 : D0 l = (m.k.toNat, (numN m.k.toNat).length, 0) := by
  unfold D0; rw [e]; exact rdN_num [] _ t0.1
 have d1 : D1 l = ((m.f + 1).toNat, (numN m.k.toNat ++ numN (m.f + 1).toNat).length, 0) := by
  unfold D1; rw [d0, e]; exact rdN_num _ _ t1.1
 have d2 : D2 l = ((m.t + 1).toNat, ((numN m.k.toNat ++ numN (m.f + 1).toNat) ++ numN (m.t + 1).toNat).length, 0) := by
  unfold D2; rw [d1, e, ← List.append_assoc]; exact rdN_num _ _ t2.1
 have d3 : D3 l = (m.j.toNat, (((numN m.k.toNat ++ numN (m.f + 1).toNat) ++ numN (m.t + 1).toNat) ++ numN m.j.toNat).length, 0) := by
  unfold D3; rw [d2, e, ← List.append_assoc, ← List.append_assoc]; exact rdN_num _ _ t3.1
 have d4 : D4 l = (m.ep.toNat, ((((numN m.k.toNat ++ numN (m.f + 1).toNat) ++ numN (m.t + 1).toNat) ++ numN m.j.toNat) ++ numN m.ep.toNat).length, 0) := by
  unfold D4; rw [d3, e, ← List.append_assoc, ← List.append_assoc, ← List.append_assoc]; exact rdN_num _ _ t4.1
 have d5 : D5 l = (m.st.toNat, (((((numN m.k.toNat ++ numN (m.f + 1).toNat) ++ numN (m.t + 1).toNat) ++ numN m.j.toNat) ++ numN m.ep.toNat) ++ numN m.st.toNat).length, 0) := by
  unfold D5; rw [d4, e, ← List.append_assoc, ← List.append_assoc, ← List.append_assoc, ← List.append_assoc]; exact rdN_num _ _ t5.1
 have d6 : D6 l = (m.ar.toNat, ((((((numN m.k.toNat ++ numN (m.f + 1).toNat) ++ numN (m.t + 1).toNat) ++ numN m.j.toNat) ++ numN m.ep.toNat) ++ numN m.st.toNat) ++ numN m.ar.toNat).length, 0) := by
  unfold D6; rw [d5, e, ← List.append_assoc, ← List.append_assoc, ← List.append_assoc, ← List.append_assoc, ← List.append_assoc]; exact rdN_num _ _ t6.1
 have e' : l = ((((((numN m.k.toNat ++ numN (m.f + 1).toNat) ++ numN (m.t + 1).toNat) ++ numN m.j.toNat) ++ numN m.ep.toNat) ++ numN m.st.toNat) ++ numN m.ar.toNat) ++ textB m.tx := by rw [e]; simp
 have dT : DT l = (m.tx, l.length, 0) := by
  unfold DT; rw [d6]
  conv => lhs; rw [e']
  conv => rhs; rw [e']
  exact rdT_text _ (by omega)
 have hE : decE l = 0 := by
  unfold decE rdEnd
  rw [dT, if_neg (by simp)]
 have hM : decM l = m := by
  unfold decM
  rw [d0, d1, d2, d3, d4, d5, d6, dT]
  cases m
  simp only [M.mk.injEq] at *
  refine ⟨t0.2, by omega, by omega, t3.2, t4.2, t5.2, t6.2, trivial⟩
 unfold decB
 rw [if_neg (by rw [hE]; simp), hM, if_pos h]
theorem num_rdN {l : List UInt8} {p : Nat} {e : Int} (h : (rdN l p e).2.2 = 0) : e = 0 ∧ rerr l p = 0 ∧ rdN l p e = (rval l p, rnx l p, 0) := by
 unfold rdN at h ⊢
 by_cases he : e = 0
 ·rw [if_neg (by rw [he]; simp)] at h ⊢
  by_cases hr : rerr l p = 0
  ·exact ⟨he, hr, if_pos hr⟩
  ·rw [if_neg hr] at h
   exact absurd h hr
 ·rw [if_pos he] at h
  exact absurd h he
theorem can37 : B.Can prog 37 := ⟨_, func37, by kernel_rfl, rfl⟩
theorem can80 : B.Can prog 80 := ⟨_, func80, by kernel_rfl, rfl⟩
theorem can104 : B.Can prog 104 := ⟨_, func104, by kernel_rfl, rfl⟩
theorem can122 : B.Can prog 122 := ⟨_, func122, by kernel_rfl, rfl⟩
theorem conj11 (P0 P1 P2 P3 P4 P5 P6 P7 P8 P9 P10 : Prop) : (¬ P0) ∨ (P0 ∧ ¬ P1) ∨ (P0 ∧ P1 ∧ ¬ P2) ∨ (P0 ∧ P1 ∧ P2 ∧ ¬ P3) ∨ (P0 ∧ P1 ∧ P2 ∧ P3 ∧ ¬ P4) ∨ (P0 ∧ P1 ∧ P2 ∧ P3 ∧ P4 ∧ ¬ P5) ∨ (P0 ∧ P1 ∧ P2 ∧ P3 ∧ P4 ∧ P5 ∧ ¬ P6) ∨ (P0 ∧ P1 ∧ P2 ∧ P3 ∧ P4 ∧ P5 ∧ P6 ∧ ¬ P7) ∨ (P0 ∧ P1 ∧ P2 ∧ P3 ∧ P4 ∧ P5 ∧ P6 ∧ P7 ∧ ¬ P8) ∨ (P0 ∧ P1 ∧ P2 ∧ P3 ∧ P4 ∧ P5 ∧ P6 ∧ P7 ∧ P8 ∧ ¬ P9) ∨ (P0 ∧ P1 ∧ P2 ∧ P3 ∧ P4 ∧ P5 ∧ P6 ∧ P7 ∧ P8 ∧ P9 ∧ ¬ P10) ∨ (P0 ∧ P1 ∧ P2 ∧ P3 ∧ P4 ∧ P5 ∧ P6 ∧ P7 ∧ P8 ∧ P9 ∧ P10) := by
 by_cases h0 : P0
 rotate_left
 ·exact .inl h0
 by_cases h1 : P1
 rotate_left
 ·exact .inr (.inl ⟨h0, h1⟩)
 by_cases h2 : P2
 rotate_left
 ·exact .inr (.inr (.inl ⟨h0, h1, h2⟩))
 by_cases h3 : P3
 rotate_left
 ·exact .inr (.inr (.inr (.inl ⟨h0, h1, h2, h3⟩)))
 by_cases h4 : P4
 rotate_left
 ·exact .inr (.inr (.inr (.inr (.inl ⟨h0, h1, h2, h3, h4⟩))))
 by_cases h5 : P5
 rotate_left
 ·exact .inr (.inr (.inr (.inr (.inr (.inl ⟨h0, h1, h2, h3, h4, h5⟩)))))
 by_cases h6 : P6
 rotate_left
 ·exact .inr (.inr (.inr (.inr (.inr (.inr (.inl ⟨h0, h1, h2, h3, h4, h5, h6⟩))))))
 by_cases h7 : P7
 rotate_left
 ·exact .inr (.inr (.inr (.inr (.inr (.inr (.inr (.inl ⟨h0, h1, h2, h3, h4, h5, h6, h7⟩)))))))
 by_cases h8 : P8
 rotate_left
 ·exact .inr (.inr (.inr (.inr (.inr (.inr (.inr (.inr (.inl ⟨h0, h1, h2, h3, h4, h5, h6, h7, h8⟩))))))))
 by_cases h9 : P9
 rotate_left
 ·exact .inr (.inr (.inr (.inr (.inr (.inr (.inr (.inr (.inr (.inl ⟨h0, h1, h2, h3, h4, h5, h6, h7, h8, h9⟩)))))))))
 by_cases h10 : P10
 rotate_left
 ·exact .inr (.inr (.inr (.inr (.inr (.inr (.inr (.inr (.inr (.inr (.inl ⟨h0, h1, h2, h3, h4, h5, h6, h7, h8, h9, h10⟩))))))))))
 exact .inr (.inr (.inr (.inr (.inr (.inr (.inr (.inr (.inr (.inr (.inr ⟨h0, h1, h2, h3, h4, h5, h6, h7, h8, h9, h10⟩))))))))))
theorem one_el {c b : UInt8} {j : Nat} (h : [c][j]? = some b) : (([c] : List UInt8).map V8).toArray[j]? = some (V8 b) := by
 rcases j with _ | j
 ·have : c = b := by simpa using h
  subst this; rfl
 ·simp at h
theorem numB_nil {n : Int} : numB n ≠ [] ↔ mayN n := by
 constructor
 ·intro h
  by_cases hn : mayN n
  ·exact hn
  ·exact absurd (by unfold numB; rw [if_neg hn]) h
 ·exact numB_ne
theorem may_eq (m : M) : (0 ≤ m.k ∧ m.k ≤ 9 ∧ -1 ≤ m.f ∧ m.f ≤ 15 ∧ -1 ≤ m.t ∧ m.t ≤ 15 ∧ numB m.j ≠ [] ∧ numB m.ep ≠ [] ∧ numB m.st ≠ [] ∧ numB m.ar ≠ [] ∧ (m.tx.length : Int) ≤ 4096) ↔ mayM m := by
 simp only [numB_nil]
 unfold mayM
 constructor
 ·rintro ⟨q0, q1, q2, q3, q4, q5, q6, q7, q8, q9, q10⟩
  exact ⟨q0, by omega, ⟨q2, by omega⟩, ⟨q4, by omega⟩, q6, q7, q8, q9, q10⟩
 ·rintro ⟨q0, q1, q2, q3, q4, q5, q6, q7, q8⟩
  exact ⟨q0, by omega, q2.1, by omega, q3.1, by omega, q4, q5, q6, q7, q8⟩
theorem high_c {cs : List Res} (w : World) (m : Nat) (h : St W F cs w) (hm : m ≤ 1099511627776) : Calls prog 122 #[Vi (m : Int)] w fun r w' => r = .returned (.string (bs (hi m))) ∧ St W F cs w'  := by
 refine enter (args := [Vi (m : Int)]) func122 rfl rfl rfl<|Wi<|WL.e 1 rfl<|We<|WL.e 1 rfl<|Wb<|WC.block<|WC.lp (σ := Nat × List UInt8) (fun q_ => [(0, Vi (q_.1 : Int)), (3, .string (bs q_.2))]) (fun q_ w => q_.1 ≤ m ∧ hi m = hi q_.1 ++ q_.2 ∧ q_.2.length ≤ (hi m).length ∧ St W F cs w) (fun q_ => q_.1) (⟨m, []⟩) (⟨Nat.le_refl _, by simp, by simp, h⟩) ?_
 rintro ⟨n, s⟩ w1 ⟨hn, he, hs, hL⟩
 try dsimp only at hn he hs hL
 refine O2 [(0, Vi (n : Int)), (3, .string (bs s))]<|L0<|Wi<|WL.e 1 rfl<|C0 (X1 rfl rfl) rfl<|Wa<|U0 rfl (fun c2 => ?_) (fun c2 => ?_)
 ·try simp only [DD] at c2
  refine O0<|H0<|WC.block<|Wi<|WL.e 1 rfl<|C0 (Runs.remn (m := (n : Int)) (n := 256) rfl rfl (by omega) (by omega)) rfl<|C0 (R4 underlying3 underlying5 (m := n % 256) rfl (by omega)) rfl<|WL.lit (vs := (([UInt8.ofNat (n % 256)] : List UInt8)).map V8) hL rfl underlying120 inf5 rfl rfl rfl rfl rfl fun lit9 w3 h3=>C0 (L1 (u := .string (bs [UInt8.ofNat (n % 256)])) (Y4 underlying120 underlying5 underlying9 rfl rfl (bs := [UInt8.ofNat (n % 256)]) (.inr ⟨_, rfl, fun j b hb => by rw [add_mk, Nat.zero_add]; exact h3.ocell (i := 0) rfl (one_el hb)⟩)) rfl) rfl<|WL.e 1 rfl<|C0 (Y2 (a := [UInt8.ofNat (n % 256)]) (b := s) rfl rfl (by have := hi_six hm; simp; omega)) rfl<|WL.e 1 rfl<|Wf<|WL.e 1 rfl<|C0 (N0 (n := ((n / 256 : Nat) : Int)) (Runs.quon (m := (n : Int)) (n := 256) rfl rfl (by omega) (by omega)) (by omega)) rfl<|WL.e 1 rfl<|WL.nil<|WN.blk<|X0 (⟨n / 256, UInt8.ofNat (n % 256) :: s⟩ : Nat × List UInt8) (by show n / 256 < n; omega) ⟨rfl, rfl, trivial⟩ ⟨by show n / 256 ≤ m; omega, ?_, ?_, h3.drop 0⟩
  ·show hi m = hi (n / 256) ++ (UInt8.ofNat (n % 256) :: s)
   rw [he, hi_s (n := n) (by omega), show UInt8.ofNat (n % 256) = UInt8.ofNat n from UInt8.toNat_inj.1 (by rw [UInt8.toNat_ofNat', UInt8.toNat_ofNat']; omega)]
   simp
  ·show (UInt8.ofNat (n % 256) :: s).length ≤ _
   rw [he, hi_s (n := n) (by omega)]
   simp
 ·try simp only [DD] at c2
  refine WC.exit<|Q1<|WX.cut<|S1<|H0<|Wi<|WL.e 2 rfl<|WL.nil (H0 (I1 ?_))
  obtain rfl : n = 0 := by omega
  refine ret1 rfl rfl ⟨?_, hL⟩
  rw [he, hi_0]; rfl
theorem rnum_no {cs : List Res} (w : World) (n : Int) (h : St W F cs w) (hn : ¬ mayN n) : Calls prog 80 #[Vi n] w fun r w' => r = .returned (.string (bs (numB n))) ∧ St W F cs w'  := by
 refine enter (args := [Vi n]) func80 rfl rfl rfl<|Wi<|WL.e 1 rfl<|WL.nil (H0 (L0 (L0 ?_)))
 have hcase : n < 0 ∨ (0 ≤ n ∧ 1099511627776 < n) := by unfold mayN at hn; omega
 rcases hcase with hA | hB
 ·skip
  refine K0<|WL.e 1 rfl<|C0 (Bt (N1 rfl rfl) (by rw [decide_eq_true_eq]; omega)) rfl<|WL.e 4 rfl<|Wa<|B1 rfl (rfl)<|Wi<|WL.e 1 rfl<|Wg<|ret1 rfl rfl ⟨?_, h⟩
  rw [numB, if_neg hn]; rfl
 ·skip
  refine K0<|WL.e 1 rfl<|C0 (Bf (N1 rfl rfl) (by rw [decide_eq_false_iff_not]; omega)) rfl<|WL.e 2 rfl<|WL.gn rfl<|C0 (Bt (X1 rfl rfl) (by rw [decide_eq_true_eq]; omega)) rfl<|WL.e 1 rfl<|Wa<|B1 rfl (rfl)<|Wi<|WL.e 1 rfl<|Wg<|ret1 rfl rfl ⟨?_, h⟩
  rw [numB, if_neg hn]; rfl
theorem rnum_y {cs : List Res} (w : World) (m : Nat) (h : St W F cs w) (hm : m ≤ 1099511627776) : Calls prog 80 #[Vi (m : Int)] w fun r w' => r = .returned (.string (bs (numN m))) ∧ St W F cs w'  := by
 refine enter (args := [Vi (m : Int)]) func80 rfl rfl rfl<|Wi<|WL.e 1 rfl<|Wh<|WL.e 1 rfl<|C0 (Bf (N1 rfl rfl) (by rw [decide_eq_false_iff_not]; omega)) rfl<|WL.e 2 rfl<|WL.gn rfl<|C0 (Bf (X1 rfl rfl) (by rw [decide_eq_false_iff_not]; omega)) rfl<|WL.e 1 rfl<|Wa<|V0 rfl (rfl)<|Wk<|WL.e 1 rfl<|WL.cv can122 rfl rfl (high_c _ m h hm) fun w1 h1 =>WL.e 1 rfl<|We<|WL.e 1 rfl<|C0 (N0 (n := ((hi m).length : Int)) (N2 underlying9 rfl rfl) rfl) rfl<|C0 (R4 underlying3 underlying5 (m := (hi m).length) rfl rfl) rfl<|WL.lit (vs := (([UInt8.ofNat (hi m).length] : List UInt8)).map V8) h1 rfl underlying120 inf5 rfl rfl rfl rfl rfl fun lit15 w2 h2=>C0 (L1 (u := .string (bs [UInt8.ofNat (hi m).length])) (Y4 underlying120 underlying5 underlying9 rfl rfl (bs := [UInt8.ofNat (hi m).length]) (.inr ⟨_, rfl, fun j b hb => by rw [add_mk, Nat.zero_add]; exact h2.ocell (i := 0) rfl (one_el hb)⟩)) rfl) rfl<|WL.e 1 rfl<|C0 (Y2 (a := [UInt8.ofNat (hi m).length]) (b := hi m) rfl rfl (by have := hi_six hm; simp; omega)) rfl<|WL.e 1 rfl<|Wg<|ret1 rfl rfl ⟨rfl, h2.drop 0⟩
theorem rnum_c {cs : List Res} (w : World) (n : Int) (h : St W F cs w) : Calls prog 80 #[Vi n] w fun r w' => r = .returned (.string (bs (numB n))) ∧ St W F cs w' := by
 by_cases hn : mayN n
 ·have e : n = ((n.toNat : Nat) : Int) := by have := hn.1; omega
  have h2 := hn.2
  rw [numB, if_pos hn]
  have := rnum_y w n.toNat h (by omega)
  rwa [← e] at this
 ·exact rnum_no w n h hn
theorem rtext_c {cs : List Res} (w : World) (l : List UInt8) (h : St W F cs w) (hl : l.length ≤ 100000) : Calls prog 104 #[.string (bs l)] w fun r w' => r = .returned (.string (bs (textB l))) ∧ St W F cs w'  := by
 refine enter (args := [.string (bs l)]) func104 rfl rfl rfl<|Wi<|WL.e 1 rfl<|Wh<|WL.e 1 rfl<|C0 (N0 (n := (l.length : Int)) (N2 underlying9 rfl rfl) rfl) rfl<|C0 (X1 rfl rfl) rfl<|Wa<|U0 rfl (fun c1 => ?_) (fun c1 => ?_)
 ·try simp only [DD] at c1
  refine Wi<|WL.e 1 rfl<|Wg<|ret1 rfl rfl ⟨?_, h⟩
  unfold textB
  rw [if_pos (by omega)]; rfl
 ·try simp only [DD] at c1
  refine Wk<|WL.e 1 rfl<|C0 (N0 (n := (l.length : Int)) (N2 underlying9 rfl rfl) rfl) rfl<|WL.cv can80 rfl rfl (rnum_c _ _ h) fun w2 h2 =>WL.e 1 rfl<|C0 (Y2 rfl rfl (by have := numB_len (l.length : Int); omega)) rfl<|WL.e 1 rfl<|Wg<|ret1 rfl rfl ⟨?_, h2⟩
  unfold textB
  rw [if_neg (by omega)]
theorem rmay_c {cs : List Res} (w : World) (m : M) (h : St W F cs w) : Calls prog 37 #[m.val] w fun r w' => r = .returned (.bool (decide (mayM m))) ∧ St W F cs w'  := by
 refine enter (args := [.agg #[Vi m.k, Vi m.f, Vi m.t, Vi m.j, Vi m.ep, Vi m.st, Vi m.ar, .string (bs m.tx)]]) func37 rfl rfl rfl<|Wi<|WL.box rfl h rfl fun b1 w1 h1=>WL.e 1 rfl<|WL.nil (H0 (L0 ?_))
 rcases conj11 (0 ≤ m.k) (m.k ≤ 9) (-1 ≤ m.f) (m.f ≤ 15) (-1 ≤ m.t) (m.t ≤ 15) (numB m.j ≠ []) (numB m.ep ≠ []) (numB m.st ≠ []) (numB m.ar ≠ []) ((m.tx.length : Int) ≤ 4096) with q0 | ⟨q0, q1⟩ | ⟨q0, q1, q2⟩ | ⟨q0, q1, q2, q3⟩ | ⟨q0, q1, q2, q3, q4⟩ | ⟨q0, q1, q2, q3, q4, q5⟩ | ⟨q0, q1, q2, q3, q4, q5, q6⟩ | ⟨q0, q1, q2, q3, q4, q5, q6, q7⟩ | ⟨q0, q1, q2, q3, q4, q5, q6, q7, q8⟩ | ⟨q0, q1, q2, q3, q4, q5, q6, q7, q8, q9⟩ | ⟨q0, q1, q2, q3, q4, q5, q6, q7, q8, q9, q10⟩ | ⟨q0, q1, q2, q3, q4, q5, q6, q7, q8, q9, q10⟩
 ·skip
  refine K0<|W0 h1 [0] 2 rfl<|C0 (Bf (Z0 rfl rfl) (decide_eq_false q0)) rfl<|WL.e 56 rfl<|Wg<|ret1 rfl rfl ⟨?_, h1.drop 0⟩
  rw [decide_eq_false (fun hm => q0 ((may_eq m).2 hm).1)]; rfl
 ·skip
  refine K0<|W0 h1 [0] 2 rfl<|C0 (Bt (Z0 rfl rfl) (decide_eq_true q0)) rfl<|W0 h1 [0] 3 rfl<|WL.gn rfl<|C0 (Bf (J1 rfl rfl) (decide_eq_false q1)) rfl<|WL.e 52 rfl<|Wg<|ret1 rfl rfl ⟨?_, h1.drop 0⟩
  rw [decide_eq_false (fun hm => q1 ((may_eq m).2 hm).2.1)]; rfl
 ·skip
  refine K0<|W0 h1 [0] 2 rfl<|C0 (Bt (Z0 rfl rfl) (decide_eq_true q0)) rfl<|W0 h1 [0] 3 rfl<|WL.gn rfl<|C0 (Bt (J1 rfl rfl) (decide_eq_true q1)) rfl<|W0 h1 [0] 4 rfl<|WL.gn rfl<|C0 (Bf (Z0 rfl rfl) (decide_eq_false q2)) rfl<|WL.e 47 rfl<|Wg<|ret1 rfl rfl ⟨?_, h1.drop 0⟩
  rw [decide_eq_false (fun hm => q2 ((may_eq m).2 hm).2.2.1)]; rfl
 ·skip
  refine K0<|W0 h1 [0] 2 rfl<|C0 (Bt (Z0 rfl rfl) (decide_eq_true q0)) rfl<|W0 h1 [0] 3 rfl<|WL.gn rfl<|C0 (Bt (J1 rfl rfl) (decide_eq_true q1)) rfl<|W0 h1 [0] 4 rfl<|WL.gn rfl<|C0 (Bt (Z0 rfl rfl) (decide_eq_true q2)) rfl<|W0 h1 [0] 4 rfl<|WL.gn rfl<|C0 (Bf (J1 rfl rfl) (decide_eq_false q3)) rfl<|WL.e 42 rfl<|Wg<|ret1 rfl rfl ⟨?_, h1.drop 0⟩
  rw [decide_eq_false (fun hm => q3 ((may_eq m).2 hm).2.2.2.1)]; rfl
 ·skip
  refine K0<|W0 h1 [0] 2 rfl<|C0 (Bt (Z0 rfl rfl) (decide_eq_true q0)) rfl<|W0 h1 [0] 3 rfl<|WL.gn rfl<|C0 (Bt (J1 rfl rfl) (decide_eq_true q1)) rfl<|W0 h1 [0] 4 rfl<|WL.gn rfl<|C0 (Bt (Z0 rfl rfl) (decide_eq_true q2)) rfl<|W0 h1 [0] 4 rfl<|WL.gn rfl<|C0 (Bt (J1 rfl rfl) (decide_eq_true q3)) rfl<|W0 h1 [0] 4 rfl<|WL.gn rfl<|C0 (Bf (Z0 rfl rfl) (decide_eq_false q4)) rfl<|WL.e 37 rfl<|Wg<|ret1 rfl rfl ⟨?_, h1.drop 0⟩
  rw [decide_eq_false (fun hm => q4 ((may_eq m).2 hm).2.2.2.2.1)]; rfl
 ·skip
  refine K0<|W0 h1 [0] 2 rfl<|C0 (Bt (Z0 rfl rfl) (decide_eq_true q0)) rfl<|W0 h1 [0] 3 rfl<|WL.gn rfl<|C0 (Bt (J1 rfl rfl) (decide_eq_true q1)) rfl<|W0 h1 [0] 4 rfl<|WL.gn rfl<|C0 (Bt (Z0 rfl rfl) (decide_eq_true q2)) rfl<|W0 h1 [0] 4 rfl<|WL.gn rfl<|C0 (Bt (J1 rfl rfl) (decide_eq_true q3)) rfl<|W0 h1 [0] 4 rfl<|WL.gn rfl<|C0 (Bt (Z0 rfl rfl) (decide_eq_true q4)) rfl<|W0 h1 [0] 4 rfl<|WL.gn rfl<|C0 (Bf (J1 rfl rfl) (decide_eq_false q5)) rfl<|WL.e 32 rfl<|Wg<|ret1 rfl rfl ⟨?_, h1.drop 0⟩
  rw [decide_eq_false (fun hm => q5 ((may_eq m).2 hm).2.2.2.2.2.1)]; rfl
 ·skip
  refine K0<|W0 h1 [0] 2 rfl<|C0 (Bt (Z0 rfl rfl) (decide_eq_true q0)) rfl<|W0 h1 [0] 3 rfl<|WL.gn rfl<|C0 (Bt (J1 rfl rfl) (decide_eq_true q1)) rfl<|W0 h1 [0] 4 rfl<|WL.gn rfl<|C0 (Bt (Z0 rfl rfl) (decide_eq_true q2)) rfl<|W0 h1 [0] 4 rfl<|WL.gn rfl<|C0 (Bt (J1 rfl rfl) (decide_eq_true q3)) rfl<|W0 h1 [0] 4 rfl<|WL.gn rfl<|C0 (Bt (Z0 rfl rfl) (decide_eq_true q4)) rfl<|W0 h1 [0] 4 rfl<|WL.gn rfl<|C0 (Bt (J1 rfl rfl) (decide_eq_true q5)) rfl<|W0 h1 [0] 4 rfl<|WL.gn rfl<|WL.cv can80 rfl rfl (rnum_c _ _ h1) fun w2 h2 =>WL.gn rfl<|C0 (Bf (U2 (b := []) rfl rfl) (by rw [decide_eq_true (Classical.not_not.1 q6)]; rfl)) rfl<|WL.e 26 rfl<|Wg<|ret1 rfl rfl ⟨?_, h2.drop 0⟩
  rw [decide_eq_false (fun hm => q6 ((may_eq m).2 hm).2.2.2.2.2.2.1)]; rfl
 ·skip
  refine K0<|W0 h1 [0] 2 rfl<|C0 (Bt (Z0 rfl rfl) (decide_eq_true q0)) rfl<|W0 h1 [0] 3 rfl<|WL.gn rfl<|C0 (Bt (J1 rfl rfl) (decide_eq_true q1)) rfl<|W0 h1 [0] 4 rfl<|WL.gn rfl<|C0 (Bt (Z0 rfl rfl) (decide_eq_true q2)) rfl<|W0 h1 [0] 4 rfl<|WL.gn rfl<|C0 (Bt (J1 rfl rfl) (decide_eq_true q3)) rfl<|W0 h1 [0] 4 rfl<|WL.gn rfl<|C0 (Bt (Z0 rfl rfl) (decide_eq_true q4)) rfl<|W0 h1 [0] 4 rfl<|WL.gn rfl<|C0 (Bt (J1 rfl rfl) (decide_eq_true q5)) rfl<|W0 h1 [0] 4 rfl<|WL.gn rfl<|WL.cv can80 rfl rfl (rnum_c _ _ h1) fun w3 h3 =>WL.gn rfl<|C0 (Bt (U2 (b := []) rfl rfl) (by rw [decide_eq_false q6]; rfl)) rfl<|W0 h3 [0] 4 rfl<|WL.gn rfl<|WL.cv can80 rfl rfl (rnum_c _ _ h3) fun w4 h4 =>WL.gn rfl<|C0 (Bf (U2 (b := []) rfl rfl) (by rw [decide_eq_true (Classical.not_not.1 q7)]; rfl)) rfl<|WL.e 20 rfl<|Wg<|ret1 rfl rfl ⟨?_, h4.drop 0⟩
  rw [decide_eq_false (fun hm => q7 ((may_eq m).2 hm).2.2.2.2.2.2.2.1)]; rfl
 ·skip
  refine K0<|W0 h1 [0] 2 rfl<|C0 (Bt (Z0 rfl rfl) (decide_eq_true q0)) rfl<|W0 h1 [0] 3 rfl<|WL.gn rfl<|C0 (Bt (J1 rfl rfl) (decide_eq_true q1)) rfl<|W0 h1 [0] 4 rfl<|WL.gn rfl<|C0 (Bt (Z0 rfl rfl) (decide_eq_true q2)) rfl<|W0 h1 [0] 4 rfl<|WL.gn rfl<|C0 (Bt (J1 rfl rfl) (decide_eq_true q3)) rfl<|W0 h1 [0] 4 rfl<|WL.gn rfl<|C0 (Bt (Z0 rfl rfl) (decide_eq_true q4)) rfl<|W0 h1 [0] 4 rfl<|WL.gn rfl<|C0 (Bt (J1 rfl rfl) (decide_eq_true q5)) rfl<|W0 h1 [0] 4 rfl<|WL.gn rfl<|WL.cv can80 rfl rfl (rnum_c _ _ h1) fun w5 h5 =>WL.gn rfl<|C0 (Bt (U2 (b := []) rfl rfl) (by rw [decide_eq_false q6]; rfl)) rfl<|W0 h5 [0] 4 rfl<|WL.gn rfl<|WL.cv can80 rfl rfl (rnum_c _ _ h5) fun w6 h6 =>WL.gn rfl<|C0 (Bt (U2 (b := []) rfl rfl) (by rw [decide_eq_false q7]; rfl)) rfl<|W0 h6 [0] 4 rfl<|WL.gn rfl<|WL.cv can80 rfl rfl (rnum_c _ _ h6) fun w7 h7 =>WL.gn rfl<|C0 (Bf (U2 (b := []) rfl rfl) (by rw [decide_eq_true (Classical.not_not.1 q8)]; rfl)) rfl<|WL.e 14 rfl<|Wg<|ret1 rfl rfl ⟨?_, h7.drop 0⟩
  rw [decide_eq_false (fun hm => q8 ((may_eq m).2 hm).2.2.2.2.2.2.2.2.1)]; rfl
 ·skip
  refine K0<|W0 h1 [0] 2 rfl<|C0 (Bt (Z0 rfl rfl) (decide_eq_true q0)) rfl<|W0 h1 [0] 3 rfl<|WL.gn rfl<|C0 (Bt (J1 rfl rfl) (decide_eq_true q1)) rfl<|W0 h1 [0] 4 rfl<|WL.gn rfl<|C0 (Bt (Z0 rfl rfl) (decide_eq_true q2)) rfl<|W0 h1 [0] 4 rfl<|WL.gn rfl<|C0 (Bt (J1 rfl rfl) (decide_eq_true q3)) rfl<|W0 h1 [0] 4 rfl<|WL.gn rfl<|C0 (Bt (Z0 rfl rfl) (decide_eq_true q4)) rfl<|W0 h1 [0] 4 rfl<|WL.gn rfl<|C0 (Bt (J1 rfl rfl) (decide_eq_true q5)) rfl<|W0 h1 [0] 4 rfl<|WL.gn rfl<|WL.cv can80 rfl rfl (rnum_c _ _ h1) fun w8 h8 =>WL.gn rfl<|C0 (Bt (U2 (b := []) rfl rfl) (by rw [decide_eq_false q6]; rfl)) rfl<|W0 h8 [0] 4 rfl<|WL.gn rfl<|WL.cv can80 rfl rfl (rnum_c _ _ h8) fun w9 h9 =>WL.gn rfl<|C0 (Bt (U2 (b := []) rfl rfl) (by rw [decide_eq_false q7]; rfl)) rfl<|W0 h9 [0] 4 rfl<|WL.gn rfl<|WL.cv can80 rfl rfl (rnum_c _ _ h9) fun w10 h10 =>WL.gn rfl<|C0 (Bt (U2 (b := []) rfl rfl) (by rw [decide_eq_false q8]; rfl)) rfl<|W0 h10 [0] 4 rfl<|WL.gn rfl<|WL.cv can80 rfl rfl (rnum_c _ _ h10) fun w11 h11 =>WL.gn rfl<|C0 (Bf (U2 (b := []) rfl rfl) (by rw [decide_eq_true (Classical.not_not.1 q9)]; rfl)) rfl<|WL.e 8 rfl<|Wg<|ret1 rfl rfl ⟨?_, h11.drop 0⟩
  rw [decide_eq_false (fun hm => q9 ((may_eq m).2 hm).2.2.2.2.2.2.2.2.2.1)]; rfl
 ·skip
  refine K0<|W0 h1 [0] 2 rfl<|C0 (Bt (Z0 rfl rfl) (decide_eq_true q0)) rfl<|W0 h1 [0] 3 rfl<|WL.gn rfl<|C0 (Bt (J1 rfl rfl) (decide_eq_true q1)) rfl<|W0 h1 [0] 4 rfl<|WL.gn rfl<|C0 (Bt (Z0 rfl rfl) (decide_eq_true q2)) rfl<|W0 h1 [0] 4 rfl<|WL.gn rfl<|C0 (Bt (J1 rfl rfl) (decide_eq_true q3)) rfl<|W0 h1 [0] 4 rfl<|WL.gn rfl<|C0 (Bt (Z0 rfl rfl) (decide_eq_true q4)) rfl<|W0 h1 [0] 4 rfl<|WL.gn rfl<|C0 (Bt (J1 rfl rfl) (decide_eq_true q5)) rfl<|W0 h1 [0] 4 rfl<|WL.gn rfl<|WL.cv can80 rfl rfl (rnum_c _ _ h1) fun w12 h12 =>WL.gn rfl<|C0 (Bt (U2 (b := []) rfl rfl) (by rw [decide_eq_false q6]; rfl)) rfl<|W0 h12 [0] 4 rfl<|WL.gn rfl<|WL.cv can80 rfl rfl (rnum_c _ _ h12) fun w13 h13 =>WL.gn rfl<|C0 (Bt (U2 (b := []) rfl rfl) (by rw [decide_eq_false q7]; rfl)) rfl<|W0 h13 [0] 4 rfl<|WL.gn rfl<|WL.cv can80 rfl rfl (rnum_c _ _ h13) fun w14 h14 =>WL.gn rfl<|C0 (Bt (U2 (b := []) rfl rfl) (by rw [decide_eq_false q8]; rfl)) rfl<|W0 h14 [0] 4 rfl<|WL.gn rfl<|WL.cv can80 rfl rfl (rnum_c _ _ h14) fun w15 h15 =>WL.gn rfl<|C0 (Bt (U2 (b := []) rfl rfl) (by rw [decide_eq_false q9]; rfl)) rfl<|W0 h15 [0] 4 rfl<|WL.gn rfl<|C0 (N0 (n := (m.tx.length : Int)) (N2 underlying9 rfl rfl) rfl) rfl<|WL.gn rfl<|C0 (Bf (J1 rfl rfl) (decide_eq_false q10)) rfl<|WL.e 2 rfl<|Wg<|ret1 rfl rfl ⟨?_, h15.drop 0⟩
  rw [decide_eq_false (fun hm => q10 ((may_eq m).2 hm).2.2.2.2.2.2.2.2.2.2)]; rfl
 ·skip
  refine K0<|W0 h1 [0] 2 rfl<|C0 (Bt (Z0 rfl rfl) (decide_eq_true q0)) rfl<|W0 h1 [0] 3 rfl<|WL.gn rfl<|C0 (Bt (J1 rfl rfl) (decide_eq_true q1)) rfl<|W0 h1 [0] 4 rfl<|WL.gn rfl<|C0 (Bt (Z0 rfl rfl) (decide_eq_true q2)) rfl<|W0 h1 [0] 4 rfl<|WL.gn rfl<|C0 (Bt (J1 rfl rfl) (decide_eq_true q3)) rfl<|W0 h1 [0] 4 rfl<|WL.gn rfl<|C0 (Bt (Z0 rfl rfl) (decide_eq_true q4)) rfl<|W0 h1 [0] 4 rfl<|WL.gn rfl<|C0 (Bt (J1 rfl rfl) (decide_eq_true q5)) rfl<|W0 h1 [0] 4 rfl<|WL.gn rfl<|WL.cv can80 rfl rfl (rnum_c _ _ h1) fun w16 h16 =>WL.gn rfl<|C0 (Bt (U2 (b := []) rfl rfl) (by rw [decide_eq_false q6]; rfl)) rfl<|W0 h16 [0] 4 rfl<|WL.gn rfl<|WL.cv can80 rfl rfl (rnum_c _ _ h16) fun w17 h17 =>WL.gn rfl<|C0 (Bt (U2 (b := []) rfl rfl) (by rw [decide_eq_false q7]; rfl)) rfl<|W0 h17 [0] 4 rfl<|WL.gn rfl<|WL.cv can80 rfl rfl (rnum_c _ _ h17) fun w18 h18 =>WL.gn rfl<|C0 (Bt (U2 (b := []) rfl rfl) (by rw [decide_eq_false q8]; rfl)) rfl<|W0 h18 [0] 4 rfl<|WL.gn rfl<|WL.cv can80 rfl rfl (rnum_c _ _ h18) fun w19 h19 =>WL.gn rfl<|C0 (Bt (U2 (b := []) rfl rfl) (by rw [decide_eq_false q9]; rfl)) rfl<|W0 h19 [0] 4 rfl<|WL.gn rfl<|C0 (N0 (n := (m.tx.length : Int)) (N2 underlying9 rfl rfl) rfl) rfl<|WL.gn rfl<|C0 (Bt (J1 rfl rfl) (decide_eq_true q10)) rfl<|WL.e 2 rfl<|Wg<|ret1 rfl rfl ⟨?_, h19.drop 0⟩
  rw [decide_eq_true ((may_eq m).1 ⟨q0, q1, q2, q3, q4, q5, q6, q7, q8, q9, q10⟩)]; rfl
theorem renc_c {cs : List Res} (w : World) (m : M) (h : St W F cs w) (hl : m.tx.length ≤ 100000) : Calls prog 61 #[m.val] w fun r w' => r = .returned (.string (bs (encB m))) ∧ St W F cs w'  := by
 refine enter (args := [.agg #[Vi m.k, Vi m.f, Vi m.t, Vi m.j, Vi m.ep, Vi m.st, Vi m.ar, .string (bs m.tx)]]) func61 rfl rfl rfl<|Wi<|WL.box rfl h rfl fun b1 w1 h1=>WL.e 1 rfl<|WL.nil (H0 (L0 (L0 ?_)))
 by_cases hmy : mayM m
 ·skip
  refine K0<|C0 (E2 h1 0 rfl underlying42 rfl inf42 rfl rfl) rfl<|WL.cv can37 rfl rfl (rmay_c _ m h1) fun w2 h2 =>WL.e 1 rfl<|Wa<|V0 rfl ((by rw [decide_eq_true hmy]; rfl))<|O0 (H0 (L0 ?_))
  have hmy2 := hmy
  obtain ⟨q0, q1, q2, q3, q4, q5, q6, q7, q8⟩ := hmy2
  refine I4 h2 (fun s_ => ([] : List Nat).any (Nat.beq s_)) mixed (by kernel_rfl)<|fun hx =>fun w3 h3=>K3 hx 12 [1, 4] [0, 3, 8, 13, 17, 21, 25, 29, 1, 4] [0, 0] rfl<|R2 hx 5 (by rfl) (fun w_ => Q0 rfl rfl (by omega)) rfl<|K3 hx 12 [9] [9] [0] rfl<|R2 hx 10 (by rfl) (fun w_ => Q0 rfl rfl (by omega)) rfl<|K3 hx 12 [14, 18, 22, 26, 30] [14, 18, 22, 26, 30] [0, 0, 0, 0, 0] rfl<|WE.op (.inr h3) (i := 2) (by rfl) (by kernel_rfl)<|WL.cv can80 rfl rfl (rnum_c _ _ h3) fun w4 h4 =>WL.nil<|U1<|WE.op (.inr h4) (i := 6) (by rfl) (by kernel_rfl)<|WL.cv can80 rfl rfl (rnum_c _ _ h4) fun w5 h5 =>WL.nil<|U1<|R2 hx 7 (by rfl) (fun w_ => Y2 rfl rfl (by have := text_len hl; have := numB_len m.k; have := numB_len (m.f + 1); have := numB_len (m.t + 1); have := numB_len m.j; have := numB_len m.ep; have := numB_len m.st; have := numB_len m.ar; (try simp only [List.length_append]); omega)) rfl<|WE.op (.inr h5) (i := 11) (by rfl) (by kernel_rfl)<|WL.cv can80 rfl rfl (rnum_c _ _ h5) fun w6 h6 =>WL.nil<|U1<|R2 hx 12 (by rfl) (fun w_ => Y2 rfl rfl (by have := text_len hl; have := numB_len m.k; have := numB_len (m.f + 1); have := numB_len (m.t + 1); have := numB_len m.j; have := numB_len m.ep; have := numB_len m.st; have := numB_len m.ar; (try simp only [List.length_append]); omega)) rfl<|WE.op (.inr h6) (i := 15) (by rfl) (by kernel_rfl)<|WL.cv can80 rfl rfl (rnum_c _ _ h6) fun w7 h7 =>WL.nil<|U1<|R2 hx 16 (by rfl) (fun w_ => Y2 rfl rfl (by have := text_len hl; have := numB_len m.k; have := numB_len (m.f + 1); have := numB_len (m.t + 1); have := numB_len m.j; have := numB_len m.ep; have := numB_len m.st; have := numB_len m.ar; (try simp only [List.length_append]); omega)) rfl<|WE.op (.inr h7) (i := 19) (by rfl) (by kernel_rfl)<|WL.cv can80 rfl rfl (rnum_c _ _ h7) fun w8 h8 =>WL.nil<|U1<|R2 hx 20 (by rfl) (fun w_ => Y2 rfl rfl (by have := text_len hl; have := numB_len m.k; have := numB_len (m.f + 1); have := numB_len (m.t + 1); have := numB_len m.j; have := numB_len m.ep; have := numB_len m.st; have := numB_len m.ar; (try simp only [List.length_append]); omega)) rfl<|WE.op (.inr h8) (i := 23) (by rfl) (by kernel_rfl)<|WL.cv can80 rfl rfl (rnum_c _ _ h8) fun w9 h9 =>WL.nil<|U1<|R2 hx 24 (by rfl) (fun w_ => Y2 rfl rfl (by have := text_len hl; have := numB_len m.k; have := numB_len (m.f + 1); have := numB_len (m.t + 1); have := numB_len m.j; have := numB_len m.ep; have := numB_len m.st; have := numB_len m.ar; (try simp only [List.length_append]); omega)) rfl<|WE.op (.inr h9) (i := 27) (by rfl) (by kernel_rfl)<|WL.cv can80 rfl rfl (rnum_c _ _ h9) fun w10 h10 =>WL.nil<|U1<|R2 hx 28 (by rfl) (fun w_ => Y2 rfl rfl (by have := text_len hl; have := numB_len m.k; have := numB_len (m.f + 1); have := numB_len (m.t + 1); have := numB_len m.j; have := numB_len m.ep; have := numB_len m.st; have := numB_len m.ar; (try simp only [List.length_append]); omega)) rfl<|WE.op (.inr h10) (i := 31) (by rfl) (by kernel_rfl)<|WL.cv can104 rfl rfl (rtext_c _ _ h10 hl) fun w11 h11 =>WL.nil<|U1<|R2 hx 32 (by rfl) (fun w_ => Y2 rfl rfl (by have := text_len hl; have := numB_len m.k; have := numB_len (m.f + 1); have := numB_len (m.t + 1); have := numB_len m.j; have := numB_len m.ep; have := numB_len m.st; have := numB_len m.ar; (try simp only [List.length_append]); omega)) rfl<|WE.e hx [33] rfl<|WE.fin (.inr h11) (by kernel_rfl)<|H0<|I1<|ret1 rfl rfl ⟨?_, h11.drop 0⟩
  unfold encB
  rw [if_pos hmy]
  simp [numsM]
 ·skip
  refine K0<|C0 (E2 h1 0 rfl underlying42 rfl inf42 rfl rfl) rfl<|WL.cv can37 rfl rfl (rmay_c _ m h1) fun w12 h12 =>WL.e 1 rfl<|Wa<|B1 rfl ((by rw [decide_eq_false hmy]; rfl))<|Wi<|WL.e 1 rfl<|Wg<|ret1 rfl rfl ⟨?_, h12.drop 0⟩
  unfold encB
  rw [if_neg hmy]; rfl
theorem dig_at {l : List UInt8} {p k : Nat} (hk : k < szB l p) : (dig l p).getD k 0 = l.getD (p + 1 + k) 0 := by
 unfold dig
 rw [List.getD_eq_getElem?_getD, List.getElem?_take, if_pos hk, List.getElem?_drop, ← List.getD_eq_getElem?_getD]
theorem qnum_c {cs : List Res} (w : World) {i rb : Nat} {p : Nat} {l : List UInt8} {e : Int} (h : St W F cs w) (hi : cs[i]? = some [(rb, .cells #[.string (bs l), Vi p, Vi e] 87 (0, 0))]) (hl : l.length ≤ 9223372036854775807) (hp : p ≤ l.length ∧ p ≤ 90000) : Calls prog 34 #[.pointer (some ⟨rb, 0, none⟩)] w fun r w' => r = .returned (Vi ((rdN l p e).1 : Nat)) ∧ St W F (cs.set i [(rb, .cells #[.string (bs l), Vi ((rdN l p e).2.1 : Nat), Vi (rdN l p e).2.2] 87 (0, 0))]) w'  := by
 refine enter (args := [.pointer (some ⟨rb, 0, none⟩)]) func34 rfl rfl rfl<|Wi<|WL.e 1 rfl<|WL.nil (H0 (L0 (L0 ?_)))
 by_cases he0 : e = 0
 ·skip
  refine K0<|WL.e 3 rfl<|C0 (I0 underlying43 rfl rfl (h.ocell hi rfl)) rfl<|C0 (Bf (Z1 rfl rfl) (by rw [decide_eq_true he0]; rfl)) rfl<|Wa<|V0 rfl (rfl)<|O0 (H0 (L0 (L0 ?_)))
  have hcase : p = l.length ∨ p < l.length := by omega
  rcases hcase with hpe | hpl
  ·skip
   refine I2 (C := fun w_ => St W _ _ w_) mixed (by kernel_rfl) (h.drew)<|WQ.e 3 rfl<|WQ.val (fun w_ hC_ => I0 underlying3 rfl rfl (hC_.ocell hi rfl)) rfl<|WQ.e 3 rfl<|WQ.val (fun w_ hC_ => I0 underlying9 rfl rfl (hC_.ocell hi rfl)) rfl<|WQ.val (fun w_ hC_ => N0 (n := (l.length : Int)) (N2 underlying9 rfl rfl) rfl) rfl<|WQ.val (fun w_ hC_ => Bt (Y0 rfl rfl) (by rw [decide_eq_true_eq]; omega)) rfl<|WQ.fin fun w1 h1=>H0<|B1 rfl (rfl)<|Wi<|WL.e 3 rfl<|F1 h1 i hi rfl rfl inf43 rfl rfl (Free.zero _) (Nat.le_of_ble_eq_true rfl) ?_
   intro  w2 h2
   try simp only [ZZ] at h2
   refine We<|WL.e 1 rfl<|WL.nil (H0 (I1 ?_))
   have he2 : rerr l p = 2 := by unfold rerr; rw [if_pos (by omega)]
   have e1 : rdN l p e = (0, p, 2) := by unfold rdN; rw [if_neg (by rw [he0]; simp), if_neg (by rw [he2]; decide), he2]
   rw [e1]
   exact ret1 rfl rfl ⟨rfl, h2⟩
  ·skip
   refine I2 (C := fun w_ => St W _ _ w_) mixed (by kernel_rfl) (h.drew)<|WQ.e 3 rfl<|WQ.val (fun w_ hC_ => I0 underlying3 rfl rfl (hC_.ocell hi rfl)) rfl<|WQ.e 3 rfl<|WQ.val (fun w_ hC_ => I0 underlying9 rfl rfl (hC_.ocell hi rfl)) rfl<|WQ.val (fun w_ hC_ => N0 (n := (l.length : Int)) (N2 underlying9 rfl rfl) rfl) rfl<|WQ.val (fun w_ hC_ => Bf (Y0 rfl rfl) (by rw [decide_eq_false_iff_not]; omega)) rfl<|WQ.fin fun w3 h3=>H0<|V0 rfl (rfl)<|O0<|H0<|L0<|I2 (C := fun w_ => St W _ _ w_) mixed (by kernel_rfl) (h3.drew)<|WQ.e 3 rfl<|WQ.val (fun w_ hC_ => I0 underlying9 rfl rfl (hC_.ocell hi rfl)) rfl<|WQ.e 3 rfl<|WQ.val (fun w_ hC_ => I0 underlying3 rfl rfl (hC_.ocell hi rfl)) rfl<|WQ.val (fun w_ hC_ => M3 underlying9 rfl rfl (n := p) rfl (by omega)) rfl<|WQ.val (fun w_ hC_ => N0 (n := (szB l p : Int)) (T4 underlying5 underlying3 rfl) rfl) rfl<|WQ.e 1 rfl<|WQ.fin fun w4 h4=>H0 (L0 (L0 ?_))
   have hcase : 6 < szB l p ∨ szB l p ≤ 6 := by omega
   rcases hcase with hs6 | hs6
   ·skip
    refine K0<|WL.e 1 rfl<|C0 (Bt (X1 rfl rfl) (by rw [decide_eq_true_eq]; omega)) rfl<|Wa<|B1 rfl (rfl)<|Wi<|WL.e 3 rfl<|F1 h4 i hi rfl rfl inf43 rfl rfl (Free.zero _) (Nat.le_of_ble_eq_true rfl) ?_
    intro  w5 h5
    try simp only [ZZ] at h5
    refine We<|WL.e 1 rfl<|WL.nil (H0 (I1 ?_))
    have he2 : rerr l p = 3 := by unfold rerr; rw [if_neg (by omega), if_pos hs6]
    have e1 : rdN l p e = (0, p, 3) := by unfold rdN; rw [if_neg (by rw [he0]; simp), if_neg (by rw [he2]; decide), he2]
    rw [e1]
    exact ret1 rfl rfl ⟨rfl, h5⟩
   ·skip
    refine K0<|WL.e 1 rfl<|C0 (Bf (X1 rfl rfl) (by rw [decide_eq_false_iff_not]; omega)) rfl<|Wa<|V0 rfl (rfl)<|O0 (H0 (L0 (L0 ?_)))
    have hcase : l.length < p + 1 + szB l p ∨ p + 1 + szB l p ≤ l.length := by omega
    rcases hcase with hse | hsl
    ·skip
     refine I2 (C := fun w_ => St W _ _ w_) mixed (by kernel_rfl) (h4.drew)<|WQ.e 3 rfl<|WQ.val (fun w_ hC_ => I0 underlying3 rfl rfl (hC_.ocell hi rfl)) rfl<|WQ.val (fun w_ hC_ => Q0 rfl rfl (by omega)) rfl<|WQ.e 1 rfl<|WQ.val (fun w_ hC_ => Q0 rfl rfl (by omega)) rfl<|WQ.e 3 rfl<|WQ.val (fun w_ hC_ => I0 underlying9 rfl rfl (hC_.ocell hi rfl)) rfl<|WQ.val (fun w_ hC_ => N0 (n := (l.length : Int)) (N2 underlying9 rfl rfl) rfl) rfl<|WQ.val (fun w_ hC_ => Bt (X1 rfl rfl) (by rw [decide_eq_true_eq]; omega)) rfl<|WQ.fin fun w6 h6=>H0<|B1 rfl (rfl)<|Wi<|WL.e 3 rfl<|F1 h6 i hi rfl rfl inf43 rfl rfl (Free.zero _) (Nat.le_of_ble_eq_true rfl) ?_
     intro  w7 h7
     try simp only [ZZ] at h7
     refine We<|WL.e 1 rfl<|WL.nil (H0 (I1 ?_))
     have he2 : rerr l p = 2 := by unfold rerr; rw [if_neg (by omega), if_neg (by omega), if_pos hse]
     have e1 : rdN l p e = (0, p, 2) := by unfold rdN; rw [if_neg (by rw [he0]; simp), if_neg (by rw [he2]; decide), he2]
     rw [e1]
     exact ret1 rfl rfl ⟨rfl, h7⟩
    ·have hdl := dig_len hsl
     refine I2 (C := fun w_ => St W _ _ w_) mixed (by kernel_rfl) (h4.drew)<|WQ.e 3 rfl<|WQ.val (fun w_ hC_ => I0 underlying3 rfl rfl (hC_.ocell hi rfl)) rfl<|WQ.val (fun w_ hC_ => Q0 rfl rfl (by omega)) rfl<|WQ.e 1 rfl<|WQ.val (fun w_ hC_ => Q0 rfl rfl (by omega)) rfl<|WQ.e 3 rfl<|WQ.val (fun w_ hC_ => I0 underlying9 rfl rfl (hC_.ocell hi rfl)) rfl<|WQ.val (fun w_ hC_ => N0 (n := (l.length : Int)) (N2 underlying9 rfl rfl) rfl) rfl<|WQ.val (fun w_ hC_ => Bf (X1 rfl rfl) (by rw [decide_eq_false_iff_not]; omega)) rfl<|WQ.fin fun w8 h8=>H0<|V0 rfl (rfl)<|Wk<|WL.e 1 rfl<|Wh<|WL.e 1 rfl<|Wj<|WC.lp (σ := Nat) (fun q_ => [(0, .pointer (some ⟨rb, 0, none⟩)), (3, .int .i64 (szB l p : Int)), (4, .int .i64 (valN ((dig l p).take q_) : Int)), (5, .int .i64 (q_ : Int))]) (fun q_ w => q_ ≤ szB l p ∧ St W F cs w) (fun q_ => szB l p - q_) (0) (⟨by omega, h8⟩) ?_
     rintro k w9 ⟨hk, hL⟩
     try dsimp only at hk hL
     refine O2 [(0, .pointer (some ⟨rb, 0, none⟩)), (3, .int .i64 (szB l p : Int)), (4, .int .i64 (valN ((dig l p).take k) : Int)), (5, .int .i64 (k : Int))] ?_
     have hvl := valN_lt ((dig l p).take k)
     rw [List.length_take, Nat.min_eq_left (by omega)] at hvl
     have hpw := pow_le (n := k) (by omega)
     refine L0<|Wi<|WL.e 2 rfl<|C0 (N1 rfl rfl) rfl<|Wa<|U0 rfl (fun c10 => ?_) (fun c10 => ?_)
     ·try simp only [DD] at c10
      refine O0<|H0<|L0<|WC.block<|I2 (C := fun w_ => St W _ _ w_) mixed (by kernel_rfl) (hL.drew)<|WQ.e 1 rfl<|WQ.val (fun w_ hC_ => N0 (n := ((256 * valN ((dig l p).take k) : Nat) : Int)) (N3 rfl rfl (by omega)) (by omega)) rfl<|WQ.e 3 rfl<|WQ.val (fun w_ hC_ => I0 underlying9 rfl rfl (hC_.ocell hi rfl)) rfl<|WQ.e 3 rfl<|WQ.val (fun w_ hC_ => I0 underlying3 rfl rfl (hC_.ocell hi rfl)) rfl<|WQ.val (fun w_ hC_ => Q0 rfl rfl (by omega)) rfl<|WQ.e 1 rfl<|WQ.val (fun w_ hC_ => Q0 rfl rfl (by omega)) rfl<|WQ.val (fun w_ hC_ => L1 (u := V8 ((dig l p).getD k 0)) (M3 underlying9 rfl rfl (n := p + 1 + k) (by omega) (by omega)) (by rw [dig_at (by omega)])) rfl<|WQ.val (fun w_ hC_ => T4 underlying5 underlying3 rfl) rfl<|WQ.val (fun w_ hC_ => N0 (n := ((256 * valN ((dig l p).take k) + ((dig l p).getD k 0).toNat : Nat) : Int)) (Q0 rfl rfl (by have := ((dig l p).getD k 0).toNat_lt; omega)) (by omega)) rfl<|WQ.e 1 rfl<|WQ.fin fun w11 h11=>WN.blk<|H0<|K0<|WL.e 1 rfl<|C0 (Q0 rfl rfl (by omega)) rfl<|WL.e 1 rfl<|WL.nil<|X0 (k + 1) (by omega) ⟨rfl, rfl, ?_, rfl, trivial⟩ ⟨by omega, h11⟩
      show _ = some (Value.int .i64 (valN ((dig l p).take (k + 1)) : Int))
      rw [take_one (by omega), valN_snoc]
      rfl
     ·try simp only [DD] at c10
      refine WC.exit<|Q1<|WX.cut<|S1<|H0<|L0<|L0 ?_
      obtain rfl : k = szB l p := by omega
      rw [show (dig l p).take (szB l p) = dig l p from List.take_of_length_le (by omega)] at *
      have hcase : 1099511627776 < valN (dig l p) ∨ (valN (dig l p) ≤ 1099511627776 ∧ szB l p = 0) ∨ (valN (dig l p) ≤ 1099511627776 ∧ 0 < szB l p ∧ (dig l p).getD 0 0 = 0) ∨ (valN (dig l p) ≤ 1099511627776 ∧ 0 < szB l p ∧ ¬ (dig l p).getD 0 0 = 0) := by
       rcases cases11 (szB l p) (valN (dig l p)) 1099511627776 ((dig l p).getD 0 0 = 0) with h1 | ⟨h1, h2⟩ | ⟨h1, h2, h3⟩ | ⟨h1, h2, h3⟩
       ·rcases Nat.lt_or_ge 1099511627776 (valN (dig l p)) with h4 | h4
        ·exact .inl h4
        ·exact .inr (.inl ⟨h4, h1⟩)
       ·rcases Nat.lt_or_ge 1099511627776 (valN (dig l p)) with h4 | h4
        ·exact .inl h4
        ·exact .inr (.inr (.inl ⟨h4, h1, h2⟩))
       ·exact .inl h3
       ·exact .inr (.inr (.inr ⟨h3, h1, h2⟩))
      rcases hcase with y1 | ⟨y1, y2⟩ | ⟨y1, y2, y3⟩ | ⟨y1, y2, y3⟩
      ·skip
       refine I2 (C := fun w_ => St W _ _ w_) mixed (by kernel_rfl) (hL.drew)<|WQ.e 1 rfl<|WQ.val (fun w_ hC_ => Bt (X1 rfl rfl) (by rw [decide_eq_true_eq]; omega)) rfl<|WQ.e 4 rfl<|Q3 rfl rfl rfl<|Q3 rfl rfl rfl<|Q3 rfl rfl rfl<|Q3 rfl rfl rfl<|Q3 rfl rfl rfl<|Q3 rfl rfl rfl<|Q3 rfl rfl rfl<|Q3 rfl rfl rfl<|Q3 rfl rfl rfl<|Q3 rfl rfl rfl<|Q3 rfl rfl rfl<|WQ.e 2 rfl<|WQ.fin fun w12 h12=>H0<|B1 rfl (rfl)<|Wi<|WL.e 3 rfl<|F1 h12 i hi rfl rfl inf43 rfl rfl (Free.zero _) (Nat.le_of_ble_eq_true rfl) ?_
       intro  w13 h13
       try simp only [ZZ] at h13
       refine We<|WL.e 1 rfl<|WL.nil (H0 (I1 ?_))
       have he2 : rerr l p = 3 := by unfold rerr; rw [if_neg (by omega), if_neg (by omega), if_neg (by omega), if_pos (.inl y1)]
       have e1 : rdN l p e = (0, p, 3) := by unfold rdN; rw [if_neg (by rw [he0]; simp), if_neg (by rw [he2]; decide), he2]
       rw [e1]
       exact ret1 rfl rfl ⟨rfl, h13⟩
      ·skip
       refine I2 (C := fun w_ => St W _ _ w_) mixed (by kernel_rfl) (hL.drew)<|WQ.e 1 rfl<|WQ.val (fun w_ hC_ => Bf (X1 rfl rfl) (by rw [decide_eq_false_iff_not]; omega)) rfl<|WQ.e 2 rfl<|WQ.gn rfl<|WQ.val (fun w_ hC_ => Bf (X1 rfl rfl) (by rw [decide_eq_false_iff_not]; omega)) rfl<|WQ.e 14 rfl<|WQ.fin fun w14 h14=>H0<|V0 rfl (rfl)<|Wk<|WL.e 4 rfl<|C0 (I0 underlying3 rfl rfl (h14.ocell hi rfl)) rfl<|C0 (Q0 rfl rfl (by omega)) rfl<|WL.e 1 rfl<|C0 (Q0 rfl rfl (by omega)) rfl<|WL.e 2 rfl<|F1 h14 i hi rfl rfl inf3 rfl rfl (Free.zero _) (Nat.le_of_ble_eq_true rfl) ?_
       intro  w15 h15
       try simp only [ZZ] at h15
       refine We<|WL.e 2 rfl<|WL.nil (H0 (I1 ?_))
       have he2 : rerr l p = 0 := by
        unfold rerr
        rw [if_neg (by omega), if_neg (by omega), if_neg (by omega), if_neg]
        rintro (h4 | ⟨h4, h5⟩)
        ·omega
        ·first | omega | exact absurd h5 y3
       have e1 : rdN l p e = (rval l p, rnx l p, 0) := by unfold rdN; rw [if_neg (by rw [he0]; simp), if_pos he2]
       rw [e1]
       subst he0
       exact ret1 rfl rfl ⟨rfl, h15⟩
      ·skip
       refine I2 (C := fun w_ => St W _ _ w_) mixed (by kernel_rfl) (hL.drew)<|WQ.e 1 rfl<|WQ.val (fun w_ hC_ => Bf (X1 rfl rfl) (by rw [decide_eq_false_iff_not]; omega)) rfl<|WQ.e 2 rfl<|WQ.gn rfl<|WQ.val (fun w_ hC_ => Bt (X1 rfl rfl) (by rw [decide_eq_true_eq]; omega)) rfl<|WQ.e 4 rfl<|WQ.gn rfl<|WQ.val (fun w_ hC_ => I0 underlying9 rfl rfl (hC_.ocell hi rfl)) rfl<|WQ.e 3 rfl<|WQ.gn rfl<|WQ.val (fun w_ hC_ => I0 underlying3 rfl rfl (hC_.ocell hi rfl)) rfl<|WQ.gn rfl<|WQ.val (fun w_ hC_ => Q0 rfl rfl (by omega)) rfl<|WQ.gn rfl<|WQ.val (fun w_ hC_ => L1 (u := V8 ((dig l p).getD 0 0)) (M3 underlying9 rfl rfl (n := p + 1) (by omega) (by omega)) (by rw [dig_at (by omega)])) rfl<|WQ.gn rfl<|WQ.val (fun w_ hC_ => Bt (Y0 rfl rfl) (by rw [y3]; rfl)) rfl<|WQ.e 2 rfl<|WQ.fin fun w16 h16=>H0<|B1 rfl (rfl)<|Wi<|WL.e 3 rfl<|F1 h16 i hi rfl rfl inf43 rfl rfl (Free.zero _) (Nat.le_of_ble_eq_true rfl) ?_
       intro  w17 h17
       try simp only [ZZ] at h17
       refine We<|WL.e 1 rfl<|WL.nil (H0 (I1 ?_))
       have he2 : rerr l p = 3 := by unfold rerr; rw [if_neg (by omega), if_neg (by omega), if_neg (by omega), if_pos (.inr ⟨y2, y3⟩)]
       have e1 : rdN l p e = (0, p, 3) := by unfold rdN; rw [if_neg (by rw [he0]; simp), if_neg (by rw [he2]; decide), he2]
       rw [e1]
       exact ret1 rfl rfl ⟨rfl, h17⟩
      ·have y4 := u8_ne y3
       refine I2 (C := fun w_ => St W _ _ w_) mixed (by kernel_rfl) (hL.drew)<|WQ.e 1 rfl<|WQ.val (fun w_ hC_ => Bf (X1 rfl rfl) (by rw [decide_eq_false_iff_not]; omega)) rfl<|WQ.e 2 rfl<|WQ.gn rfl<|WQ.val (fun w_ hC_ => Bt (X1 rfl rfl) (by rw [decide_eq_true_eq]; omega)) rfl<|WQ.e 4 rfl<|WQ.gn rfl<|WQ.val (fun w_ hC_ => I0 underlying9 rfl rfl (hC_.ocell hi rfl)) rfl<|WQ.e 3 rfl<|WQ.gn rfl<|WQ.val (fun w_ hC_ => I0 underlying3 rfl rfl (hC_.ocell hi rfl)) rfl<|WQ.gn rfl<|WQ.val (fun w_ hC_ => Q0 rfl rfl (by omega)) rfl<|WQ.gn rfl<|WQ.val (fun w_ hC_ => L1 (u := V8 ((dig l p).getD 0 0)) (M3 underlying9 rfl rfl (n := p + 1) (by omega) (by omega)) (by rw [dig_at (by omega)])) rfl<|WQ.gn rfl<|WQ.val (fun w_ hC_ => Bf (Y0 rfl rfl) (decide_eq_false y4)) rfl<|WQ.e 2 rfl<|WQ.fin fun w18 h18=>H0<|V0 rfl (rfl)<|Wk<|WL.e 4 rfl<|C0 (I0 underlying3 rfl rfl (h18.ocell hi rfl)) rfl<|C0 (Q0 rfl rfl (by omega)) rfl<|WL.e 1 rfl<|C0 (Q0 rfl rfl (by omega)) rfl<|WL.e 2 rfl<|F1 h18 i hi rfl rfl inf3 rfl rfl (Free.zero _) (Nat.le_of_ble_eq_true rfl) ?_
       intro  w19 h19
       try simp only [ZZ] at h19
       refine We<|WL.e 2 rfl<|WL.nil (H0 (I1 ?_))
       have he2 : rerr l p = 0 := by
        unfold rerr
        rw [if_neg (by omega), if_neg (by omega), if_neg (by omega), if_neg]
        rintro (h4 | ⟨h4, h5⟩)
        ·omega
        ·first | omega | exact absurd h5 y3
       have e1 : rdN l p e = (rval l p, rnx l p, 0) := by unfold rdN; rw [if_neg (by rw [he0]; simp), if_pos he2]
       rw [e1]
       subst he0
       exact ret1 rfl rfl ⟨rfl, h19⟩
 ·skip
  refine K0<|WL.e 3 rfl<|C0 (I0 underlying43 rfl rfl (h.ocell hi rfl)) rfl<|C0 (Bt (Z1 rfl rfl) (by rw [decide_eq_false he0]; rfl)) rfl<|Wa<|B1 rfl (rfl)<|Wi<|WL.e 1 rfl<|WL.nil (H0 (I1 ?_))
  have e1 : rdN l p e = (0, p, e) := by unfold rdN; rw [if_pos he0]
  rw [e1]
  refine ret1 rfl rfl ⟨rfl, ?_⟩
  rw [setS hi]; exact h
theorem fail_c {cs : List Res} (w : World) {i rb : Nat} {q e : Int} {l : List UInt8} (a b : Int) (h : St W F cs w) (hi : cs[i]? = some [(rb, .cells #[.string (bs l), Vi q, Vi e] 87 (0, 0))]) : Calls prog 79 #[.pointer (some ⟨rb, 0, none⟩), Vi a, Vi b] w fun r w' => r = .returned (.tuple #[]) ∧ St W F (cs.set i [(rb, .cells #[.string (bs l), Vi a, Vi b] 87 (0, 0))]) w'  := by
 refine enter (args := [.pointer (some ⟨rb, 0, none⟩), Vi a, Vi b]) func79 rfl rfl rfl<|Wi<|WL.e 4 rfl<|F1 h i hi rfl rfl inf3 rfl rfl (Free.zero _) (Nat.le_of_ble_eq_true rfl) ?_
 intro  w1 h1
 try simp only [ZZ] at h1
 refine Wf<|WL.e 4 rfl<|F1 h1 i (show (cs.set i [(rb, .cells #[.string (bs l), Vi a, Vi e] 87 (0, 0))])[i]? = some [(rb, .cells #[.string (bs l), Vi a, Vi e] 87 (0, 0))] by rw [List.getElem?_set_self (List.getElem?_eq_some_iff.1 hi).1]) rfl rfl inf43 rfl rfl (Free.zero _) (Nat.le_of_ble_eq_true rfl) ?_
 intro  w2 h2
 try simp only [ZZ] at h2
 rw [List.set_set] at h2
 refine WL.nil<|end0 rfl ⟨rfl, h2⟩
theorem qend_c {cs : List Res} (w : World) {i rb : Nat} {p : Nat} {l : List UInt8} {e : Int} (h : St W F cs w) (hi : cs[i]? = some [(rb, .cells #[.string (bs l), Vi p, Vi e] 87 (0, 0))]) : Calls prog 36 #[.pointer (some ⟨rb, 0, none⟩)] w fun r w' => r = .returned (.tuple #[Vi (rdEnd l p e).1, Vi ((rdEnd l p e).2 : Nat)]) ∧ St W F cs w'  := by
 refine enter (args := [.pointer (some ⟨rb, 0, none⟩)]) func36 rfl rfl rfl<|Wi<|WL.e 2 rfl<|WL.nil (H0 (L0 (L0 ?_)))
 rcases cases5 e p l.length with hx1 | ⟨hx1, hx2⟩ | ⟨hx1, hx2⟩
 ·skip
  refine I2 (C := fun w_ => St W _ _ w_) mixed (by kernel_rfl) (h.drew)<|WQ.e 3 rfl<|WQ.val (fun w_ hC_ => I0 underlying43 rfl rfl (hC_.ocell hi rfl)) rfl<|WQ.val (fun w_ hC_ => Bf (Y0 rfl rfl) (decide_eq_false hx1)) rfl<|WQ.e 12 rfl<|WQ.fin fun w1 h1=>H0<|V0 rfl (rfl)<|O0<|H0<|L0<|I2 (C := fun w_ => St W _ _ w_) mixed (by kernel_rfl) (h1.drew)<|WQ.e 3 rfl<|WQ.val (fun w_ hC_ => I0 underlying43 rfl rfl (hC_.ocell hi rfl)) rfl<|WQ.e 3 rfl<|WQ.val (fun w_ hC_ => I0 underlying3 rfl rfl (hC_.ocell hi rfl)) rfl<|WQ.e 2 rfl<|WQ.fin fun w2 h2=>H0<|I1<|ret2 rfl rfl rfl ⟨?_, h2⟩
  unfold rdEnd
  rw [if_neg (fun h => hx1 h.1)]
  rfl
 ·skip
  refine I2 (C := fun w_ => St W _ _ w_) mixed (by kernel_rfl) (h.drew)<|WQ.e 3 rfl<|WQ.val (fun w_ hC_ => I0 underlying43 rfl rfl (hC_.ocell hi rfl)) rfl<|WQ.val (fun w_ hC_ => Bt (Y0 rfl rfl) (decide_eq_true hx1)) rfl<|WQ.e 4 rfl<|WQ.gn rfl<|WQ.val (fun w_ hC_ => I0 underlying3 rfl rfl (hC_.ocell hi rfl)) rfl<|WQ.e 3 rfl<|WQ.gn rfl<|WQ.val (fun w_ hC_ => I0 underlying9 rfl rfl (hC_.ocell hi rfl)) rfl<|WQ.gn rfl<|WQ.val (fun w_ hC_ => N0 (n := (l.length : Int)) (N2 underlying9 rfl rfl) rfl) rfl<|WQ.gn rfl<|WQ.val (fun w_ hC_ => Bt (N1 rfl rfl) (by rw [decide_eq_true_eq]; omega)) rfl<|WQ.e 1 rfl<|WQ.fin fun w3 h3=>H0<|B1 rfl (rfl)<|L0<|I2 (C := fun w_ => St W _ _ w_) mixed (by kernel_rfl) (h3.drew)<|WQ.e 3 rfl<|WQ.val (fun w_ hC_ => I0 underlying3 rfl rfl (hC_.ocell hi rfl)) rfl<|WQ.e 2 rfl<|WQ.fin fun w4 h4=>H0<|I1<|ret2 rfl rfl rfl ⟨?_, h4⟩
  unfold rdEnd
  rw [if_pos ⟨hx1, hx2⟩]
  rfl
 ·skip
  refine I2 (C := fun w_ => St W _ _ w_) mixed (by kernel_rfl) (h.drew)<|WQ.e 3 rfl<|WQ.val (fun w_ hC_ => I0 underlying43 rfl rfl (hC_.ocell hi rfl)) rfl<|WQ.val (fun w_ hC_ => Bt (Y0 rfl rfl) (decide_eq_true hx1)) rfl<|WQ.e 4 rfl<|WQ.gn rfl<|WQ.val (fun w_ hC_ => I0 underlying3 rfl rfl (hC_.ocell hi rfl)) rfl<|WQ.e 3 rfl<|WQ.gn rfl<|WQ.val (fun w_ hC_ => I0 underlying9 rfl rfl (hC_.ocell hi rfl)) rfl<|WQ.gn rfl<|WQ.val (fun w_ hC_ => N0 (n := (l.length : Int)) (N2 underlying9 rfl rfl) rfl) rfl<|WQ.gn rfl<|WQ.val (fun w_ hC_ => Bf (N1 rfl rfl) (by rw [decide_eq_false_iff_not]; omega)) rfl<|WQ.e 1 rfl<|WQ.fin fun w5 h5=>H0<|V0 rfl (rfl)<|O0<|H0<|L0<|I2 (C := fun w_ => St W _ _ w_) mixed (by kernel_rfl) (h5.drew)<|WQ.e 3 rfl<|WQ.val (fun w_ hC_ => I0 underlying43 rfl rfl (hC_.ocell hi rfl)) rfl<|WQ.e 3 rfl<|WQ.val (fun w_ hC_ => I0 underlying3 rfl rfl (hC_.ocell hi rfl)) rfl<|WQ.e 2 rfl<|WQ.fin fun w6 h6=>H0<|I1<|ret2 rfl rfl rfl ⟨?_, h6⟩
  unfold rdEnd
  rw [if_neg (fun h => hx2 h.2)]
  rfl
end Wir
end Go.Proofs.YtifdpllfbaogcaaGreat
