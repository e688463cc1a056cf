/- Joined texts: Tal2 .. W7. -/
import Derived.Test.YtifdpllfbaogcaaGreatM2
import Derived.KernelRfl
import Derived.Tactics
import Derived.Tactics2
set_option linter.unusedVariables false
set_option linter.unusedSimpArgs false
set_option maxRecDepth 100000
set_option maxHeartbeats 32000000
namespace Go.Proofs.YtifdpllfbaogcaaGreat
open Go Go.RowKit B
namespace Tal
theorem can44 : B.Can Tryz.prog 44 := ⟨_, Tryz.func44, by kernel_rfl, rfl⟩
theorem can131 : B.Can Tryz.prog 131 := ⟨_, Tryz.func131, by kernel_rfl, rfl⟩
theorem can132 : B.Can Tryz.prog 132 := ⟨_, Tryz.func132, by kernel_rfl, rfl⟩
theorem can133 : B.Can Tryz.prog 133 := ⟨_, Tryz.func133, by kernel_rfl, rfl⟩
theorem nodup_take {ns : List Int} (hd : ns.Nodup) {i : Nat} (hi : i < ns.length) : ns.getD i 0 ∉ ns.take i := by
 have h1 : ns.take i ++ ns.drop i = ns := List.take_append_drop i ns
 rw [← h1, List.nodup_append] at hd
 intro hm
 refine hd.2.2 _ hm (ns.getD i 0) ?_ rfl
 have e : ns.drop i = ns.getD i 0 :: ns.drop (i + 1) := by
  rw [List.drop_eq_getElem_cons hi, List.getD_eq_getElem?_getD, List.getElem?_eq_getElem hi]; rfl
 rw [e]
 exact List.mem_cons_self
theorem set_self {α : Type} {cs : List α} {i : Nat} {a : α} (h : cs[i]? = some a) : cs.set i a = cs := by
 apply List.ext_getElem?
 intro j
 rw [List.getElem?_set]
 split
 ·rename_i e
  subst e
  rw [h]; simp [(List.getElem?_eq_some_iff.1 h).1]
 ·rfl
theorem silent_bool {W : World} {F : Snap} {cs : List Res} (w : World) (i : Nat) {A : Option Addr} {cap m : Nat} {l : List (Int × Value)} {ns : List Int} {os : List (Option Bool)} (h : St W F cs w) (hi : cs[i]? = some [(m, mobj l)]) (hm : MR .bool F ns os l) (hR : RdS (Kd.one Vi) F A ns) (h0 : 0 < ns.length) (hd : ns.Nodup) (hn : ns.length ≤ 100000) : Calls Tryz.prog 89 #[.slice A ns.length cap, .map (some m)] w (Gives W F cs Vi (miss ns os))  := by
 refine enter (P := Tryz.prog) (args := [.slice A ns.length cap, .map (some m)]) Tryz.func89 rfl rfl rfl ?_
 refine WC.seq (WC.reg ?_)
 refine WL.box rfl h rfl ?_
 intro b3 w1 h1
 refine WL.e 1 rfl ?_
 refine WL.nil (WN.thn (WC.seq (WC.reg ?_)))
 refine WL.e 1 rfl ?_
 refine WL.call can44 rfl rfl (clone_c _ h1 hR h0 hn) ?_
 rintro _ w2 ⟨r2, v2, rfl, hr2, h2⟩
 refine ⟨_, rfl, ?_⟩
 obtain ⟨bc, zs, fz, rfl, rfl, hfz⟩ := hr2.blk h0
 refine WL.v (Runs.makeFunc rfl rfl) rfl ?_
 refine WL.call can131 rfl rfl (del_c _ 132 (.pointer (some ⟨b3, 0, none⟩)) (fun n => ((look n ns os).getD none).isSome) can132 h2 hfz hn (fun r w n hnn hS => by
   obtain ⟨o, ho⟩ := look_mem n hm.len.1 hnn
   have := clos_bool w n (i + 2) 1 hS rfl hi hm ho
   simp only [ho, Option.getD_some]
   exact this)) ?_
 rintro _ w3 ⟨r3, v3, rfl, hr3, h3⟩
 refine ⟨_, rfl, ?_⟩
 refine WL.e 1 rfl ?_
 refine WL.nil (WN.thn (WC.ret ?_))
 have hr := hr3
 rw [miss_filter hm.len.1 hd] at hr
 exact ret1 rfl rfl (Row.gives hr (h3.drop 1))
theorem silent_int {W : World} {F : Snap} {cs : List Res} (w : World) (i : Nat) {A : Option Addr} {cap m : Nat} {l : List (Int × Value)} {ns : List Int} {os : List (Option Int)} (h : St W F cs w) (hi : cs[i]? = some [(m, mobj l)]) (hm : MR Vi F ns os l) (hR : RdS (Kd.one Vi) F A ns) (h0 : 0 < ns.length) (hd : ns.Nodup) (hn : ns.length ≤ 100000) : Calls Tryz.prog 90 #[.slice A ns.length cap, .map (some m)] w (Gives W F cs Vi (miss ns os))  := by
 refine enter (P := Tryz.prog) (args := [.slice A ns.length cap, .map (some m)]) Tryz.func90 rfl rfl rfl ?_
 refine WC.seq (WC.reg ?_)
 refine WL.box rfl h rfl ?_
 intro b3 w1 h1
 refine WL.e 1 rfl ?_
 refine WL.nil (WN.thn (WC.seq (WC.reg ?_)))
 refine WL.e 1 rfl ?_
 refine WL.call can44 rfl rfl (clone_c _ h1 hR h0 hn) ?_
 rintro _ w2 ⟨r2, v2, rfl, hr2, h2⟩
 refine ⟨_, rfl, ?_⟩
 obtain ⟨bc, zs, fz, rfl, rfl, hfz⟩ := hr2.blk h0
 refine WL.v (Runs.makeFunc rfl rfl) rfl ?_
 refine WL.call can131 rfl rfl (del_c _ 133 (.pointer (some ⟨b3, 0, none⟩)) (fun n => ((look n ns os).getD none).isSome) can133 h2 hfz hn (fun r w n hnn hS => by
   obtain ⟨o, ho⟩ := look_mem n hm.len.1 hnn
   have := clos_int w n (i + 2) 1 hS rfl hi hm ho
   simp only [ho, Option.getD_some]
   exact this)) ?_
 rintro _ w3 ⟨r3, v3, rfl, hr3, h3⟩
 refine ⟨_, rfl, ?_⟩
 refine WL.e 1 rfl ?_
 refine WL.nil (WN.thn (WC.ret ?_))
 have hr := hr3
 rw [miss_filter hm.len.1 hd] at hr
 exact ret1 rfl rfl (Row.gives hr (h3.drop 1))
theorem empty_bool {W : World} {F : Snap} {cs : List Res} (w : World) {A : Option Addr} {cap : Nat} {ns : List Int} (h : St W F cs w) (hR : RdS (Kd.one Vi) F A ns) (h0 : 0 < ns.length) (hd : ns.Nodup) (hn : ns.length ≤ 100000) : Calls Tryz.prog 137 #[.slice A ns.length cap] w fun e w' => ∃ m l, e = .returned (.map (some m)) ∧ MR (.bool : Bool → Value) F ns (ns.map fun _ => none) l ∧ St W F ([(m, mobj l)] :: cs) w'  := by
 refine enter (P := Tryz.prog) (args := [.slice A ns.length cap]) Tryz.func137 rfl rfl rfl ?_
 obtain ⟨ad, rfl, hrd⟩ := rd1 hR h0
 refine WC.seq (WC.reg ?_)
 refine WL.e 1 rfl ?_
 refine WL.nil (WN.thn (WC.seq (WC.reg ?_)))
 refine WL.makeMap rfl h ?_
 intro m6 w1 h1
 refine WL.e 1 rfl ?_
 refine WL.nil (WN.thn (WC.seq (WC.seq (WC.reg ?_))))
 refine WL.e 1 rfl ?_
 refine WL.v (Runs.llen Tryz.underlying33 rfl rfl) rfl ?_
 refine WL.e 1 rfl ?_
 refine WL.nil (WN.thn (WC.block ?_))
 refine WC.loop (σ := Nat × List (Int × Value)) (fun q_ => [(3, .map (some m6)), (7, .slice (some ad) ns.length cap), (8, .int .i64 (ns.length : Int)), (9, .int .i64 (q_.1 : Int))]) (fun q_ w => q_.1 ≤ ns.length ∧ MR (.bool : Bool → Value) F (ns.take q_.1) ((ns.take q_.1).map fun _ => none) q_.2 ∧ St W F ([(m6, mobj q_.2)] :: cs) w) (fun q_ => ns.length - q_.1) (⟨0, []⟩) (by repeat (first | exact trivial | refine ⟨rfl, ?_⟩)) (⟨by omega, trivial, h1⟩) ?_
 rintro ⟨i, l⟩ w2 ⟨hi, hm, hL⟩
 try dsimp only at hi hm hL
 refine WC.sub (s := [(3, .map (some m6)), (7, .slice (some ad) ns.length cap), (8, .int .i64 (ns.length : Int)), (9, .int .i64 (i : Int))]) (by repeat (first | exact trivial | refine ⟨rfl, ?_⟩)) ?_
 refine WC.seq (WC.reg ?_)
 refine WL.e 1 rfl ?_
 refine WL.nil (WN.thn (WC.seq ?_))
 refine WC.cond rfl (fun c3 => ?_) (fun c3 => ?_)
 ·try simp only [dt, df, nt, nf, ba, il, ie] at c3
  first
  |(exfalso; omega)
  |skip
   refine WC.skip (WN.thn (WC.seq (WC.block (WC.seq (WC.reg ?_)))))
   refine WL.v (Runs.lidxN Tryz.underlying33 inf3 rfl rfl (n := i) rfl (by omega)) rfl ?_
   refine WL.v (Runs.loadR (f := Vi) (0 : Int) hL hrd (n := i) (by omega) Tryz.underlying3 rfl rfl) rfl ?_
   refine WL.e 1 rfl ?_
   refine WL.nil (WN.thn (WC.reg ?_))
   refine WL.e 2 rfl ?_
   refine WL.mapSet hL 0 rfl Tryz.underlying136 Tryz.underlying3 rfl rfl rfl ?_
   intro  w4 h4
   try simp only [lz, ls, ez, es'] at h4
   refine WL.nil (WN.blk (WN.thn (WC.reg ?_)))
   refine WL.v (Runs.addn rfl rfl (by omega)) rfl ?_
   refine WL.e 1 rfl ?_
   refine WL.nil ?_
   refine WN.again (⟨i + 1, _⟩ : Nat × List (Int × Value)) (by show ns.length - (i + 1) < ns.length - i; omega) ⟨rfl, rfl, rfl, rfl, trivial⟩ ⟨by show i + 1 ≤ _; omega, ?_, h4⟩
   have := hm.snoc (n := ns.getD i 0) (o := none) (v := .pointer none) rfl (nodup_take hd (by omega))
   show MR _ _ (ns.take (i + 1)) ((ns.take (i + 1)).map fun _ => none) _
   rw [take_nx (by omega), List.map_append]
   exact this
 ·try simp only [dt, df, nt, nf, ba, il, ie] at c3
  first
  |(exfalso; omega)
  |skip
   refine WC.exit (WX.thn (WX.cut (WX.hit (WN.thn (WC.seq ?_)))))
   refine WC.reg ?_
   refine WL.e 2 rfl ?_
   refine WL.nil (WN.thn (WC.ret ?_))
   obtain rfl : i = ns.length := by omega
   rw [List.take_of_length_le (Nat.le_refl _)] at hm
   exact ret1 rfl rfl ⟨_, _, rfl, hm, hL⟩
theorem empty_int {W : World} {F : Snap} {cs : List Res} (w : World) {A : Option Addr} {cap : Nat} {ns : List Int} (h : St W F cs w) (hR : RdS (Kd.one Vi) F A ns) (h0 : 0 < ns.length) (hd : ns.Nodup) (hn : ns.length ≤ 100000) : Calls Tryz.prog 138 #[.slice A ns.length cap] w fun e w' => ∃ m l, e = .returned (.map (some m)) ∧ MR (Vi : Int → Value) F ns (ns.map fun _ => none) l ∧ St W F ([(m, mobj l)] :: cs) w'  := by
 refine enter (P := Tryz.prog) (args := [.slice A ns.length cap]) Tryz.func138 rfl rfl rfl ?_
 obtain ⟨ad, rfl, hrd⟩ := rd1 hR h0
 refine WC.seq (WC.reg ?_)
 refine WL.e 1 rfl ?_
 refine WL.nil (WN.thn (WC.seq (WC.reg ?_)))
 refine WL.makeMap rfl h ?_
 intro m6 w1 h1
 refine WL.e 1 rfl ?_
 refine WL.nil (WN.thn (WC.seq (WC.seq (WC.reg ?_))))
 refine WL.e 1 rfl ?_
 refine WL.v (Runs.llen Tryz.underlying33 rfl rfl) rfl ?_
 refine WL.e 1 rfl ?_
 refine WL.nil (WN.thn (WC.block ?_))
 refine WC.loop (σ := Nat × List (Int × Value)) (fun q_ => [(3, .map (some m6)), (7, .slice (some ad) ns.length cap), (8, .int .i64 (ns.length : Int)), (9, .int .i64 (q_.1 : Int))]) (fun q_ w => q_.1 ≤ ns.length ∧ MR (Vi : Int → Value) F (ns.take q_.1) ((ns.take q_.1).map fun _ => none) q_.2 ∧ St W F ([(m6, mobj q_.2)] :: cs) w) (fun q_ => ns.length - q_.1) (⟨0, []⟩) (by repeat (first | exact trivial | refine ⟨rfl, ?_⟩)) (⟨by omega, trivial, h1⟩) ?_
 rintro ⟨i, l⟩ w2 ⟨hi, hm, hL⟩
 try dsimp only at hi hm hL
 refine WC.sub (s := [(3, .map (some m6)), (7, .slice (some ad) ns.length cap), (8, .int .i64 (ns.length : Int)), (9, .int .i64 (i : Int))]) (by repeat (first | exact trivial | refine ⟨rfl, ?_⟩)) ?_
 refine WC.seq (WC.reg ?_)
 refine WL.e 1 rfl ?_
 refine WL.nil (WN.thn (WC.seq ?_))
 refine WC.cond rfl (fun c3 => ?_) (fun c3 => ?_)
 ·try simp only [dt, df, nt, nf, ba, il, ie] at c3
  first
  |(exfalso; omega)
  |skip
   refine WC.skip (WN.thn (WC.seq (WC.block (WC.seq (WC.reg ?_)))))
   refine WL.v (Runs.lidxN Tryz.underlying33 inf3 rfl rfl (n := i) rfl (by omega)) rfl ?_
   refine WL.v (Runs.loadR (f := Vi) (0 : Int) hL hrd (n := i) (by omega) Tryz.underlying3 rfl rfl) rfl ?_
   refine WL.e 1 rfl ?_
   refine WL.nil (WN.thn (WC.reg ?_))
   refine WL.e 2 rfl ?_
   refine WL.mapSet hL 0 rfl Tryz.underlying137 Tryz.underlying3 rfl rfl rfl ?_
   intro  w4 h4
   try simp only [lz, ls, ez, es'] at h4
   refine WL.nil (WN.blk (WN.thn (WC.reg ?_)))
   refine WL.v (Runs.addn rfl rfl (by omega)) rfl ?_
   refine WL.e 1 rfl ?_
   refine WL.nil ?_
   refine WN.again (⟨i + 1, _⟩ : Nat × List (Int × Value)) (by show ns.length - (i + 1) < ns.length - i; omega) ⟨rfl, rfl, rfl, rfl, trivial⟩ ⟨by show i + 1 ≤ _; omega, ?_, h4⟩
   have := hm.snoc (n := ns.getD i 0) (o := none) (v := .pointer none) rfl (nodup_take hd (by omega))
   show MR _ _ (ns.take (i + 1)) ((ns.take (i + 1)).map fun _ => none) _
   rw [take_nx (by omega), List.map_append]
   exact this
 ·try simp only [dt, df, nt, nf, ba, il, ie] at c3
  first
  |(exfalso; omega)
  |skip
   refine WC.exit (WX.thn (WX.cut (WX.hit (WN.thn (WC.seq ?_)))))
   refine WC.reg ?_
   refine WL.e 2 rfl ?_
   refine WL.nil (WN.thn (WC.ret ?_))
   obtain rfl : i = ns.length := by omega
   rw [List.take_of_length_le (Nat.le_refl _)] at hm
   exact ret1 rfl rfl ⟨_, _, rfl, hm, hL⟩
theorem say_bool_A {W : World} {F : Snap} {cs : List Res} (w : World) (i : Nat) {m : Nat} {l : List (Int × Value)} {ns : List Int} {os : List (Option Bool)} (n : Int) (x y : Bool) (may : Bool) (h : St W F cs w) (hi : cs[i]? = some [(m, mobj l)]) (hm : MR .bool F ns os l) (hl : look n ns os = none) : Calls Tryz.prog 129 #[.map (some m), Vi n, .bool x, .bool may] w fun e w' => ∃ G l', Le F G ∧ e = .returned (Vi (say ns os n x may).1) ∧ MR .bool G ns (say ns os n x may).2 l' ∧ St W G (cs.set i [(m, mobj l')]) w'  := by
 refine enter (P := Tryz.prog) (args := [.map (some m), Vi n, .bool x, .bool may]) Tryz.func129 rfl rfl rfl ?_
 have hf := hm.find n 0
 rw [hl] at hf
 have hlk : (Value.tuple #[((mfind n l 0).map (·.2)).getD (.pointer none), .bool (mfind n l 0).isSome]) = .tuple #[.pointer none, .bool false] := by
  rcases hf with ⟨_, h2⟩ | ⟨_, _, _, h1, _⟩
  ·rw [h2]; rfl
  ·cases h1
 refine WC.seq (WC.reg ?_)
 refine WL.box rfl h rfl ?_
 intro b6 w1 h1
 refine WL.e 1 rfl ?_
 refine WL.nil (WN.thn (WC.seq (WC.reg ?_)))
 refine WL.e 2 rfl ?_
 refine WL.v (Runs.valT (u := .tuple #[.pointer none, .bool false]) (Runs.lookup2 h1 (i + 1) hi Tryz.underlying136 Tryz.underlying3 inf140 rfl rfl) hlk) rfl ?_
 refine WL.e 5 rfl ?_
 refine WL.nil (WN.thn (WC.seq (WC.block (WC.seq (WC.reg ?_)))))
 refine WL.e 3 rfl ?_
 refine WL.nil (WN.thn ?_)
 refine WC.condT rfl (rfl) ?_
 refine WC.seq (WC.reg ?_)
 refine WL.e 1 rfl ?_
 refine WL.nil (WN.thn (WC.ret ?_))
 refine ret1 rfl rfl ⟨F, l, Le.refl _, ?_, ?_, by rw [set_self hi]; exact h1.drop 0⟩
 ·simp [say, hl]
 ·simp only [say, hl]; exact hm
theorem say_bool_B {W : World} {F : Snap} {cs : List Res} (w : World) (i : Nat) {m : Nat} {l : List (Int × Value)} {ns : List Int} {os : List (Option Bool)} (n : Int) (x y : Bool) (may : Bool) (h : St W F cs w) (hi : cs[i]? = some [(m, mobj l)]) (hm : MR .bool F ns os l) (hl : look n ns os = some (some y)) (hy : y = x) : Calls Tryz.prog 129 #[.map (some m), Vi n, .bool x, .bool may] w fun e w' => ∃ G l', Le F G ∧ e = .returned (Vi (say ns os n x may).1) ∧ MR .bool G ns (say ns os n x may).2 l' ∧ St W G (cs.set i [(m, mobj l')]) w'  := by
 refine enter (P := Tryz.prog) (args := [.map (some m), Vi n, .bool x, .bool may]) Tryz.func129 rfl rfl rfl ?_
 have hf := hm.find n 0
 rw [hl] at hf
 obtain ⟨ay, hlk, hay⟩ : ∃ a, (Value.tuple #[((mfind n l 0).map (·.2)).getD (.pointer none), .bool (mfind n l 0).isSome]) = .tuple #[.pointer (some a), .bool true] ∧ cellF F a = some (.bool y) := by
  rcases hf with ⟨h1, _⟩ | ⟨_, _, _, h1, h2, h3⟩
  ·cases h1
  ·cases h1
   obtain ⟨a, rfl, h5⟩ := h3
   exact ⟨a, by rw [h2]; rfl, h5⟩
 subst hy
 refine WC.seq (WC.reg ?_)
 refine WL.box rfl h rfl ?_
 intro b6 w1 h1
 refine WL.e 1 rfl ?_
 refine WL.nil (WN.thn (WC.seq (WC.reg ?_)))
 refine WL.e 2 rfl ?_
 refine WL.v (Runs.valT (u := .tuple #[.pointer (some ay), .bool true]) (Runs.lookup2 h1 (i + 1) hi Tryz.underlying136 Tryz.underlying3 inf140 rfl rfl) hlk) rfl ?_
 refine WL.e 5 rfl ?_
 refine WL.nil (WN.thn (WC.seq (WC.block (WC.seq (WC.reg ?_)))))
 refine WL.e 3 rfl ?_
 refine WL.nil (WN.thn ?_)
 refine WC.condF rfl (rfl) ?_
 refine WC.seq ?_
 refine WC.qreg (C := fun w_ => St W F _ w_) mixed (by kernel_rfl) (h1.drew) ?_
 refine WQ.val (fun w_ hC_ => Runs.move rfl) rfl ?_
 refine WQ.val (fun w_ hC_ => Runs.pneq Tryz.underlying140 rfl rfl) rfl ?_
 refine WQ.val (fun w_ hC_ => Runs.move rfl) rfl ?_
 refine WQ.gon rfl rfl rfl ?_
 refine WQ.val (fun w_ hC_ => Runs.move rfl) rfl ?_
 refine WQ.gon rfl rfl rfl ?_
 refine WQ.val (fun w_ hC_ => Runs.nilCheckP rfl) rfl ?_
 refine WQ.gon rfl rfl rfl ?_
 refine WQ.val (fun w_ hC_ => Runs.load1 Tryz.underlying4 rfl rfl (hC_.cell hay)) rfl ?_
 refine WQ.gon rfl rfl rfl ?_
 refine WQ.val (fun w_ hC_ => Runs.load1 Tryz.underlying4 rfl rfl (hC_.ocell (i := 0) rfl rfl)) rfl ?_
 refine WQ.gon rfl rfl rfl ?_
 refine WQ.val (fun w_ hC_ => Runs.boolT (c := true) (Runs.eqlb Tryz.underlying4 rfl rfl) (by simp)) rfl ?_
 refine WQ.val (fun w_ hC_ => Runs.pick rfl rfl rfl) rfl ?_
 refine WQ.val (fun w_ hC_ => Runs.assign rfl) rfl ?_
 refine WQ.fin ?_
 intro w2 h2
 refine WN.thn ?_
 refine WC.condT rfl (rfl) ?_
 refine WC.seq (WC.reg ?_)
 refine WL.e 1 rfl ?_
 refine WL.nil (WN.thn (WC.ret ?_))
 refine ret1 rfl rfl ⟨F, l, Le.refl _, ?_, ?_, by rw [set_self hi]; exact h2.drop 0⟩
 ·simp [say, hl, if_true]
 ·simp only [say, hl, if_true]; exact hm
theorem say_bool_C {W : World} {F : Snap} {cs : List Res} (w : World) (i : Nat) {m : Nat} {l : List (Int × Value)} {ns : List Int} {os : List (Option Bool)} (n : Int) (x y : Bool) (may : Bool) (h : St W F cs w) (hi : cs[i]? = some [(m, mobj l)]) (hm : MR .bool F ns os l) (hl : look n ns os = some (some y)) (hy : y ≠ x) : Calls Tryz.prog 129 #[.map (some m), Vi n, .bool x, .bool may] w fun e w' => ∃ G l', Le F G ∧ e = .returned (Vi (say ns os n x may).1) ∧ MR .bool G ns (say ns os n x may).2 l' ∧ St W G (cs.set i [(m, mobj l')]) w'  := by
 refine enter (P := Tryz.prog) (args := [.map (some m), Vi n, .bool x, .bool may]) Tryz.func129 rfl rfl rfl ?_
 have hf := hm.find n 0
 rw [hl] at hf
 obtain ⟨ay, hlk, hay⟩ : ∃ a, (Value.tuple #[((mfind n l 0).map (·.2)).getD (.pointer none), .bool (mfind n l 0).isSome]) = .tuple #[.pointer (some a), .bool true] ∧ cellF F a = some (.bool y) := by
  rcases hf with ⟨h1, _⟩ | ⟨_, _, _, h1, h2, h3⟩
  ·cases h1
  ·cases h1
   obtain ⟨a, rfl, h5⟩ := h3
   exact ⟨a, by rw [h2]; rfl, h5⟩
 refine WC.seq (WC.reg ?_)
 refine WL.box rfl h rfl ?_
 intro b6 w1 h1
 refine WL.e 1 rfl ?_
 refine WL.nil (WN.thn (WC.seq (WC.reg ?_)))
 refine WL.e 2 rfl ?_
 refine WL.v (Runs.valT (u := .tuple #[.pointer (some ay), .bool true]) (Runs.lookup2 h1 (i + 1) hi Tryz.underlying136 Tryz.underlying3 inf140 rfl rfl) hlk) rfl ?_
 refine WL.e 5 rfl ?_
 refine WL.nil (WN.thn (WC.seq (WC.block (WC.seq (WC.reg ?_)))))
 refine WL.e 3 rfl ?_
 refine WL.nil (WN.thn ?_)
 refine WC.condF rfl (rfl) ?_
 refine WC.seq ?_
 refine WC.qreg (C := fun w_ => St W F _ w_) mixed (by kernel_rfl) (h1.drew) ?_
 refine WQ.val (fun w_ hC_ => Runs.move rfl) rfl ?_
 refine WQ.val (fun w_ hC_ => Runs.pneq Tryz.underlying140 rfl rfl) rfl ?_
 refine WQ.val (fun w_ hC_ => Runs.move rfl) rfl ?_
 refine WQ.gon rfl rfl rfl ?_
 refine WQ.val (fun w_ hC_ => Runs.move rfl) rfl ?_
 refine WQ.gon rfl rfl rfl ?_
 refine WQ.val (fun w_ hC_ => Runs.nilCheckP rfl) rfl ?_
 refine WQ.gon rfl rfl rfl ?_
 refine WQ.val (fun w_ hC_ => Runs.load1 Tryz.underlying4 rfl rfl (hC_.cell hay)) rfl ?_
 refine WQ.gon rfl rfl rfl ?_
 refine WQ.val (fun w_ hC_ => Runs.load1 Tryz.underlying4 rfl rfl (hC_.ocell (i := 0) rfl rfl)) rfl ?_
 refine WQ.gon rfl rfl rfl ?_
 refine WQ.val (fun w_ hC_ => Runs.boolT (c := false) (Runs.eqlb Tryz.underlying4 rfl rfl) (by simp [hy])) rfl ?_
 refine WQ.val (fun w_ hC_ => Runs.pick rfl rfl rfl) rfl ?_
 refine WQ.val (fun w_ hC_ => Runs.assign rfl) rfl ?_
 refine WQ.fin ?_
 intro w2 h2
 refine WN.thn ?_
 refine WC.condF rfl (rfl) ?_
 refine WC.seq (WC.reg ?_)
 refine WL.e 1 rfl ?_
 refine WL.v (Runs.pneq Tryz.underlying140 rfl rfl) rfl ?_
 refine WL.e 5 rfl ?_
 refine WL.nil (WN.thn ?_)
 refine WC.condT rfl (rfl) ?_
 refine WC.seq (WC.reg ?_)
 refine WL.e 1 rfl ?_
 refine WL.nil (WN.thn (WC.ret ?_))
 refine ret1 rfl rfl ⟨F, l, Le.refl _, ?_, ?_, by rw [set_self hi]; exact h2.drop 0⟩
 ·simp [say, hl, hy]
 ·simp only [say, hl, hy, if_false]; exact hm
theorem say_bool_D {W : World} {F : Snap} {cs : List Res} (w : World) (i : Nat) {m : Nat} {l : List (Int × Value)} {ns : List Int} {os : List (Option Bool)} (n : Int) (x y : Bool) (may : Bool) (h : St W F cs w) (hi : cs[i]? = some [(m, mobj l)]) (hm : MR .bool F ns os l) (hl : look n ns os = some none) (hmay : may = false) : Calls Tryz.prog 129 #[.map (some m), Vi n, .bool x, .bool may] w fun e w' => ∃ G l', Le F G ∧ e = .returned (Vi (say ns os n x may).1) ∧ MR .bool G ns (say ns os n x may).2 l' ∧ St W G (cs.set i [(m, mobj l')]) w'  := by
 refine enter (P := Tryz.prog) (args := [.map (some m), Vi n, .bool x, .bool may]) Tryz.func129 rfl rfl rfl ?_
 have hf := hm.find n 0
 rw [hl] at hf
 obtain ⟨hlk, _⟩ : (Value.tuple #[((mfind n l 0).map (·.2)).getD (.pointer none), .bool (mfind n l 0).isSome]) = .tuple #[.pointer none, .bool true] ∧ True := by
  rcases hf with ⟨h1, _⟩ | ⟨_, _, _, h1, h2, h3⟩
  ·cases h1
  ·cases h1
   exact ⟨by rw [h2]; cases h3; rfl, trivial⟩
 subst hmay
 refine WC.seq (WC.reg ?_)
 refine WL.box rfl h rfl ?_
 intro b6 w1 h1
 refine WL.e 1 rfl ?_
 refine WL.nil (WN.thn (WC.seq (WC.reg ?_)))
 refine WL.e 2 rfl ?_
 refine WL.v (Runs.valT (u := .tuple #[.pointer none, .bool true]) (Runs.lookup2 h1 (i + 1) hi Tryz.underlying136 Tryz.underlying3 inf140 rfl rfl) hlk) rfl ?_
 refine WL.e 5 rfl ?_
 refine WL.nil (WN.thn (WC.seq (WC.block (WC.seq (WC.reg ?_)))))
 refine WL.e 3 rfl ?_
 refine WL.nil (WN.thn ?_)
 refine WC.condF rfl (rfl) ?_
 refine WC.seq ?_
 refine WC.qreg (C := fun w_ => St W F _ w_) mixed (by kernel_rfl) (h1.drew) ?_
 refine WQ.val (fun w_ hC_ => Runs.move rfl) rfl ?_
 refine WQ.val (fun w_ hC_ => Runs.pneq Tryz.underlying140 rfl rfl) rfl ?_
 refine WQ.val (fun w_ hC_ => Runs.move rfl) rfl ?_
 refine WQ.goff rfl rfl rfl rfl ?_
 refine WQ.goff rfl rfl rfl rfl ?_
 refine WQ.goff rfl rfl rfl rfl ?_
 refine WQ.goff rfl rfl rfl rfl ?_
 refine WQ.goff rfl rfl rfl rfl ?_
 refine WQ.val (fun w_ hC_ => Runs.pick rfl rfl rfl) rfl ?_
 refine WQ.val (fun w_ hC_ => Runs.assign rfl) rfl ?_
 refine WQ.fin ?_
 intro w2 h2
 refine WN.thn ?_
 refine WC.condF rfl (rfl) ?_
 refine WC.seq (WC.reg ?_)
 refine WL.e 1 rfl ?_
 refine WL.v (Runs.pneq Tryz.underlying140 rfl rfl) rfl ?_
 refine WL.e 5 rfl ?_
 refine WL.nil (WN.thn ?_)
 refine WC.condT rfl (rfl) ?_
 refine WC.seq (WC.reg ?_)
 refine WL.e 1 rfl ?_
 refine WL.nil (WN.thn (WC.ret ?_))
 refine ret1 rfl rfl ⟨F, l, Le.refl _, ?_, ?_, by rw [set_self hi]; exact h2.drop 0⟩
 ·simp [say, hl]
 ·simp only [say, hl, Bool.false_eq_true, if_false]; exact hm
theorem say_bool_E {W : World} {F : Snap} {cs : List Res} (w : World) (i : Nat) {m : Nat} {l : List (Int × Value)} {ns : List Int} {os : List (Option Bool)} (n : Int) (x y : Bool) (may : Bool) (h : St W F cs w) (hi : cs[i]? = some [(m, mobj l)]) (hm : MR .bool F ns os l) (hl : look n ns os = some none) (hmay : may = true) : Calls Tryz.prog 129 #[.map (some m), Vi n, .bool x, .bool may] w fun e w' => ∃ G l', Le F G ∧ e = .returned (Vi (say ns os n x may).1) ∧ MR .bool G ns (say ns os n x may).2 l' ∧ St W G (cs.set i [(m, mobj l')]) w'  := by
 refine enter (P := Tryz.prog) (args := [.map (some m), Vi n, .bool x, .bool may]) Tryz.func129 rfl rfl rfl ?_
 have hf := hm.find n 0
 rw [hl] at hf
 obtain ⟨hlk, _⟩ : (Value.tuple #[((mfind n l 0).map (·.2)).getD (.pointer none), .bool (mfind n l 0).isSome]) = .tuple #[.pointer none, .bool true] ∧ True := by
  rcases hf with ⟨h1, _⟩ | ⟨_, _, _, h1, h2, h3⟩
  ·cases h1
  ·cases h1
   exact ⟨by rw [h2]; cases h3; rfl, trivial⟩
 subst hmay
 refine WC.seq (WC.reg ?_)
 refine WL.box rfl h rfl ?_
 intro b6 w1 h1
 refine WL.e 1 rfl ?_
 refine WL.nil (WN.thn (WC.seq (WC.reg ?_)))
 refine WL.e 2 rfl ?_
 refine WL.v (Runs.valT (u := .tuple #[.pointer none, .bool true]) (Runs.lookup2 h1 (i + 1) hi Tryz.underlying136 Tryz.underlying3 inf140 rfl rfl) hlk) rfl ?_
 refine WL.e 5 rfl ?_
 refine WL.nil (WN.thn (WC.seq (WC.block (WC.seq (WC.reg ?_)))))
 refine WL.e 3 rfl ?_
 refine WL.nil (WN.thn ?_)
 refine WC.condF rfl (rfl) ?_
 refine WC.seq ?_
 refine WC.qreg (C := fun w_ => St W F _ w_) mixed (by kernel_rfl) (h1.drew) ?_
 refine WQ.val (fun w_ hC_ => Runs.move rfl) rfl ?_
 refine WQ.val (fun w_ hC_ => Runs.pneq Tryz.underlying140 rfl rfl) rfl ?_
 refine WQ.val (fun w_ hC_ => Runs.move rfl) rfl ?_
 refine WQ.goff rfl rfl rfl rfl ?_
 refine WQ.goff rfl rfl rfl rfl ?_
 refine WQ.goff rfl rfl rfl rfl ?_
 refine WQ.goff rfl rfl rfl rfl ?_
 refine WQ.goff rfl rfl rfl rfl ?_
 refine WQ.val (fun w_ hC_ => Runs.pick rfl rfl rfl) rfl ?_
 refine WQ.val (fun w_ hC_ => Runs.assign rfl) rfl ?_
 refine WQ.fin ?_
 intro w2 h2
 refine WN.thn ?_
 refine WC.condF rfl (rfl) ?_
 refine WC.seq (WC.reg ?_)
 refine WL.e 1 rfl ?_
 refine WL.v (Runs.pneq Tryz.underlying140 rfl rfl) rfl ?_
 refine WL.e 5 rfl ?_
 refine WL.nil (WN.thn ?_)
 refine WC.condF rfl (rfl) ?_
 refine WC.skip (WN.blk (WN.thn (WC.seq (WC.reg ?_))))
 refine WL.e 2 rfl ?_
 refine WL.mapSet h2 (i + 1) hi Tryz.underlying136 Tryz.underlying3 rfl rfl rfl ?_
 intro  w3 h3
 try simp only [lz, ls, ez, es'] at h3
 refine WL.nil (WN.thn (WC.seq (WC.reg ?_)))
 refine WL.e 1 rfl ?_
 refine WL.nil (WN.thn (WC.ret ?_))
 obtain ⟨G, g1, g2, g3⟩ := h3.freeze (i := 0) rfl
 have hc : cellF G ⟨b6, 0, none⟩ = some (.bool x) := by
  have := g2 _ (List.mem_cons_self)
  unfold cellF
  simp only [this]
  rfl
 refine ret1 rfl rfl ⟨G, _, g1, ?_, ?_, g3⟩
 ·simp [say, hl]
 ·simp only [say, hl, if_true]
  exact (hm.mono g1).put ⟨_, rfl, hc⟩ (by rw [hl]; rfl)
theorem say_bool {W : World} {F : Snap} {cs : List Res} (w : World) (i : Nat) {m : Nat} {l : List (Int × Value)} {ns : List Int} {os : List (Option Bool)} (n : Int) (x : Bool) (may : Bool) (h : St W F cs w) (hi : cs[i]? = some [(m, mobj l)]) (hm : MR .bool F ns os l) : Calls Tryz.prog 129 #[.map (some m), Vi n, .bool x, .bool may] w fun e w' => ∃ G l', Le F G ∧ e = .returned (Vi (say ns os n x may).1) ∧ MR .bool G ns (say ns os n x may).2 l' ∧ St W G (cs.set i [(m, mobj l')]) w' := by
 cases hl : look n ns os with
 |none => exact say_bool_A w i n x x may h hi hm hl
 |some o =>
  cases o with
  |none =>
   cases may
   ·exact say_bool_D w i n x x false h hi hm hl rfl
   ·exact say_bool_E w i n x x true h hi hm hl rfl
  |some y =>
   by_cases hy : y = x
   ·exact say_bool_B w i n x y may h hi hm hl hy
   ·exact say_bool_C w i n x y may h hi hm hl hy
theorem say_int_A {W : World} {F : Snap} {cs : List Res} (w : World) (i : Nat) {m : Nat} {l : List (Int × Value)} {ns : List Int} {os : List (Option Int)} (n : Int) (x y : Int) (may : Bool) (h : St W F cs w) (hi : cs[i]? = some [(m, mobj l)]) (hm : MR Vi F ns os l) (hl : look n ns os = none) : Calls Tryz.prog 130 #[.map (some m), Vi n, Vi x, .bool may] w fun e w' => ∃ G l', Le F G ∧ e = .returned (Vi (say ns os n x may).1) ∧ MR Vi G ns (say ns os n x may).2 l' ∧ St W G (cs.set i [(m, mobj l')]) w'  := by
 refine enter (P := Tryz.prog) (args := [.map (some m), Vi n, Vi x, .bool may]) Tryz.func130 rfl rfl rfl ?_
 have hf := hm.find n 0
 rw [hl] at hf
 have hlk : (Value.tuple #[((mfind n l 0).map (·.2)).getD (.pointer none), .bool (mfind n l 0).isSome]) = .tuple #[.pointer none, .bool false] := by
  rcases hf with ⟨_, h2⟩ | ⟨_, _, _, h1, _⟩
  ·rw [h2]; rfl
  ·cases h1
 refine WC.seq (WC.reg ?_)
 refine WL.box rfl h rfl ?_
 intro b6 w1 h1
 refine WL.e 1 rfl ?_
 refine WL.nil (WN.thn (WC.seq (WC.reg ?_)))
 refine WL.e 2 rfl ?_
 refine WL.v (Runs.valT (u := .tuple #[.pointer none, .bool false]) (Runs.lookup2 h1 (i + 1) hi Tryz.underlying137 Tryz.underlying3 inf167 rfl rfl) hlk) rfl ?_
 refine WL.e 5 rfl ?_
 refine WL.nil (WN.thn (WC.seq (WC.block (WC.seq (WC.reg ?_)))))
 refine WL.e 3 rfl ?_
 refine WL.nil (WN.thn ?_)
 refine WC.condT rfl (rfl) ?_
 refine WC.seq (WC.reg ?_)
 refine WL.e 1 rfl ?_
 refine WL.nil (WN.thn (WC.ret ?_))
 refine ret1 rfl rfl ⟨F, l, Le.refl _, ?_, ?_, by rw [set_self hi]; exact h1.drop 0⟩
 ·simp [say, hl]
 ·simp only [say, hl]; exact hm
theorem say_int_B {W : World} {F : Snap} {cs : List Res} (w : World) (i : Nat) {m : Nat} {l : List (Int × Value)} {ns : List Int} {os : List (Option Int)} (n : Int) (x y : Int) (may : Bool) (h : St W F cs w) (hi : cs[i]? = some [(m, mobj l)]) (hm : MR Vi F ns os l) (hl : look n ns os = some (some y)) (hy : y = x) : Calls Tryz.prog 130 #[.map (some m), Vi n, Vi x, .bool may] w fun e w' => ∃ G l', Le F G ∧ e = .returned (Vi (say ns os n x may).1) ∧ MR Vi G ns (say ns os n x may).2 l' ∧ St W G (cs.set i [(m, mobj l')]) w'  := by
 refine enter (P := Tryz.prog) (args := [.map (some m), Vi n, Vi x, .bool may]) Tryz.func130 rfl rfl rfl ?_
 have hf := hm.find n 0
 rw [hl] at hf
 obtain ⟨ay, hlk, hay⟩ : ∃ a, (Value.tuple #[((mfind n l 0).map (·.2)).getD (.pointer none), .bool (mfind n l 0).isSome]) = .tuple #[.pointer (some a), .bool true] ∧ cellF F a = some (Vi y) := by
  rcases hf with ⟨h1, _⟩ | ⟨_, _, _, h1, h2, h3⟩
  ·cases h1
  ·cases h1
   obtain ⟨a, rfl, h5⟩ := h3
   exact ⟨a, by rw [h2]; rfl, h5⟩
 subst hy
 refine WC.seq (WC.reg ?_)
 refine WL.box rfl h rfl ?_
 intro b6 w1 h1
 refine WL.e 1 rfl ?_
 refine WL.nil (WN.thn (WC.seq (WC.reg ?_)))
 refine WL.e 2 rfl ?_
 refine WL.v (Runs.valT (u := .tuple #[.pointer (some ay), .bool true]) (Runs.lookup2 h1 (i + 1) hi Tryz.underlying137 Tryz.underlying3 inf167 rfl rfl) hlk) rfl ?_
 refine WL.e 5 rfl ?_
 refine WL.nil (WN.thn (WC.seq (WC.block (WC.seq (WC.reg ?_)))))
 refine WL.e 3 rfl ?_
 refine WL.nil (WN.thn ?_)
 refine WC.condF rfl (rfl) ?_
 refine WC.seq ?_
 refine WC.qreg (C := fun w_ => St W F _ w_) mixed (by kernel_rfl) (h1.drew) ?_
 refine WQ.val (fun w_ hC_ => Runs.move rfl) rfl ?_
 refine WQ.val (fun w_ hC_ => Runs.pneq Tryz.underlying167 rfl rfl) rfl ?_
 refine WQ.val (fun w_ hC_ => Runs.move rfl) rfl ?_
 refine WQ.gon rfl rfl rfl ?_
 refine WQ.val (fun w_ hC_ => Runs.move rfl) rfl ?_
 refine WQ.gon rfl rfl rfl ?_
 refine WQ.val (fun w_ hC_ => Runs.nilCheckP rfl) rfl ?_
 refine WQ.gon rfl rfl rfl ?_
 refine WQ.val (fun w_ hC_ => Runs.load1 Tryz.underlying3 rfl rfl (hC_.cell hay)) rfl ?_
 refine WQ.gon rfl rfl rfl ?_
 refine WQ.val (fun w_ hC_ => Runs.load1 Tryz.underlying3 rfl rfl (hC_.ocell (i := 0) rfl rfl)) rfl ?_
 refine WQ.gon rfl rfl rfl ?_
 refine WQ.val (fun w_ hC_ => Runs.boolT (c := true) (Runs.eql rfl rfl) (by simp)) rfl ?_
 refine WQ.val (fun w_ hC_ => Runs.pick rfl rfl rfl) rfl ?_
 refine WQ.val (fun w_ hC_ => Runs.assign rfl) rfl ?_
 refine WQ.fin ?_
 intro w2 h2
 refine WN.thn ?_
 refine WC.condT rfl (rfl) ?_
 refine WC.seq (WC.reg ?_)
 refine WL.e 1 rfl ?_
 refine WL.nil (WN.thn (WC.ret ?_))
 refine ret1 rfl rfl ⟨F, l, Le.refl _, ?_, ?_, by rw [set_self hi]; exact h2.drop 0⟩
 ·simp [say, hl, if_true]
 ·simp only [say, hl, if_true]; exact hm
theorem say_int_C {W : World} {F : Snap} {cs : List Res} (w : World) (i : Nat) {m : Nat} {l : List (Int × Value)} {ns : List Int} {os : List (Option Int)} (n : Int) (x y : Int) (may : Bool) (h : St W F cs w) (hi : cs[i]? = some [(m, mobj l)]) (hm : MR Vi F ns os l) (hl : look n ns os = some (some y)) (hy : y ≠ x) : Calls Tryz.prog 130 #[.map (some m), Vi n, Vi x, .bool may] w fun e w' => ∃ G l', Le F G ∧ e = .returned (Vi (say ns os n x may).1) ∧ MR Vi G ns (say ns os n x may).2 l' ∧ St W G (cs.set i [(m, mobj l')]) w'  := by
 refine enter (P := Tryz.prog) (args := [.map (some m), Vi n, Vi x, .bool may]) Tryz.func130 rfl rfl rfl ?_
 have hf := hm.find n 0
 rw [hl] at hf
 obtain ⟨ay, hlk, hay⟩ : ∃ a, (Value.tuple #[((mfind n l 0).map (·.2)).getD (.pointer none), .bool (mfind n l 0).isSome]) = .tuple #[.pointer (some a), .bool true] ∧ cellF F a = some (Vi y) := by
  rcases hf with ⟨h1, _⟩ | ⟨_, _, _, h1, h2, h3⟩
  ·cases h1
  ·cases h1
   obtain ⟨a, rfl, h5⟩ := h3
   exact ⟨a, by rw [h2]; rfl, h5⟩
 refine WC.seq (WC.reg ?_)
 refine WL.box rfl h rfl ?_
 intro b6 w1 h1
 refine WL.e 1 rfl ?_
 refine WL.nil (WN.thn (WC.seq (WC.reg ?_)))
 refine WL.e 2 rfl ?_
 refine WL.v (Runs.valT (u := .tuple #[.pointer (some ay), .bool true]) (Runs.lookup2 h1 (i + 1) hi Tryz.underlying137 Tryz.underlying3 inf167 rfl rfl) hlk) rfl ?_
 refine WL.e 5 rfl ?_
 refine WL.nil (WN.thn (WC.seq (WC.block (WC.seq (WC.reg ?_)))))
 refine WL.e 3 rfl ?_
 refine WL.nil (WN.thn ?_)
 refine WC.condF rfl (rfl) ?_
 refine WC.seq ?_
 refine WC.qreg (C := fun w_ => St W F _ w_) mixed (by kernel_rfl) (h1.drew) ?_
 refine WQ.val (fun w_ hC_ => Runs.move rfl) rfl ?_
 refine WQ.val (fun w_ hC_ => Runs.pneq Tryz.underlying167 rfl rfl) rfl ?_
 refine WQ.val (fun w_ hC_ => Runs.move rfl) rfl ?_
 refine WQ.gon rfl rfl rfl ?_
 refine WQ.val (fun w_ hC_ => Runs.move rfl) rfl ?_
 refine WQ.gon rfl rfl rfl ?_
 refine WQ.val (fun w_ hC_ => Runs.nilCheckP rfl) rfl ?_
 refine WQ.gon rfl rfl rfl ?_
 refine WQ.val (fun w_ hC_ => Runs.load1 Tryz.underlying3 rfl rfl (hC_.cell hay)) rfl ?_
 refine WQ.gon rfl rfl rfl ?_
 refine WQ.val (fun w_ hC_ => Runs.load1 Tryz.underlying3 rfl rfl (hC_.ocell (i := 0) rfl rfl)) rfl ?_
 refine WQ.gon rfl rfl rfl ?_
 refine WQ.val (fun w_ hC_ => Runs.boolT (c := false) (Runs.eql rfl rfl) (by simp [hy])) rfl ?_
 refine WQ.val (fun w_ hC_ => Runs.pick rfl rfl rfl) rfl ?_
 refine WQ.val (fun w_ hC_ => Runs.assign rfl) rfl ?_
 refine WQ.fin ?_
 intro w2 h2
 refine WN.thn ?_
 refine WC.condF rfl (rfl) ?_
 refine WC.seq (WC.reg ?_)
 refine WL.e 1 rfl ?_
 refine WL.v (Runs.pneq Tryz.underlying167 rfl rfl) rfl ?_
 refine WL.e 5 rfl ?_
 refine WL.nil (WN.thn ?_)
 refine WC.condT rfl (rfl) ?_
 refine WC.seq (WC.reg ?_)
 refine WL.e 1 rfl ?_
 refine WL.nil (WN.thn (WC.ret ?_))
 refine ret1 rfl rfl ⟨F, l, Le.refl _, ?_, ?_, by rw [set_self hi]; exact h2.drop 0⟩
 ·simp [say, hl, hy]
 ·simp only [say, hl, hy, if_false]; exact hm
theorem say_int_D {W : World} {F : Snap} {cs : List Res} (w : World) (i : Nat) {m : Nat} {l : List (Int × Value)} {ns : List Int} {os : List (Option Int)} (n : Int) (x y : Int) (may : Bool) (h : St W F cs w) (hi : cs[i]? = some [(m, mobj l)]) (hm : MR Vi F ns os l) (hl : look n ns os = some none) (hmay : may = false) : Calls Tryz.prog 130 #[.map (some m), Vi n, Vi x, .bool may] w fun e w' => ∃ G l', Le F G ∧ e = .returned (Vi (say ns os n x may).1) ∧ MR Vi G ns (say ns os n x may).2 l' ∧ St W G (cs.set i [(m, mobj l')]) w'  := by
 refine enter (P := Tryz.prog) (args := [.map (some m), Vi n, Vi x, .bool may]) Tryz.func130 rfl rfl rfl ?_
 have hf := hm.find n 0
 rw [hl] at hf
 obtain ⟨hlk, _⟩ : (Value.tuple #[((mfind n l 0).map (·.2)).getD (.pointer none), .bool (mfind n l 0).isSome]) = .tuple #[.pointer none, .bool true] ∧ True := by
  rcases hf with ⟨h1, _⟩ | ⟨_, _, _, h1, h2, h3⟩
  ·cases h1
  ·cases h1
   exact ⟨by rw [h2]; cases h3; rfl, trivial⟩
 subst hmay
 refine WC.seq (WC.reg ?_)
 refine WL.box rfl h rfl ?_
 intro b6 w1 h1
 refine WL.e 1 rfl ?_
 refine WL.nil (WN.thn (WC.seq (WC.reg ?_)))
 refine WL.e 2 rfl ?_
 refine WL.v (Runs.valT (u := .tuple #[.pointer none, .bool true]) (Runs.lookup2 h1 (i + 1) hi Tryz.underlying137 Tryz.underlying3 inf167 rfl rfl) hlk) rfl ?_
 refine WL.e 5 rfl ?_
 refine WL.nil (WN.thn (WC.seq (WC.block (WC.seq (WC.reg ?_)))))
 refine WL.e 3 rfl ?_
 refine WL.nil (WN.thn ?_)
 refine WC.condF rfl (rfl) ?_
 refine WC.seq ?_
 refine WC.qreg (C := fun w_ => St W F _ w_) mixed (by kernel_rfl) (h1.drew) ?_
 refine WQ.val (fun w_ hC_ => Runs.move rfl) rfl ?_
 refine WQ.val (fun w_ hC_ => Runs.pneq Tryz.underlying167 rfl rfl) rfl ?_
 refine WQ.val (fun w_ hC_ => Runs.move rfl) rfl ?_
 refine WQ.goff rfl rfl rfl rfl ?_
 refine WQ.goff rfl rfl rfl rfl ?_
 refine WQ.goff rfl rfl rfl rfl ?_
 refine WQ.goff rfl rfl rfl rfl ?_
 refine WQ.goff rfl rfl rfl rfl ?_
 refine WQ.val (fun w_ hC_ => Runs.pick rfl rfl rfl) rfl ?_
 refine WQ.val (fun w_ hC_ => Runs.assign rfl) rfl ?_
 refine WQ.fin ?_
 intro w2 h2
 refine WN.thn ?_
 refine WC.condF rfl (rfl) ?_
 refine WC.seq (WC.reg ?_)
 refine WL.e 1 rfl ?_
 refine WL.v (Runs.pneq Tryz.underlying167 rfl rfl) rfl ?_
 refine WL.e 5 rfl ?_
 refine WL.nil (WN.thn ?_)
 refine WC.condT rfl (rfl) ?_
 refine WC.seq (WC.reg ?_)
 refine WL.e 1 rfl ?_
 refine WL.nil (WN.thn (WC.ret ?_))
 refine ret1 rfl rfl ⟨F, l, Le.refl _, ?_, ?_, by rw [set_self hi]; exact h2.drop 0⟩
 ·simp [say, hl]
 ·simp only [say, hl, Bool.false_eq_true, if_false]; exact hm
theorem say_int_E {W : World} {F : Snap} {cs : List Res} (w : World) (i : Nat) {m : Nat} {l : List (Int × Value)} {ns : List Int} {os : List (Option Int)} (n : Int) (x y : Int) (may : Bool) (h : St W F cs w) (hi : cs[i]? = some [(m, mobj l)]) (hm : MR Vi F ns os l) (hl : look n ns os = some none) (hmay : may = true) : Calls Tryz.prog 130 #[.map (some m), Vi n, Vi x, .bool may] w fun e w' => ∃ G l', Le F G ∧ e = .returned (Vi (say ns os n x may).1) ∧ MR Vi G ns (say ns os n x may).2 l' ∧ St W G (cs.set i [(m, mobj l')]) w'  := by
 refine enter (P := Tryz.prog) (args := [.map (some m), Vi n, Vi x, .bool may]) Tryz.func130 rfl rfl rfl ?_
 have hf := hm.find n 0
 rw [hl] at hf
 obtain ⟨hlk, _⟩ : (Value.tuple #[((mfind n l 0).map (·.2)).getD (.pointer none), .bool (mfind n l 0).isSome]) = .tuple #[.pointer none, .bool true] ∧ True := by
  rcases hf with ⟨h1, _⟩ | ⟨_, _, _, h1, h2, h3⟩
  ·cases h1
  ·cases h1
   exact ⟨by rw [h2]; cases h3; rfl, trivial⟩
 subst hmay
 refine WC.seq (WC.reg ?_)
 refine WL.box rfl h rfl ?_
 intro b6 w1 h1
 refine WL.e 1 rfl ?_
 refine WL.nil (WN.thn (WC.seq (WC.reg ?_)))
 refine WL.e 2 rfl ?_
 refine WL.v (Runs.valT (u := .tuple #[.pointer none, .bool true]) (Runs.lookup2 h1 (i + 1) hi Tryz.underlying137 Tryz.underlying3 inf167 rfl rfl) hlk) rfl ?_
 refine WL.e 5 rfl ?_
 refine WL.nil (WN.thn (WC.seq (WC.block (WC.seq (WC.reg ?_)))))
 refine WL.e 3 rfl ?_
 refine WL.nil (WN.thn ?_)
 refine WC.condF rfl (rfl) ?_
 refine WC.seq ?_
 refine WC.qreg (C := fun w_ => St W F _ w_) mixed (by kernel_rfl) (h1.drew) ?_
 refine WQ.val (fun w_ hC_ => Runs.move rfl) rfl ?_
 refine WQ.val (fun w_ hC_ => Runs.pneq Tryz.underlying167 rfl rfl) rfl ?_
 refine WQ.val (fun w_ hC_ => Runs.move rfl) rfl ?_
 refine WQ.goff rfl rfl rfl rfl ?_
 refine WQ.goff rfl rfl rfl rfl ?_
 refine WQ.goff rfl rfl rfl rfl ?_
 refine WQ.goff rfl rfl rfl rfl ?_
 refine WQ.goff rfl rfl rfl rfl ?_
 refine WQ.val (fun w_ hC_ => Runs.pick rfl rfl rfl) rfl ?_
 refine WQ.val (fun w_ hC_ => Runs.assign rfl) rfl ?_
 refine WQ.fin ?_
 intro w2 h2
 refine WN.thn ?_
 refine WC.condF rfl (rfl) ?_
 refine WC.seq (WC.reg ?_)
 refine WL.e 1 rfl ?_
 refine WL.v (Runs.pneq Tryz.underlying167 rfl rfl) rfl ?_
 refine WL.e 5 rfl ?_
 refine WL.nil (WN.thn ?_)
 refine WC.condF rfl (rfl) ?_
 refine WC.skip (WN.blk (WN.thn (WC.seq (WC.reg ?_))))
 refine WL.e 2 rfl ?_
 refine WL.mapSet h2 (i + 1) hi Tryz.underlying137 Tryz.underlying3 rfl rfl rfl ?_
 intro  w3 h3
 try simp only [lz, ls, ez, es'] at h3
 refine WL.nil (WN.thn (WC.seq (WC.reg ?_)))
 refine WL.e 1 rfl ?_
 refine WL.nil (WN.thn (WC.ret ?_))
 obtain ⟨G, g1, g2, g3⟩ := h3.freeze (i := 0) rfl
 have hc : cellF G ⟨b6, 0, none⟩ = some (Vi x) := by
  have := g2 _ (List.mem_cons_self)
  unfold cellF
  simp only [this]
  rfl
 refine ret1 rfl rfl ⟨G, _, g1, ?_, ?_, g3⟩
 ·simp [say, hl]
 ·simp only [say, hl, if_true]
  exact (hm.mono g1).put ⟨_, rfl, hc⟩ (by rw [hl]; rfl)
theorem say_int {W : World} {F : Snap} {cs : List Res} (w : World) (i : Nat) {m : Nat} {l : List (Int × Value)} {ns : List Int} {os : List (Option Int)} (n : Int) (x : Int) (may : Bool) (h : St W F cs w) (hi : cs[i]? = some [(m, mobj l)]) (hm : MR Vi F ns os l) : Calls Tryz.prog 130 #[.map (some m), Vi n, Vi x, .bool may] w fun e w' => ∃ G l', Le F G ∧ e = .returned (Vi (say ns os n x may).1) ∧ MR Vi G ns (say ns os n x may).2 l' ∧ St W G (cs.set i [(m, mobj l')]) w' := by
 cases hl : look n ns os with
 |none => exact say_int_A w i n x x may h hi hm hl
 |some o =>
  cases o with
  |none =>
   cases may
   ·exact say_int_D w i n x x false h hi hm hl rfl
   ·exact say_int_E w i n x x true h hi hm hl rfl
  |some y =>
   by_cases hy : y = x
   ·exact say_int_B w i n x y may h hi hm hl hy
   ·exact say_int_C w i n x y may h hi hm hl hy
end Tal
end Go.Proofs.YtifdpllfbaogcaaGreat
namespace Go.Proofs.YtifdpllfbaogcaaGreat
open Go Go.RowKit B
namespace Tal
theorem fld139_0 : fldB Tryz.prog 139 0 0 = true := by kernel_rfl
theorem fld139_1 : fldB Tryz.prog 139 1 1 = true := by kernel_rfl
theorem fld139_2 : fldB Tryz.prog 139 2 2 = true := by kernel_rfl
theorem can89 : B.Can Tryz.prog 89 := ⟨_, Tryz.func89, by kernel_rfl, rfl⟩
theorem can90 : B.Can Tryz.prog 90 := ⟨_, Tryz.func90, by kernel_rfl, rfl⟩
theorem can162 : B.Can Tryz.prog 162 := ⟨_, Tryz.func162, by kernel_rfl, rfl⟩
structure TR (F : Snap) (cs : List Res) (bt i j mv mc : Nat) (lv lc : List (Int × Value)) (t : T) : Prop where
 s0 : ∃ A cap, cellF F ⟨bt, 0, none⟩ = some (.slice A t.ns.length cap) ∧ RdS (Kd.one Vi) F A t.ns
 s1 : cellF F ⟨bt, 1, none⟩ = some (.map (some mv))
 s2 : cellF F ⟨bt, 2, none⟩ = some (.map (some mc))
 iv : cs[i]? = some [(mv, mobj lv)]
 ic : cs[j]? = some [(mc, mobj lc)]
 rv : MR Value.bool F t.ns t.vs lv
 rc : MR Vi F t.ns t.cs lc
 pos : 0 < t.ns.length
 small : t.ns.length ≤ 16
 nd : t.ns.Nodup
 ne : i ≠ j
theorem max_step (l : List Int) (i : Nat) (a : Int) (hi : i < l.length) : (l.take (i + 1)).foldl max a = (if (l.take i).foldl max a < l.getD i 0 then l.getD i 0 else (l.take i).foldl max a) := by
 rw [take_nx hi, List.foldl_append]
 show max _ _ = _
 rw [Int.max_def]
 split <;> split <;> omega
theorem not_false {t : T} {lv : List (Int × Value)} {F : Snap} (h : MR Value.bool F t.ns t.vs lv) {seen : Array Nat} (hs : ∀ p, p ∈ seen → t.vs[p]? ≠ some (some false)) (ha : ∀ p, p < lv.length → p ∈ seen) : some false ∉ t.vs := by
 intro hm
 obtain ⟨p, hp⟩ := List.getElem?_of_mem hm
 have hl := h.len
 have : p < t.vs.length := (List.getElem?_eq_some_iff.1 hp).1
 exact hs p (ha p (by omega)) hp
theorem max_c {W : World} {F : Snap} {cs : List Res} (w : World) {ad : Addr} {cap : Nat} (a : Int) (l : List Int) (h : St W F cs w) (hrd : ∀ i x, (a :: l)[i]? = some x → cellF F (ad.add i) = some (Vi x)) (hn : (a :: l).length ≤ 100000) : Calls Tryz.prog 162 #[.slice (some ad) (a :: l).length cap] w fun e w' => e = .returned (Vi (l.foldl max a)) ∧ St W F cs w'  := by
 refine enter (P := Tryz.prog) (args := [.slice (some ad) (a :: l).length cap]) Tryz.func162 rfl rfl rfl ?_
 refine WC.seq (WC.reg ?_)
 refine WL.e 1 rfl ?_
 refine WL.nil (WN.thn (WC.seq (WC.seq (WC.reg ?_))))
 refine WL.e 1 rfl ?_
 refine WL.v (Runs.llen Tryz.underlying33 rfl rfl) rfl ?_
 refine WL.v (Runs.boolT (c := false) (Runs.lss rfl rfl) (by rw [decide_eq_false_iff_not, List.length_cons]; omega)) rfl ?_
 refine WL.nil (WN.thn ?_)
 refine WC.condF rfl (rfl) ?_
 refine WC.skip (WN.thn (WC.seq (WC.reg ?_)))
 refine WL.e 1 rfl ?_
 refine WL.v (Runs.lidxN Tryz.underlying33 inf3 rfl rfl (n := 0) rfl (by rw [List.length_cons]; omega)) rfl ?_
 refine WL.v (Runs.intT (n := a) (Runs.loadR (f := Vi) (0 : Int) h hrd (n := 0) (by rw [List.length_cons]; omega) Tryz.underlying3 rfl rfl) rfl) rfl ?_
 refine WL.e 1 rfl ?_
 refine WL.nil (WN.thn (WC.seq (WC.seq (WC.reg ?_))))
 refine WL.e 1 rfl ?_
 refine WL.nil (WN.thn (WC.block ?_))
 refine WC.loop (σ := Nat) (fun q_ => [(0, .slice (some ad) (a :: l).length cap), (3, Vi ((l.take q_).foldl max a)), (4, .int .i64 ((q_ + 1 : Nat) : Int))]) (fun q_ w => q_ ≤ l.length ∧ St W F cs w) (fun q_ => l.length - q_) (0) (by repeat (first | exact trivial | refine ⟨rfl, ?_⟩)) (⟨by omega, h⟩) ?_
 rintro i w1 ⟨hi, hL⟩
 try dsimp only at hi hL
 refine WC.sub (s := [(0, .slice (some ad) (a :: l).length cap), (3, Vi ((l.take i).foldl max a)), (4, .int .i64 ((i + 1 : Nat) : Int))]) (by repeat (first | exact trivial | refine ⟨rfl, ?_⟩)) ?_
 have hll : (a :: l).length = l.length + 1 := rfl
 refine WC.seq (WC.seq (WC.reg ?_))
 refine WL.e 2 rfl ?_
 refine WL.v (Runs.llen Tryz.underlying33 rfl rfl) rfl ?_
 refine WL.e 1 rfl ?_
 refine WL.nil (WN.thn ?_)
 refine WC.cond rfl (fun c2 => ?_) (fun c2 => ?_)
 ·try simp only [dt, df, nt, nf, ba, il, ie] at c2
  first
  |(exfalso; omega)
  |skip
   refine WC.skip (WN.thn (WC.seq (WC.block (WC.reg ?_))))
   refine WL.e 3 rfl ?_
   refine WL.v (Runs.lidxN Tryz.underlying33 inf3 rfl rfl (n := i + 1) rfl (by omega)) rfl ?_
   refine WL.v (Runs.intT (n := l.getD i 0) (Runs.loadR (f := Vi) (0 : Int) hL hrd (n := i + 1) (by omega) Tryz.underlying3 rfl rfl) (by simp)) rfl ?_
   refine WL.v (Runs.max rfl rfl) rfl ?_
   refine WL.e 1 rfl ?_
   refine WL.nil (WN.blk (WN.thn (WC.reg ?_)))
   refine WL.e 1 rfl ?_
   refine WL.v (Runs.addn rfl rfl (by omega)) rfl ?_
   refine WL.e 1 rfl ?_
   refine WL.nil ?_
   refine WN.again (i + 1) (by omega) ⟨rfl, ?_, rfl, trivial⟩ ⟨by omega, hL⟩
   show _ = some (Vi ((l.take (i + 1)).foldl max a))
   rw [max_step _ _ _ (by omega)]
   rfl
 ·try simp only [dt, df, nt, nf, ba, il, ie] at c2
  first
  |(exfalso; omega)
  |skip
   refine WC.exit (WX.thn (WX.cut (WX.hit (WN.thn (WC.seq ?_)))))
   refine WC.reg ?_
   refine WL.e 2 rfl ?_
   refine WL.nil (WN.thn (WC.ret ?_))
   obtain rfl : i = l.length := by omega
   refine ret1 rfl rfl ⟨?_, hL⟩
   rw [List.take_of_length_le (Nat.le_refl _)]
theorem worst_1 {W : World} {F : Snap} {cs : List Res} (w : World) {A : Option Addr} {cap : Nat} (a : Int) (l : List Int) (h : St W F cs w) (hR : RdS (Kd.one Vi) F A (a :: l)) (hn : (a :: l).length ≤ 100000) : Calls Tryz.prog 140 #[.slice A (a :: l).length cap] w fun e w' => e = .returned (Vi (worst (a :: l))) ∧ St W F cs w'  := by
 refine enter (P := Tryz.prog) (args := [.slice A (a :: l).length cap]) Tryz.func140 rfl rfl rfl ?_
 obtain ⟨ad, rfl, hrd⟩ := rd1 hR (by rw [List.length_cons]; omega)
 refine WC.seq (WC.reg ?_)
 refine WL.e 1 rfl ?_
 refine WL.nil (WN.thn (WC.seq (WC.seq (WC.reg ?_))))
 refine WL.e 1 rfl ?_
 refine WL.v (Runs.llen Tryz.underlying33 rfl rfl) rfl ?_
 refine WL.v (Runs.boolT (c := false) (Runs.eql rfl rfl) (by rw [decide_eq_false_iff_not, List.length_cons]; omega)) rfl ?_
 refine WL.nil (WN.thn ?_)
 refine WC.condF rfl (rfl) ?_
 refine WC.skip (WN.thn (WC.seq (WC.reg ?_)))
 refine WL.e 1 rfl ?_
 refine WL.call can162 rfl rfl (max_c _ a l h hrd hn) ?_
 rintro _ w1 ⟨rfl, h1⟩
 refine ⟨_, rfl, ?_⟩
 refine WL.e 1 rfl ?_
 refine WL.nil (WN.thn (WC.ret ?_))
 exact ret1 rfl rfl ⟨rfl, h1⟩
theorem worst_0 {W : World} {F : Snap} {cs : List Res} (w : World) {A : Option Addr} {cap : Nat} (h : St W F cs w) : Calls Tryz.prog 140 #[.slice A 0 cap] w fun e w' => e = .returned (Vi (worst [])) ∧ St W F cs w'  := by
 refine enter (P := Tryz.prog) (args := [.slice A 0 cap]) Tryz.func140 rfl rfl rfl ?_
 refine WC.seq (WC.reg ?_)
 refine WL.e 1 rfl ?_
 refine WL.nil (WN.thn (WC.seq (WC.seq (WC.reg ?_))))
 refine WL.e 1 rfl ?_
 refine WL.v (Runs.llen Tryz.underlying33 rfl rfl) rfl ?_
 refine WL.e 1 rfl ?_
 refine WL.nil (WN.thn ?_)
 refine WC.condT rfl (rfl) ?_
 refine WC.seq (WC.reg ?_)
 refine WL.e 1 rfl ?_
 refine WL.nil (WN.thn (WC.ret ?_))
 exact ret1 rfl rfl ⟨rfl, h⟩
theorem worst_c {W : World} {F : Snap} {cs : List Res} (w : World) {A : Option Addr} {cap : Nat} (xs : List Int) (h : St W F cs w) (hR : RdS (Kd.one Vi) F A xs) (hn : xs.length ≤ 100000) : Calls Tryz.prog 140 #[.slice A xs.length cap] w fun e w' => e = .returned (Vi (worst xs)) ∧ St W F cs w' := by
 cases xs with
 |nil => exact worst_0 w h
 |cons a l => exact worst_1 w a l h hR hn
theorem state_c {W : World} {F : Snap} {cs : List Res} (w : World) {bt i j mv mc : Nat} {lv lc : List (Int × Value)} {t : T} (h : St W F cs w) (ht : TR F cs bt i j mv mc lv lc t) : Calls Tryz.prog 45 #[.pointer (some ⟨bt, 0, none⟩)] w fun e w' => e = .returned (Vi t.state) ∧ St W F cs w'  := by
 refine enter (P := Tryz.prog) (args := [.pointer (some ⟨bt, 0, none⟩)]) Tryz.func45 rfl rfl rfl ?_
 obtain ⟨A, cap, hs0, hR⟩ := ht.s0
 have hpos := ht.pos
 have hsmall := ht.small
 refine WC.seq (WC.reg ?_)
 refine WL.e 1 rfl ?_
 refine WL.nil (WN.thn (WC.seq (WC.seq (WC.reg ?_))))
 refine WL.e 1 rfl ?_
 refine WL.v (Runs.peql Tryz.underlying97 rfl rfl) rfl ?_
 refine WL.nil (WN.thn ?_)
 refine WC.condF rfl (rfl) ?_
 refine WC.skip (WN.thn (WC.seq (WC.seq (WC.reg ?_))))
 refine WL.e 3 rfl ?_
 refine WL.v (Runs.load1 Tryz.underlying136 rfl rfl (h.cell ht.s1)) rfl ?_
 refine WL.range h i ht.iv Tryz.underlying136 rfl rfl ?_
 intro it w1 h1
 try simp only [lz, ls, ez, es'] at h1
 refine WL.nil (WN.thn (WC.block ?_))
 refine WC.loop (σ := Array Nat) (fun q_ => [(0, .pointer (some ⟨bt, 0, none⟩)), (11, .pointer (some ⟨it, 0, none⟩))]) (fun q_ w => (∀ p, p ∈ q_ → t.vs[p]? ≠ some (some false)) ∧ St W F ([(it, .mapIter (some mv) lv.length q_ lv.length)] :: cs) w) (fun q_ => togo lv.length q_) (#[]) (by repeat (first | exact trivial | refine ⟨rfl, ?_⟩)) (⟨by simp, h1⟩) ?_
 rintro seen w2 ⟨hq, hL⟩
 try dsimp only at hq hL
 refine WC.sub (s := [(0, .pointer (some ⟨bt, 0, none⟩)), (11, .pointer (some ⟨it, 0, none⟩))]) (by repeat (first | exact trivial | refine ⟨rfl, ?_⟩)) ?_
 refine WC.seq (WC.reg ?_)
 refine WL.next1 hL 0 (i + 1) rfl ht.iv rfl rfl ?_
 intro on wn hnx
 refine WL.v (Runs.extract rfl (nxa0 on)) rfl ?_
 refine WL.nil (WN.thn (WC.seq ?_))
 refine WC.cond rfl (fun c3 => ?_) (fun c3 => ?_)
 ·try simp only [dt, df, nt, nf, ba, il, ie] at c3
  first
  |(exfalso; omega)
  |skip
   refine WC.skip (WN.thn (WC.block (WC.seq (WC.reg ?_))))
   obtain ⟨p, kv, rfl, hp, hps, hS⟩ : ∃ p kv, on = some kv ∧ lv[p]? = some kv ∧ p ∉ seen ∧ St W F ([(it, .mapIter (some mv) lv.length (seen.push p) lv.length)] :: cs) wn := by
    rcases hnx with ⟨rfl, _⟩ | hnx
    ·simp_all
    ·exact hnx
   obtain ⟨ov, hov, hpo⟩ := ht.rv.at_ hp
   refine WL.v (Runs.entry hS 0 (i + 1) rfl ht.iv hp rfl) rfl ?_
   refine WL.e 2 rfl ?_
   refine WL.nil (WN.thn (WC.seq ?_))
   cases hov2 : ov
   ·rw [hov2] at hpo hov
    obtain ⟨k0, kx⟩ := kv
    obtain rfl : kx = .pointer none := hpo
    refine WC.reg ?_
    refine WL.e 1 rfl ?_
    refine WL.v (Runs.pneq Tryz.underlying140 rfl rfl) rfl ?_
    refine WL.e 6 rfl ?_
    refine WL.nil (WN.thn ?_)
    refine WC.condF rfl (rfl) ?_
    refine WC.skip (WN.blk ?_)
    refine WN.again (seen.push p) (togo_push (List.getElem?_eq_some_iff.1 hp).1 hps) ⟨rfl, rfl, trivial⟩ ⟨?_, hS⟩
    intro p' hp'
    rcases Array.mem_push.1 hp' with hp' | rfl
    ·exact hq p' hp'
    ·rw [hov]; simp_all
   ·rename_i bv
    rw [hov2] at hpo hov
    obtain ⟨k0, kx⟩ := kv
    obtain ⟨ap, rfl, hpb⟩ : ∃ a, kx = .pointer (some a) ∧ cellF F a = some (.bool bv) := hpo
    refine WC.reg ?_
    refine WL.e 1 rfl ?_
    refine WL.v (Runs.pneq Tryz.underlying140 rfl rfl) rfl ?_
    refine WL.e 3 rfl ?_
    refine WL.gon rfl rfl rfl ?_
    refine WL.v (Runs.load1 Tryz.underlying4 rfl rfl (hS.cell hpb)) rfl ?_
    refine WL.e 2 rfl ?_
    refine WL.nil (WN.thn ?_)
    refine WC.cond rfl (fun c4 => ?_) (fun c4 => ?_)
    ·try simp only [dt, df, nt, nf, ba, il, ie] at c4
     first
     |(exfalso; omega)
     |skip
      refine WC.seq (WC.reg ?_)
      refine WL.e 1 rfl ?_
      refine WL.nil (WN.thn (WC.ret ?_))
      refine ret1 rfl rfl ⟨?_, hS.drop 0⟩
      have : some false ∈ t.vs := List.mem_of_getElem? (i := p) (by rw [hov]; simp_all)
      simp [T.state, this]
    ·try simp only [dt, df, nt, nf, ba, il, ie] at c4
     first
     |(exfalso; omega)
     |skip
      refine WC.skip (WN.blk ?_)
      refine WN.again (seen.push p) (togo_push (List.getElem?_eq_some_iff.1 hp).1 hps) ⟨rfl, rfl, trivial⟩ ⟨?_, hS⟩
      intro p' hp'
      rcases Array.mem_push.1 hp' with hp' | rfl
      ·exact hq p' hp'
      ·rw [hov]; simp_all
 ·try simp only [dt, df, nt, nf, ba, il, ie] at c3
  first
  |(exfalso; omega)
  |skip
   refine WC.exit (WX.thn (WX.cut (WX.hit (WN.thn (WC.seq ?_)))))
   refine WC.block (WC.seq ?_)
   obtain ⟨rfl, hall, hS2⟩ : on = none ∧ (∀ p, p < lv.length → p ∈ seen) ∧ St W F ([(it, .mapIter (some mv) lv.length seen lv.length)] :: cs) wn := by
    rcases hnx with hnx | ⟨_, _, rfl, _⟩
    ·exact hnx
    ·simp_all
   have hnf := not_false ht.rv hq hall
   refine WC.dreg (fun w_ => St W _ _ w_) (fun k => Nat.beq k 8) mixed (by kernel_rfl) (hS2.drew) (fun hx => ?_)
   refine WM.pure hx (by rfl) rfl (fun w_ => Runs.move rfl) rfl ?_
   refine WM.pure hx (by rfl) rfl (fun w_ => Runs.nilCheckP rfl) rfl ?_
   refine WM.pure hx (by rfl) rfl (fun w_ => Runs.fld fld139_0 rfl) rfl ?_
   refine WM.val 12 hx (by rfl) rfl (by kernel_rfl) (fun w_ hC_ => Runs.load1 Tryz.underlying33 rfl rfl (hC_.cell hs0)) rfl ?_
   refine WM.pure hx (by rfl) rfl (fun w_ => Runs.move rfl) rfl ?_
   refine WM.pure hx (by rfl) rfl (fun w_ => Runs.nilCheckP rfl) rfl ?_
   refine WM.pure hx (by rfl) rfl (fun w_ => Runs.fld fld139_1 rfl) rfl ?_
   refine WM.val 12 hx (by rfl) rfl (by kernel_rfl) (fun w_ hC_ => Runs.load1 Tryz.underlying136 rfl rfl (hC_.cell ht.s1)) rfl ?_
   refine WM.toD hx rfl (by decide) (by kernel_rfl) ?_
   intro w5 h5
   refine WD.op (by rfl) rfl (by kernel_rfl) ?_
   refine WL.call can89 rfl rfl (silent_bool _ (i + 1) h5 ht.iv ht.rv hR ht.pos ht.nd (by omega)) ?_
   rintro _ w6 ⟨G7, A7, cap7, hle7, rfl, hc7, hrd7, h6⟩
   refine ⟨_, rfl, ?_⟩
   refine WL.nil (WD.next ?_)
   refine WD.pure hx (by rfl) (fun w_ => Runs.llen Tryz.underlying33 rfl rfl) rfl ?_
   refine WD.pure hx (by rfl) (fun w_ => Runs.gtr rfl rfl) rfl ?_
   refine WD.pure hx (by rfl) (fun w_ => Runs.assign rfl) rfl ?_
   refine WD.fin rfl (by kernel_rfl) ?_
   refine WN.thn ?_
   refine WC.cond rfl (fun c8 => ?_) (fun c8 => ?_)
   ·try simp only [dt, df, nt, nf, ba, il, ie] at c8
    first
    |(exfalso; omega)
    |skip
     refine WC.seq (WC.reg ?_)
     refine WL.e 1 rfl ?_
     refine WL.nil (WN.thn (WC.ret ?_))
     refine ret1 rfl rfl ⟨?_, (h6.drop 0).weak hle7⟩
     simp only [T.state, hnf, if_false]
     rw [if_pos (by omega)]
   ·try simp only [dt, df, nt, nf, ba, il, ie] at c8
    first
    |(exfalso; omega)
    |skip
     refine WC.seq ?_
     refine WC.dreg (fun w_ => St W _ _ w_) (fun k => Nat.beq k 8) mixed (by kernel_rfl) (h6.drew) (fun hx => ?_)
     refine WM.pure hx (by rfl) rfl (fun w_ => Runs.move rfl) rfl ?_
     refine WM.pure hx (by rfl) rfl (fun w_ => Runs.nilCheckP rfl) rfl ?_
     refine WM.pure hx (by rfl) rfl (fun w_ => Runs.fld fld139_0 rfl) rfl ?_
     refine WM.val 12 hx (by rfl) rfl (by kernel_rfl) (fun w_ hC_ => Runs.load1 Tryz.underlying33 rfl rfl (hC_.cell (cellF_le hle7 hs0))) rfl ?_
     refine WM.pure hx (by rfl) rfl (fun w_ => Runs.move rfl) rfl ?_
     refine WM.pure hx (by rfl) rfl (fun w_ => Runs.nilCheckP rfl) rfl ?_
     refine WM.pure hx (by rfl) rfl (fun w_ => Runs.fld fld139_2 rfl) rfl ?_
     refine WM.val 12 hx (by rfl) rfl (by kernel_rfl) (fun w_ hC_ => Runs.load1 Tryz.underlying137 rfl rfl (hC_.cell (cellF_le hle7 ht.s2))) rfl ?_
     refine WM.toD hx rfl (by decide) (by kernel_rfl) ?_
     intro w9 h9
     refine WD.op (by rfl) rfl (by kernel_rfl) ?_
     refine WL.call can90 rfl rfl (silent_int _ (j + 1) h9 ht.ic (ht.rc.mono hle7) (hR.mono hle7) ht.pos ht.nd (by omega)) ?_
     rintro _ w10 ⟨G11, A11, cap11, hle11, rfl, hc11, hrd11, h10⟩
     refine ⟨_, rfl, ?_⟩
     refine WL.nil (WD.next ?_)
     refine WD.pure hx (by rfl) (fun w_ => Runs.llen Tryz.underlying33 rfl rfl) rfl ?_
     refine WD.pure hx (by rfl) (fun w_ => Runs.gtr rfl rfl) rfl ?_
     refine WD.pure hx (by rfl) (fun w_ => Runs.assign rfl) rfl ?_
     refine WD.fin rfl (by kernel_rfl) ?_
     refine WN.thn ?_
     refine WC.cond rfl (fun c12 => ?_) (fun c12 => ?_)
     ·try simp only [dt, df, nt, nf, ba, il, ie] at c12
      first
      |(exfalso; omega)
      |skip
       refine WC.seq (WC.reg ?_)
       refine WL.e 1 rfl ?_
       refine WL.nil (WN.thn (WC.ret ?_))
       refine ret1 rfl rfl ⟨?_, (h10.drop 0).weak (Le.trans hle7 hle11)⟩
       simp only [T.state, hnf, if_false]
       rw [if_neg (by omega), if_pos (by omega)]
     ·try simp only [dt, df, nt, nf, ba, il, ie] at c12
      first
      |(exfalso; omega)
      |skip
       refine WC.skip (WN.blk (WN.thn (WC.seq (WC.reg ?_))))
       refine WL.e 1 rfl ?_
       refine WL.nil (WN.thn (WC.ret ?_))
       refine ret1 rfl rfl ⟨?_, (h10.drop 0).weak (Le.trans hle7 hle11)⟩
       simp only [T.state, hnf, if_false]
       rw [if_neg (by omega), if_neg (by omega)]
end Tal
end Go.Proofs.YtifdpllfbaogcaaGreat
namespace Go.Proofs.YtifdpllfbaogcaaGreat
open Go Go.RowKit B
namespace Tal
theorem can45 : B.Can Tryz.prog 45 := ⟨_, Tryz.func45, by kernel_rfl, rfl⟩
theorem can129 : B.Can Tryz.prog 129 := ⟨_, Tryz.func129, by kernel_rfl, rfl⟩
theorem can130 : B.Can Tryz.prog 130 := ⟨_, Tryz.func130, by kernel_rfl, rfl⟩
theorem can140 : B.Can Tryz.prog 140 := ⟨_, Tryz.func140, by kernel_rfl, rfl⟩
theorem TR.mono {F G : Snap} {cs : List Res} {bt i j mv mc : Nat} {lv lc : List (Int × Value)} {t : T} (hle : Le F G) (h : TR F cs bt i j mv mc lv lc t) : TR G cs bt i j mv mc lv lc t := by
 obtain ⟨⟨A, cap, h1, h2⟩, h3, h4, h5, h6, h7, h8, h9, h10, h11, h12⟩ := h
 exact ⟨⟨A, cap, cellF_le hle h1, h2.mono hle⟩, cellF_le hle h3, cellF_le hle h4, h5, h6, h7.mono hle, h8.mono hle, h9, h10, h11, h12⟩
theorem TR.vote {F G : Snap} {cs : List Res} {bt i j mv mc : Nat} {lv lc : List (Int × Value)} {t : T} {l1 : List (Int × Value)} {vs' : List (Option Bool)} (h : TR F cs bt i j mv mc lv lc t) (hle : Le F G) (hm : MR Value.bool G t.ns vs' l1) : TR G (cs.set i [(mv, mobj l1)]) bt i j mv mc l1 lc { t with vs := vs' } := by
 obtain ⟨⟨A, cap, h1, h2⟩, h3, h4, h5, h6, h7, h8, h9, h10, h11, h12⟩ := h
 exact ⟨⟨A, cap, cellF_le hle h1, h2.mono hle⟩, cellF_le hle h3, cellF_le hle h4, by rw [List.getElem?_set_self (List.getElem?_eq_some_iff.1 h5).1], by rw [List.getElem?_set_ne h12]; exact h6, hm, h8.mono hle, h9, h10, h11, h12⟩
theorem TR.exit {F G : Snap} {cs : List Res} {bt i j mv mc : Nat} {lv lc : List (Int × Value)} {t : T} {l1 : List (Int × Value)} {cs' : List (Option Int)} (h : TR F cs bt i j mv mc lv lc t) (hle : Le F G) (hm : MR Vi G t.ns cs' l1) : TR G (cs.set j [(mc, mobj l1)]) bt i j mv mc lv l1 { t with cs := cs' } := by
 obtain ⟨⟨A, cap, h1, h2⟩, h3, h4, h5, h6, h7, h8, h9, h10, h11, h12⟩ := h
 exact ⟨⟨A, cap, cellF_le hle h1, h2.mono hle⟩, cellF_le hle h3, cellF_le hle h4, by rw [List.getElem?_set_ne (Ne.symm h12)]; exact h5, by rw [List.getElem?_set_self (List.getElem?_eq_some_iff.1 h6).1], h7.mono hle, hm, h9, h10, h11, h12⟩
theorem exit_no {t : T} {n c : Int} (h : c < 0 ∨ 255 < c) : t.exit n c = (1, t) := if_pos h
theorem exit_yes {t : T} {n c : Int} (h : ¬ (c < 0 ∨ 255 < c)) : t.exit n c = ((say t.ns t.cs n c (decide (t.state = 1))).1, { t with cs := (say t.ns t.cs n c (decide (t.state = 1))).2 }) := if_neg h
theorem vote_c {W : World} {F : Snap} {cs : List Res} (w : World) (n : Int) (b : Bool) {bt i j mv mc : Nat} {lv lc : List (Int × Value)} {t : T} (h : St W F cs w) (ht : TR F cs bt i j mv mc lv lc t) : Calls Tryz.prog 87 #[.pointer (some ⟨bt, 0, none⟩), Vi n, .bool b] w fun e w' => ∃ G lv', Le F G ∧ e = .returned (Vi (t.vote n b).1) ∧ St W G (cs.set i [(mv, mobj lv')]) w' ∧ TR G (cs.set i [(mv, mobj lv')]) bt i j mv mc lv' lc (t.vote n b).2  := by
 refine enter (P := Tryz.prog) (args := [.pointer (some ⟨bt, 0, none⟩), Vi n, .bool b]) Tryz.func87 rfl rfl rfl ?_
 obtain ⟨A, cap, hs0, hR⟩ := ht.s0
 have hpos := ht.pos
 have hsmall := ht.small
 refine WC.seq (WC.reg ?_)
 refine WL.e 1 rfl ?_
 refine WL.nil (WN.thn (WC.seq (WC.seq (WC.reg ?_))))
 refine WL.e 1 rfl ?_
 refine WL.v (Runs.peql Tryz.underlying97 rfl rfl) rfl ?_
 refine WL.nil (WN.thn ?_)
 refine WC.condF rfl (rfl) ?_
 refine WC.skip (WN.thn (WC.seq ?_))
 refine WC.dreg (fun w_ => St W _ _ w_) (fun k => Nat.beq k 9) mixed (by kernel_rfl) (h.drew) (fun hx => ?_)
 refine WM.pure hx (by rfl) rfl (fun w_ => Runs.move rfl) rfl ?_
 refine WM.pure hx (by rfl) rfl (fun w_ => Runs.nilCheckP rfl) rfl ?_
 refine WM.pure hx (by rfl) rfl (fun w_ => Runs.fld fld139_1 rfl) rfl ?_
 refine WM.val 12 hx (by rfl) rfl (by kernel_rfl) (fun w_ hC_ => Runs.load1 Tryz.underlying136 rfl rfl (hC_.cell ht.s1)) rfl ?_
 refine WM.pure hx (by rfl) rfl (fun w_ => Runs.move rfl) rfl ?_
 refine WM.pure hx (by rfl) rfl (fun w_ => Runs.move rfl) rfl ?_
 refine WM.pure hx (by rfl) rfl (fun w_ => Runs.move rfl) rfl ?_
 refine WM.call 12 hx (by rfl) rfl (by kernel_rfl) can45 rfl rfl (fun w_ hC_ => state_c _ hC_ ht) ?_
 refine WM.pure hx (by rfl) rfl (fun w_ => Runs.eql rfl rfl) rfl ?_
 refine WM.toD hx rfl (by decide) (by kernel_rfl) ?_
 intro w1 h1
 refine WD.op (by rfl) rfl (by kernel_rfl) ?_
 refine WL.call can129 rfl rfl (say_bool _ i n b _ h1 ht.iv ht.rv) ?_
 rintro _ w2 ⟨G, l1, hle, rfl, hm1, h2⟩
 refine ⟨_, rfl, ?_⟩
 refine WL.nil (WD.next ?_)
 refine WD.pure hx (by rfl) (fun w_ => Runs.assign rfl) rfl ?_
 refine WD.fin rfl (by kernel_rfl) ?_
 refine WN.thn (WC.ret ?_)
 exact ret1 rfl rfl ⟨G, l1, hle, rfl, h2, ht.vote hle hm1⟩
theorem exit_1 {W : World} {F : Snap} {cs : List Res} (w : World) (n c : Int) {bt i j mv mc : Nat} {lv lc : List (Int × Value)} {t : T} (h : St W F cs w) (ht : TR F cs bt i j mv mc lv lc t) (hc : c < 0) : Calls Tryz.prog 88 #[.pointer (some ⟨bt, 0, none⟩), Vi n, Vi c] w fun e w' => ∃ G lc', Le F G ∧ e = .returned (Vi (t.exit n c).1) ∧ St W G (cs.set j [(mc, mobj lc')]) w' ∧ TR G (cs.set j [(mc, mobj lc')]) bt i j mv mc lv lc' (t.exit n c).2  := by
 refine enter (P := Tryz.prog) (args := [.pointer (some ⟨bt, 0, none⟩), Vi n, Vi c]) Tryz.func88 rfl rfl rfl ?_
 obtain ⟨A, cap, hs0, hR⟩ := ht.s0
 have hpos := ht.pos
 have hsmall := ht.small
 have hbad : c < 0 ∨ 255 < c := by omega
 refine WC.seq (WC.reg ?_)
 refine WL.e 1 rfl ?_
 refine WL.nil (WN.thn (WC.seq (WC.seq (WC.reg ?_))))
 refine WL.e 1 rfl ?_
 refine WL.v (Runs.peql Tryz.underlying97 rfl rfl) rfl ?_
 refine WL.e 2 rfl ?_
 refine WL.gon rfl rfl rfl ?_
 refine WL.v (Runs.boolT (c := true) (Runs.lss rfl rfl) (by rw [decide_eq_true_eq]; omega)) rfl ?_
 refine WL.e 5 rfl ?_
 refine WL.nil (WN.thn ?_)
 refine WC.condT rfl (rfl) ?_
 refine WC.seq (WC.reg ?_)
 refine WL.e 1 rfl ?_
 refine WL.nil (WN.thn (WC.ret ?_))
 refine ret1 rfl rfl ⟨F, lc, Le.refl _, ?_, by rw [set_self ht.ic]; exact h, by rw [set_self ht.ic, exit_no hbad]; exact ht⟩
 rw [exit_no hbad]
theorem exit_2 {W : World} {F : Snap} {cs : List Res} (w : World) (n c : Int) {bt i j mv mc : Nat} {lv lc : List (Int × Value)} {t : T} (h : St W F cs w) (ht : TR F cs bt i j mv mc lv lc t) (h0 : 0 ≤ c) (hc : 255 < c) : Calls Tryz.prog 88 #[.pointer (some ⟨bt, 0, none⟩), Vi n, Vi c] w fun e w' => ∃ G lc', Le F G ∧ e = .returned (Vi (t.exit n c).1) ∧ St W G (cs.set j [(mc, mobj lc')]) w' ∧ TR G (cs.set j [(mc, mobj lc')]) bt i j mv mc lv lc' (t.exit n c).2  := by
 refine enter (P := Tryz.prog) (args := [.pointer (some ⟨bt, 0, none⟩), Vi n, Vi c]) Tryz.func88 rfl rfl rfl ?_
 obtain ⟨A, cap, hs0, hR⟩ := ht.s0
 have hpos := ht.pos
 have hsmall := ht.small
 have hbad : c < 0 ∨ 255 < c := by omega
 refine WC.seq (WC.reg ?_)
 refine WL.e 1 rfl ?_
 refine WL.nil (WN.thn (WC.seq (WC.seq (WC.reg ?_))))
 refine WL.e 1 rfl ?_
 refine WL.v (Runs.peql Tryz.underlying97 rfl rfl) rfl ?_
 refine WL.e 2 rfl ?_
 refine WL.gon rfl rfl rfl ?_
 refine WL.v (Runs.boolT (c := false) (Runs.lss rfl rfl) (by rw [decide_eq_false_iff_not]; omega)) rfl ?_
 refine WL.e 3 rfl ?_
 refine WL.gon rfl rfl rfl ?_
 refine WL.v (Runs.boolT (c := true) (Runs.gtr rfl rfl) (by rw [decide_eq_true_eq]; omega)) rfl ?_
 refine WL.e 1 rfl ?_
 refine WL.nil (WN.thn ?_)
 refine WC.condT rfl (rfl) ?_
 refine WC.seq (WC.reg ?_)
 refine WL.e 1 rfl ?_
 refine WL.nil (WN.thn (WC.ret ?_))
 refine ret1 rfl rfl ⟨F, lc, Le.refl _, ?_, by rw [set_self ht.ic]; exact h, by rw [set_self ht.ic, exit_no hbad]; exact ht⟩
 rw [exit_no hbad]
theorem exit_3 {W : World} {F : Snap} {cs : List Res} (w : World) (n c : Int) {bt i j mv mc : Nat} {lv lc : List (Int × Value)} {t : T} (h : St W F cs w) (ht : TR F cs bt i j mv mc lv lc t) (h0 : 0 ≤ c) (hc : c ≤ 255) : Calls Tryz.prog 88 #[.pointer (some ⟨bt, 0, none⟩), Vi n, Vi c] w fun e w' => ∃ G lc', Le F G ∧ e = .returned (Vi (t.exit n c).1) ∧ St W G (cs.set j [(mc, mobj lc')]) w' ∧ TR G (cs.set j [(mc, mobj lc')]) bt i j mv mc lv lc' (t.exit n c).2  := by
 refine enter (P := Tryz.prog) (args := [.pointer (some ⟨bt, 0, none⟩), Vi n, Vi c]) Tryz.func88 rfl rfl rfl ?_
 obtain ⟨A, cap, hs0, hR⟩ := ht.s0
 have hpos := ht.pos
 have hsmall := ht.small
 have hbad : ¬ (c < 0 ∨ 255 < c) := by omega
 refine WC.seq (WC.reg ?_)
 refine WL.e 1 rfl ?_
 refine WL.nil (WN.thn (WC.seq (WC.seq (WC.reg ?_))))
 refine WL.e 1 rfl ?_
 refine WL.v (Runs.peql Tryz.underlying97 rfl rfl) rfl ?_
 refine WL.e 2 rfl ?_
 refine WL.gon rfl rfl rfl ?_
 refine WL.v (Runs.boolT (c := false) (Runs.lss rfl rfl) (by rw [decide_eq_false_iff_not]; omega)) rfl ?_
 refine WL.e 3 rfl ?_
 refine WL.gon rfl rfl rfl ?_
 refine WL.v (Runs.boolT (c := false) (Runs.gtr rfl rfl) (by rw [decide_eq_false_iff_not]; omega)) rfl ?_
 refine WL.e 1 rfl ?_
 refine WL.nil (WN.thn ?_)
 refine WC.condF rfl (rfl) ?_
 refine WC.skip (WN.thn (WC.seq ?_))
 refine WC.dreg (fun w_ => St W _ _ w_) (fun k => Nat.beq k 9) mixed (by kernel_rfl) (h.drew) (fun hx => ?_)
 refine WM.pure hx (by rfl) rfl (fun w_ => Runs.move rfl) rfl ?_
 refine WM.pure hx (by rfl) rfl (fun w_ => Runs.nilCheckP rfl) rfl ?_
 refine WM.pure hx (by rfl) rfl (fun w_ => Runs.fld fld139_2 rfl) rfl ?_
 refine WM.val 12 hx (by rfl) rfl (by kernel_rfl) (fun w_ hC_ => Runs.load1 Tryz.underlying137 rfl rfl (hC_.cell ht.s2)) rfl ?_
 refine WM.pure hx (by rfl) rfl (fun w_ => Runs.move rfl) rfl ?_
 refine WM.pure hx (by rfl) rfl (fun w_ => Runs.move rfl) rfl ?_
 refine WM.pure hx (by rfl) rfl (fun w_ => Runs.move rfl) rfl ?_
 refine WM.call 12 hx (by rfl) rfl (by kernel_rfl) can45 rfl rfl (fun w_ hC_ => state_c _ hC_ ht) ?_
 refine WM.pure hx (by rfl) rfl (fun w_ => Runs.eql rfl rfl) rfl ?_
 refine WM.toD hx rfl (by decide) (by kernel_rfl) ?_
 intro w1 h1
 refine WD.op (by rfl) rfl (by kernel_rfl) ?_
 refine WL.call can130 rfl rfl (say_int _ j n c _ h1 ht.ic ht.rc) ?_
 rintro _ w2 ⟨G, l1, hle, rfl, hm1, h2⟩
 refine ⟨_, rfl, ?_⟩
 refine WL.nil (WD.next ?_)
 refine WD.pure hx (by rfl) (fun w_ => Runs.assign rfl) rfl ?_
 refine WD.fin rfl (by kernel_rfl) ?_
 refine WN.thn (WC.ret ?_)
 refine ret1 rfl rfl ⟨G, l1, hle, ?_, h2, ?_⟩
 ·rw [exit_yes hbad]
 ·rw [exit_yes hbad]; exact ht.exit hle hm1
theorem exit_c {W : World} {F : Snap} {cs : List Res} (w : World) (n c : Int) {bt i j mv mc : Nat} {lv lc : List (Int × Value)} {t : T} (h : St W F cs w) (ht : TR F cs bt i j mv mc lv lc t) : Calls Tryz.prog 88 #[.pointer (some ⟨bt, 0, none⟩), Vi n, Vi c] w fun e w' => ∃ G lc', Le F G ∧ e = .returned (Vi (t.exit n c).1) ∧ St W G (cs.set j [(mc, mobj lc')]) w' ∧ TR G (cs.set j [(mc, mobj lc')]) bt i j mv mc lv lc' (t.exit n c).2 := by
 by_cases h1 : c < 0
 ·exact exit_1 w n c h ht h1
 ·by_cases h2 : 255 < c
  ·exact exit_2 w n c h ht (by omega) h2
  ·exact exit_3 w n c h ht (by omega) (by omega)
theorem codes_all {t : T} (hl : t.cs.length = t.ns.length) (h : t.state = 3) : ∀ o ∈ t.cs, o.isSome = true := by
 unfold T.state at h
 split at h
 ·cases h
 ·split at h
  ·cases h
  ·split at h
   ·cases h
   ·rename_i h3
    exact (miss_none hl).1 (List.eq_nil_of_length_eq_zero (by omega))
theorem look_at {ns : List Int} {os : List (Option Int)} : ∀ {k : Nat}, ns.Nodup → os.length = ns.length → k < ns.length → look (ns.getD k 0) ns os = some (os.getD k none) := by
 induction ns generalizing os with
 |nil => intro k _ _ h; simp at h
 |cons m ns ih =>
  intro k hd hl hk
  cases os with
  |nil => simp at hl
  |cons o os =>
   have hd' := List.nodup_cons.1 hd
   cases k with
   |zero => simp [look]
   |succ k =>
    simp only [List.length_cons, Nat.add_lt_add_iff_right] at hk hl
    have hne : ns.getD k 0 ≠ m := fun e => hd'.1 (e ▸ mem_at hk)
    have := ih (os := os) hd'.2 (by simpa using hl) hk
    unfold look
    simp only [List.getD_cons_succ]
    rw [if_neg hne]
    exact this
theorem code_at {F : Snap} {ns : List Int} {os : List (Option Int)} {l : List (Int × Value)} {k : Nat} (hm : MR Vi F ns os l) (hd : ns.Nodup) (hk : k < ns.length) (ha : ∀ o ∈ os, o.isSome = true) : ∃ a, ((mfind (ns.getD k 0) l 0).map (·.2)).getD (.pointer none) = .pointer (some a) ∧ cellF F a = some (Vi ((os.map (·.getD 0)).getD k 0)) := by
 have hl := hm.len
 have h1 := look_at hd hl.1 hk
 rcases hm.find (ns.getD k 0) 0 with ⟨h2, _⟩ | ⟨o, i', v, h2, h3, h4⟩
 ·rw [h1] at h2; cases h2
 ·rw [h1] at h2
  simp only [Option.some.injEq] at h2
  have hk' : k < os.length := by omega
  have e : os.getD k none = os[k] := by rw [List.getD_eq_getElem?_getD, List.getElem?_eq_getElem hk']; rfl
  have hs := ha os[k] (List.getElem_mem hk')
  rw [e] at h2
  subst h2
  have e2 : (os.map (·.getD 0)).getD k 0 = (os[k]).getD 0 := by simp [List.getD_eq_getElem?_getD, List.getElem?_eq_getElem hk']
  rw [h3, e2]
  cases h5 : os[k] with
  |none => rw [h5] at hs; cases hs
  |some x =>
   rw [h5] at h4
   obtain ⟨a, h6, h7⟩ := h4
   exact ⟨a, by rw [← h6]; rfl, h7⟩
theorem code_c {W : World} {F : Snap} {cs : List Res} (w : World) {bt i j mv mc : Nat} {lv lc : List (Int × Value)} {t : T} (h : St W F cs w) (ht : TR F cs bt i j mv mc lv lc t) : Calls Tryz.prog 100 #[.pointer (some ⟨bt, 0, none⟩)] w fun e w' => e = .returned (Vi t.code) ∧ St W F cs w'  := by
 refine enter (P := Tryz.prog) (args := [.pointer (some ⟨bt, 0, none⟩)]) Tryz.func100 rfl rfl rfl ?_
 obtain ⟨A, cap, hs0, hR⟩ := ht.s0
 have hpos := ht.pos
 have hsmall := ht.small
 refine WC.seq (WC.reg ?_)
 refine WL.e 1 rfl ?_
 refine WL.nil (WN.thn (WC.seq (WC.seq (WC.reg ?_))))
 refine WL.e 1 rfl ?_
 refine WL.call can45 rfl rfl (state_c _ h ht) ?_
 rintro _ w1 ⟨rfl, h1⟩
 refine ⟨_, rfl, ?_⟩
 refine WL.e 1 rfl ?_
 refine WL.nil (WN.thn ?_)
 refine WC.cond rfl (fun c2 => ?_) (fun c2 => ?_)
 ·try simp only [dt, df, nt, nf, ba, il, ie] at c2
  first
  |(exfalso; omega)
  |skip
   refine WC.seq (WC.reg ?_)
   refine WL.e 1 rfl ?_
   refine WL.nil (WN.thn (WC.ret ?_))
   refine ret1 rfl rfl ⟨?_, h1⟩
   have : t.state ≠ 3 := by simp_all
   simp [T.code, this]
 ·try simp only [dt, df, nt, nf, ba, il, ie] at c2
  first
  |(exfalso; omega)
  |skip
   refine WC.skip (WN.thn (WC.seq (WC.reg ?_)))
   have hst : t.state = 3 := by simp_all
   have hall := codes_all ht.rc.len.1 hst
   have hcl := ht.rc.len.1
   obtain ⟨ad, rfl, hrd⟩ := rd1 hR hpos
   have hN0 := h1.nilRes
   refine WL.e 1 rfl ?_
   refine WL.nil (WN.thn (WC.seq (WC.seq (WC.reg ?_))))
   refine WL.e 3 rfl ?_
   refine WL.v (Runs.load1 Tryz.underlying33 rfl rfl (hN0.cell hs0)) rfl ?_
   refine WL.v (Runs.llen Tryz.underlying33 rfl rfl) rfl ?_
   refine WL.e 1 rfl ?_
   refine WL.nil (WN.thn (WC.block ?_))
   refine WC.loop (σ := Nat × Res × Value) (fun q_ => [(0, .pointer (some ⟨bt, 0, none⟩)), (3, q_.2.2), (12, .slice (some ad) t.ns.length cap), (13, .int .i64 (t.ns.length : Int)), (14, .int .i64 (q_.1 : Int))]) (fun q_ w => q_.1 ≤ t.ns.length ∧ Row 3 Vi q_.2.1 q_.2.2 ((t.cs.map (·.getD 0)).take q_.1) ∧ St W F (q_.2.1 :: cs) w) (fun q_ => t.ns.length - q_.1) (⟨0, [], .slice none 0 0⟩) (by repeat (first | exact trivial | refine ⟨rfl, ?_⟩)) (⟨by omega, Row.nil _ _, hN0⟩) ?_
   rintro ⟨k, r, v⟩ w3 ⟨hk, hro, hL⟩
   try dsimp only at hk hro hL
   refine WC.sub (s := [(0, .pointer (some ⟨bt, 0, none⟩)), (3, v), (12, .slice (some ad) t.ns.length cap), (13, .int .i64 (t.ns.length : Int)), (14, .int .i64 (k : Int))]) (by repeat (first | exact trivial | refine ⟨rfl, ?_⟩)) ?_
   obtain ⟨A1, cap1, rfl, hcap⟩ := hro.val
   have hlen : ((t.cs.map (·.getD 0)).take k).length = k := by rw [List.length_take, List.length_map]; omega
   have hac := fun h => code_at (k := k) ht.rc ht.nd h hall
   refine WC.seq (WC.reg ?_)
   refine WL.e 1 rfl ?_
   refine WL.nil (WN.thn (WC.seq ?_))
   refine WC.cond rfl (fun c4 => ?_) (fun c4 => ?_)
   ·try simp only [dt, df, nt, nf, ba, il, ie] at c4
    first
    |(exfalso; omega)
    |skip
     refine WC.skip (WN.thn (WC.seq (WC.block (WC.seq ?_))))
     obtain ⟨ac, hac1, hac2⟩ := hac (by omega)
     refine WC.reg ?_
     refine WL.v (Runs.lidxN Tryz.underlying33 inf3 rfl rfl (n := k) rfl (by omega)) rfl ?_
     refine WL.v (Runs.loadR (f := Vi) (0 : Int) hL hrd (n := k) (by omega) Tryz.underlying3 rfl rfl) rfl ?_
     refine WL.e 1 rfl ?_
     refine WL.nil (WN.thn (WC.reg ?_))
     refine WL.e 4 rfl ?_
     refine WL.v (Runs.load1 Tryz.underlying137 rfl rfl (hL.cell ht.s2)) rfl ?_
     refine WL.e 1 rfl ?_
     refine WL.v (Runs.valT (u := .pointer (some ac)) (Runs.lookup1 hL (j + 1) ht.ic Tryz.underlying137 Tryz.underlying3 inf167 rfl rfl) hac1) rfl ?_
     refine WL.e 1 rfl ?_
     refine WL.v (Runs.load1 Tryz.underlying3 rfl rfl (hL.cell hac2)) rfl ?_
     refine WL.lit (vs := (([(t.cs.map (·.getD 0)).getD k 0] : List Int)).map Vi) hL rfl Tryz.underlying33 inf3 rfl rfl rfl rfl rfl ?_
     intro lit27 w5 h5
     refine WL.app (ys := ([(t.cs.map (·.getD 0)).getD k 0] : List Int)) 1 h5 rfl rfl rfl rfl Tryz.underlying33 Tryz.underlying33 (.inr ⟨_, rfl⟩) inf3 rfl hro (Src.lit h5 0 rfl rfl rfl) rfl rfl (by first | omega | (simp []; done) | (simp []; omega)) (by first | omega | (simp []; done) | (simp []; omega)) ?_
     intro r6 v6 w7 hr6 h7
     simp only [lz, ls] at h7
     replace h7 := h7.drop 0
     simp only [ez, es'] at h7
     refine WL.e 1 rfl ?_
     refine WL.nil (WN.blk (WN.thn (WC.reg ?_)))
     refine WL.v (Runs.addn rfl rfl (by omega)) rfl ?_
     refine WL.e 1 rfl ?_
     refine WL.nil ?_
     refine WN.again (⟨k + 1, r6, v6⟩ : Nat × Res × Value) (by show t.ns.length - (k + 1) < t.ns.length - k; omega) ⟨rfl, rfl, rfl, rfl, rfl, trivial⟩ ⟨by show k + 1 ≤ _; omega, ?_, h7⟩
     have := hr6
     rwa [← take_nx (by simp; omega)] at this
   ·try simp only [dt, df, nt, nf, ba, il, ie] at c4
    first
    |(exfalso; omega)
    |skip
     refine WC.exit (WX.thn (WX.cut (WX.hit (WN.thn (WC.seq ?_)))))
     refine WC.reg ?_
     obtain rfl : k = t.ns.length := by omega
     obtain ⟨G, A2, cap2, hle, e2, hc2, hR2, hF⟩ := Row.gives hro hL
     injection e2 with e2
     obtain ⟨rfl, _, rfl⟩ := Value.slice.inj e2
     refine WL.e 1 rfl ?_
     refine WL.call can140 rfl rfl (worst_c _ _ hF hR2 (by rw [hlen]; omega)) ?_
     rintro _ w8 ⟨rfl, h8⟩
     refine ⟨_, rfl, ?_⟩
     refine WL.e 1 rfl ?_
     refine WL.nil (WN.thn (WC.ret ?_))
     refine ret1 rfl rfl ⟨?_, h8.weak hle⟩
     rw [List.take_of_length_le (by simp; omega)]
     simp [T.code, hst]
theorem missing_c {W : World} {F : Snap} {cs : List Res} (w : World) {bt i j mv mc : Nat} {lv lc : List (Int × Value)} {t : T} (h : St W F cs w) (ht : TR F cs bt i j mv mc lv lc t) : Calls Tryz.prog 117 #[.pointer (some ⟨bt, 0, none⟩)] w (Gives W F cs Vi t.missing)  := by
 refine enter (P := Tryz.prog) (args := [.pointer (some ⟨bt, 0, none⟩)]) Tryz.func117 rfl rfl rfl ?_
 obtain ⟨A, cap, hs0, hR⟩ := ht.s0
 have hpos := ht.pos
 have hsmall := ht.small
 refine WC.seq (WC.reg ?_)
 refine WL.e 1 rfl ?_
 refine WL.nil (WN.thn (WC.seq (WC.block (WC.seq (WC.reg ?_)))))
 refine WL.e 1 rfl ?_
 refine WL.v (Runs.peql Tryz.underlying97 rfl rfl) rfl ?_
 refine WL.e 1 rfl ?_
 refine WL.nil (WN.thn ?_)
 refine WC.condF rfl (rfl) ?_
 refine WC.seq (WC.reg ?_)
 refine WL.e 1 rfl ?_
 refine WL.call can45 rfl rfl (state_c _ h ht) ?_
 rintro _ w1 ⟨rfl, h1⟩
 refine ⟨_, rfl, ?_⟩
 refine WL.e 2 rfl ?_
 refine WL.nil (WN.thn ?_)
 refine WC.cond rfl (fun c2 => ?_) (fun c2 => ?_)
 ·try simp only [dt, df, nt, nf, ba, il, ie] at c2
  first
  |(exfalso; omega)
  |skip
   refine WC.seq ?_
   refine WC.dreg (fun w_ => St W _ _ w_) (fun k => Nat.beq k 8) mixed (by kernel_rfl) (h1.drew) (fun hx => ?_)
   refine WM.pure hx (by rfl) rfl (fun w_ => Runs.move rfl) rfl ?_
   refine WM.pure hx (by rfl) rfl (fun w_ => Runs.nilCheckP rfl) rfl ?_
   refine WM.pure hx (by rfl) rfl (fun w_ => Runs.fld fld139_0 rfl) rfl ?_
   refine WM.val 12 hx (by rfl) rfl (by kernel_rfl) (fun w_ hC_ => Runs.load1 Tryz.underlying33 rfl rfl (hC_.cell hs0)) rfl ?_
   refine WM.pure hx (by rfl) rfl (fun w_ => Runs.move rfl) rfl ?_
   refine WM.pure hx (by rfl) rfl (fun w_ => Runs.nilCheckP rfl) rfl ?_
   refine WM.pure hx (by rfl) rfl (fun w_ => Runs.fld fld139_1 rfl) rfl ?_
   refine WM.val 12 hx (by rfl) rfl (by kernel_rfl) (fun w_ hC_ => Runs.load1 Tryz.underlying136 rfl rfl (hC_.cell ht.s1)) rfl ?_
   refine WM.toD hx rfl (by decide) (by kernel_rfl) ?_
   intro w3 h3
   refine WD.op (by rfl) rfl (by kernel_rfl) ?_
   refine WL.call can89 rfl rfl (silent_bool _ i h3 ht.iv ht.rv hR ht.pos ht.nd (by omega)) ?_
   rintro _ w4 ⟨G5, A5, cap5, hle5, rfl, hc5, hrd5, h4⟩
   refine ⟨_, rfl, ?_⟩
   refine WL.nil (WD.next ?_)
   refine WD.pure hx (by rfl) (fun w_ => Runs.assign rfl) rfl ?_
   refine WD.fin rfl (by kernel_rfl) ?_
   refine WN.thn (WC.ret ?_)
   have hst : t.state = 0 := by simp_all
   refine ret1 rfl rfl ?_
   have e : t.missing = miss t.ns t.vs := by simp [T.missing, hst]
   rw [e]
   exact ⟨_, _, _, hle5, rfl, hc5, hrd5, h4⟩
 ·try simp only [dt, df, nt, nf, ba, il, ie] at c2
  first
  |(exfalso; omega)
  |skip
   refine WC.seq (WC.reg ?_)
   refine WL.e 1 rfl ?_
   refine WL.call can45 rfl rfl (state_c _ h1 ht) ?_
   rintro _ w6 ⟨rfl, h6⟩
   refine ⟨_, rfl, ?_⟩
   refine WL.e 2 rfl ?_
   refine WL.nil (WN.thn ?_)
   refine WC.cond rfl (fun c7 => ?_) (fun c7 => ?_)
   ·try simp only [dt, df, nt, nf, ba, il, ie] at c7
    first
    |(exfalso; omega)
    |skip
     refine WC.seq ?_
     refine WC.dreg (fun w_ => St W _ _ w_) (fun k => Nat.beq k 8) mixed (by kernel_rfl) (h6.drew) (fun hx => ?_)
     refine WM.pure hx (by rfl) rfl (fun w_ => Runs.move rfl) rfl ?_
     refine WM.pure hx (by rfl) rfl (fun w_ => Runs.nilCheckP rfl) rfl ?_
     refine WM.pure hx (by rfl) rfl (fun w_ => Runs.fld fld139_0 rfl) rfl ?_
     refine WM.val 12 hx (by rfl) rfl (by kernel_rfl) (fun w_ hC_ => Runs.load1 Tryz.underlying33 rfl rfl (hC_.cell hs0)) rfl ?_
     refine WM.pure hx (by rfl) rfl (fun w_ => Runs.move rfl) rfl ?_
     refine WM.pure hx (by rfl) rfl (fun w_ => Runs.nilCheckP rfl) rfl ?_
     refine WM.pure hx (by rfl) rfl (fun w_ => Runs.fld fld139_2 rfl) rfl ?_
     refine WM.val 12 hx (by rfl) rfl (by kernel_rfl) (fun w_ hC_ => Runs.load1 Tryz.underlying137 rfl rfl (hC_.cell ht.s2)) rfl ?_
     refine WM.toD hx rfl (by decide) (by kernel_rfl) ?_
     intro w8 h8
     refine WD.op (by rfl) rfl (by kernel_rfl) ?_
     refine WL.call can90 rfl rfl (silent_int _ j h8 ht.ic ht.rc hR ht.pos ht.nd (by omega)) ?_
     rintro _ w9 ⟨G10, A10, cap10, hle10, rfl, hc10, hrd10, h9⟩
     refine ⟨_, rfl, ?_⟩
     refine WL.nil (WD.next ?_)
     refine WD.pure hx (by rfl) (fun w_ => Runs.assign rfl) rfl ?_
     refine WD.fin rfl (by kernel_rfl) ?_
     refine WN.thn (WC.ret ?_)
     have hst : t.state = 1 := by simp_all
     refine ret1 rfl rfl ?_
     have e : t.missing = miss t.ns t.cs := by simp [T.missing, hst]
     rw [e]
     exact ⟨_, _, _, hle10, rfl, hc10, hrd10, h9⟩
   ·try simp only [dt, df, nt, nf, ba, il, ie] at c7
    first
    |(exfalso; omega)
    |skip
     refine WC.skip (WN.blk (WN.thn (WC.seq (WC.reg ?_))))
     refine WL.e 1 rfl ?_
     refine WL.nil (WN.thn (WC.ret ?_))
     have hst : t.state ≠ 0 := by simp_all
     have hst1 : t.state ≠ 1 := by simp_all
     refine ret1 rfl rfl ?_
     have e : t.missing = [] := by simp [T.missing, hst, hst1]
     rw [e]
     exact ⟨_, _, _, Le.refl _, rfl, Nat.le_refl _, .inl rfl, h6⟩
end Tal
end Go.Proofs.YtifdpllfbaogcaaGreat
namespace Go.Proofs.YtifdpllfbaogcaaGreat
open Go Go.RowKit B
namespace Tal
theorem can137 : B.Can Tryz.prog 137 := ⟨_, Tryz.func137, by kernel_rfl, rfl⟩
theorem can138 : B.Can Tryz.prog 138 := ⟨_, Tryz.func138, by kernel_rfl, rfl⟩
def oks (ns : List Int) : Prop := (∀ k, k < ns.length → 0 ≤ ns.getD k 0 ∧ ns.getD k 0 < 16) ∧ ∀ k, k + 1 < ns.length → ns.getD k 0 < ns.getD (k + 1) 0
theorem oks_lt {ns : List Int} (h : oks ns) : ∀ {i j : Nat}, i < j → j < ns.length → ns.getD i 0 < ns.getD j 0 := by
 intro i j hij hj
 induction j with
 |zero => omega
 |succ j ih =>
  have h1 := h.2 j hj
  by_cases e : i = j
  ·rw [e]; exact h1
  ·have := ih (by omega) (by omega)
   omega
theorem oks_nodup {ns : List Int} (h : oks ns) : ns.Nodup := by
 rw [List.Nodup, List.pairwise_iff_getElem]
 intro i j hi hj hij
 have := oks_lt h hij hj
 rw [List.getD_eq_getElem?_getD, List.getD_eq_getElem?_getD, List.getElem?_eq_getElem hi, List.getElem?_eq_getElem hj] at this
 simp only [Option.getD_some] at this
 omega
theorem oks_len {ns : List Int} (h : oks ns) : ns.length ≤ 16 := by
 have : ∀ k, k < ns.length → (k : Int) ≤ ns.getD k 0 := by
  intro k
  induction k with
  |zero => intro hk; exact (h.1 0 hk).1
  |succ k ih => intro hk; have := h.2 k hk; have := ih (by omega); omega
 by_cases hl : ns.length ≤ 16
 ·exact hl
 ·have h1 := this 16 (by omega); have h2 := (h.1 16 (by omega)).2; omega
def last_ (ns : List Int) (k : Nat) : Int := if k = 0 then -1 else ns.getD (k - 1) 0
theorem new_c {W : World} {F : Snap} {cs : List Res} (w : World) {A : Option Addr} {cap : Nat} {ns : List Int} (h : St W F cs w) (hR : RdS (Kd.one Vi) F A ns) (hn : ns.length ≤ 100000) (hk : oks ns) (h0 : 0 < ns.length) : Calls Tryz.prog 97 #[.slice A ns.length cap] w fun e w' => ∃ G bt mv mc lv lc, e = .returned (.pointer (some ⟨bt, 0, none⟩)) ∧ Le F G ∧ St W G ([(mv, mobj lv)] :: [(mc, mobj lc)] :: cs) w' ∧ TR G ([(mv, mobj lv)] :: [(mc, mobj lc)] :: cs) bt 0 1 mv mc lv lc ⟨ns, ns.map fun _ => none, ns.map fun _ => none⟩  := by
 refine enter (P := Tryz.prog) (args := [.slice A ns.length cap]) Tryz.func97 rfl rfl rfl ?_
 obtain ⟨ad, rfl, hrd⟩ := rd1 hR h0
 refine WC.seq (WC.reg ?_)
 refine WL.e 1 rfl ?_
 refine WL.nil (WN.thn (WC.seq (WC.reg ?_)))
 refine WL.e 1 rfl ?_
 refine WL.nil (WN.thn (WC.seq (WC.seq (WC.reg ?_))))
 refine WL.e 1 rfl ?_
 refine WL.v (Runs.llen Tryz.underlying33 rfl rfl) rfl ?_
 refine WL.e 1 rfl ?_
 refine WL.nil (WN.thn (WC.block ?_))
 refine WC.loop (σ := Nat) (fun q_ => [(0, .slice (some ad) ns.length cap), (3, Vi (last_ ns q_)), (6, .slice (some ad) ns.length cap), (7, .int .i64 (ns.length : Int)), (8, .int .i64 (q_ : Int))]) (fun q_ w => q_ ≤ ns.length ∧ St W F cs w) (fun q_ => ns.length - q_) (0) (by repeat (first | exact trivial | refine ⟨rfl, ?_⟩)) (⟨by omega, h⟩) ?_
 rintro k w1 ⟨hk1, hL⟩
 try dsimp only at hk1 hL
 refine WC.sub (s := [(0, .slice (some ad) ns.length cap), (3, Vi (last_ ns k)), (6, .slice (some ad) ns.length cap), (7, .int .i64 (ns.length : Int)), (8, .int .i64 (k : Int))]) (by repeat (first | exact trivial | refine ⟨rfl, ?_⟩)) ?_
 have hk3 : k < ns.length → ¬ ns.getD k 0 ≤ last_ ns k := by
  intro hk2
  unfold last_
  split
  ·have := (hk.1 k hk2).1; omega
  ·have := hk.2 (k - 1) (by omega); rw [show k - 1 + 1 = k by omega] at this; omega
 refine WC.seq (WC.reg ?_)
 refine WL.e 1 rfl ?_
 refine WL.nil (WN.thn (WC.seq ?_))
 refine WC.cond rfl (fun c2 => ?_) (fun c2 => ?_)
 ·try simp only [dt, df, nt, nf, ba, il, ie] at c2
  first
  |(exfalso; omega)
  |skip
   refine WC.skip (WN.thn (WC.seq (WC.block (WC.seq (WC.reg ?_)))))
   refine WL.v (Runs.lidxN Tryz.underlying33 inf3 rfl rfl (n := k) rfl (by omega)) rfl ?_
   refine WL.v (Runs.loadR (f := Vi) (0 : Int) hL hrd (n := k) (by omega) Tryz.underlying3 rfl rfl) rfl ?_
   refine WL.e 1 rfl ?_
   refine WL.nil (WN.thn (WC.seq (WC.seq (WC.reg ?_))))
   refine WL.e 2 rfl ?_
   refine WL.v (Runs.boolT (c := false) (Runs.leq rfl rfl) (by rw [decide_eq_false_iff_not]; exact hk3 (by omega))) rfl ?_
   refine WL.e 2 rfl ?_
   refine WL.gon rfl rfl rfl ?_
   refine WL.v (Runs.boolT (c := false) (Runs.geq rfl rfl) (by rw [decide_eq_false_iff_not]; have := (hk.1 k (by omega)).2; omega)) rfl ?_
   refine WL.e 1 rfl ?_
   refine WL.nil (WN.thn ?_)
   refine WC.condF rfl (rfl) ?_
   refine WC.skip (WN.thn (WC.reg ?_))
   refine WL.e 2 rfl ?_
   refine WL.nil (WN.blk (WN.thn (WC.reg ?_)))
   refine WL.v (Runs.addn rfl rfl (by omega)) rfl ?_
   refine WL.e 1 rfl ?_
   refine WL.nil ?_
   exact WN.again (k + 1) (by omega) ⟨rfl, rfl, rfl, rfl, rfl, trivial⟩ ⟨by omega, hL⟩
 ·try simp only [dt, df, nt, nf, ba, il, ie] at c2
  first
  |(exfalso; omega)
  |skip
   refine WC.exit (WX.thn (WX.cut (WX.hit (WN.thn (WC.seq ?_)))))
   refine WC.seq (WC.reg ?_)
   refine WL.e 1 rfl ?_
   refine WL.v (Runs.llen Tryz.underlying33 rfl rfl) rfl ?_
   refine WL.v (Runs.boolT (c := false) (Runs.eql rfl rfl) (by rw [decide_eq_false_iff_not]; omega)) rfl ?_
   refine WL.nil (WN.thn ?_)
   refine WC.condF rfl (rfl) ?_
   refine WC.skip (WN.thn (WC.seq (WC.reg ?_)))
   refine WL.e 1 rfl ?_
   refine WL.call can44 rfl rfl (clone_c _ hL hR h0 hn) ?_
   rintro _ w3 ⟨r1, v1, rfl, hr1, h3⟩
   refine ⟨_, rfl, ?_⟩
   obtain ⟨G1, A1, cap1, hG, e1, hc1, hR1, hS1⟩ := Row.gives hr1 h3
   injection e1 with e1
   subst e1
   refine WL.e 1 rfl ?_
   refine WL.nil (WN.thn (WC.seq (WC.reg ?_)))
   refine WL.e 2 rfl ?_
   refine WL.call can137 rfl rfl (empty_bool _ hS1 hR1 h0 (oks_nodup hk) hn) ?_
   rintro _ w4 ⟨mv, lv, rfl, hmv, h4⟩
   refine ⟨_, rfl, ?_⟩
   refine WL.e 1 rfl ?_
   refine WL.call can138 rfl rfl (empty_int _ h4 hR1 h0 (oks_nodup hk) hn) ?_
   rintro _ w5 ⟨mc, lc, rfl, hmc, h5⟩
   refine ⟨_, rfl, ?_⟩
   have hle2 := Le.refl G1
   replace h5 := h5.perm (List.Perm.swap _ _ _)
   refine WL.v (Runs.build (cells := #[.slice A1 ns.length cap1, .map (some mv), .map (some mc)]) rfl (by kernel_rfl)) rfl ?_
   refine WL.box rfl h5 rfl ?_
   intro b32 w6 h6
   refine WL.e 1 rfl ?_
   refine WL.nil (WN.thn (WC.ret ?_))
   obtain ⟨G2, g1, g2, g3⟩ := h6.freeze (i := 0) rfl
   have hbx := g2 _ (List.mem_cons_self)
   refine ret1 rfl rfl ⟨G2, b32, mv, mc, lv, lc, rfl, Le.trans hG g1, g3, ?_⟩
   refine ⟨⟨A1, cap1, ?_, hR1.mono g1⟩, ?_, ?_, rfl, rfl, hmv.mono (Le.trans hle2 g1), hmc.mono g1, h0, oks_len hk, oks_nodup hk, by decide⟩
   ·unfold cellF; simp only [hbx]; rfl
   ·unfold cellF; simp only [hbx]; rfl
   ·unfold cellF; simp only [hbx]; rfl
theorem state_nil {W : World} {F : Snap} {cs : List Res} (w : World) (h : St W F cs w) : Calls Tryz.prog 45 #[.pointer none] w fun e w' => e = .returned (Vi 0) ∧ St W F cs w'  := by
 refine enter (P := Tryz.prog) (args := [.pointer none]) Tryz.func45 rfl rfl rfl ?_
 refine WC.seq (WC.reg ?_)
 refine WL.e 1 rfl ?_
 refine WL.nil (WN.thn (WC.seq (WC.seq (WC.reg ?_))))
 refine WL.e 1 rfl ?_
 refine WL.v (Runs.peql Tryz.underlying97 rfl rfl) rfl ?_
 refine WL.nil (WN.thn ?_)
 refine WC.condT rfl (rfl) ?_
 refine WC.seq (WC.reg ?_)
 refine WL.e 1 rfl ?_
 refine WL.nil (WN.thn (WC.ret ?_))
 exact ret1 rfl rfl ⟨rfl, h⟩
end Tal
end Go.Proofs.YtifdpllfbaogcaaGreat
namespace Go.Proofs.YtifdpllfbaogcaaGreat
open Go Go.RowKit B
namespace Tal
def okp (ns : List Int) (m : Nat) : Prop := (∀ k, k < m → 0 ≤ ns.getD k 0 ∧ ns.getD k 0 < 16) ∧ ∀ k, k + 1 < m → ns.getD k 0 < ns.getD (k + 1) 0
theorem okp_succ {ns : List Int} {k : Nat} (h : okp ns k) (h1 : 0 ≤ ns.getD k 0 ∧ ns.getD k 0 ≤ 15) (h2 : 0 < k → ns.getD (k - 1) 0 < ns.getD k 0) : okp ns (k + 1) := by
 refine ⟨fun j hj => ?_, fun j hj => ?_⟩
 ·by_cases e : j = k
  ·subst e; omega
  ·exact h.1 j (by omega)
 ·by_cases e : j + 1 = k
  ·have := h2 (by omega)
   rw [show k - 1 = j by omega] at this
   rw [e]; exact this
  ·exact h.2 j (by omega)
end Tal
end Go.Proofs.YtifdpllfbaogcaaGreat
namespace Go.Proofs.YtifdpllfbaogcaaGreat
open Go Go.RowKit B
namespace Tal
end Tal
end Go.Proofs.YtifdpllfbaogcaaGreat
namespace Go.Proofs.YtifdpllfbaogcaaGreat
open Go Go.RowKit B
namespace Tal
def eV : Option Bool → Int
 |none => 0
 |some true => 1
 |some false => 2
def eC (o : Option Int) : Int := o.getD (-1)
structure RR (F : Snap) (cs : List Res) (b i j bv bc : Nat) (zv zc : List Value) (fv fc : Nat × Nat) (t : T) : Prop where
 s0 : ∃ A cap, cellF F ⟨b, 0, none⟩ = some (.slice A t.ns.length cap) ∧ RdS (Kd.one Vi) F A t.ns
 s1 : cellF F ⟨b, 1, none⟩ = some (.slice (some ⟨bv, 0, none⟩) (t.vs.map eV).length ((t.vs.map eV).length + zv.length))
 s2 : cellF F ⟨b, 2, none⟩ = some (.slice (some ⟨bc, 0, none⟩) (t.cs.map eC).length ((t.cs.map eC).length + zc.length))
 iv : cs[i]? = some [(bv, .cells ((t.vs.map eV).map Vi ++ zv).toArray 3 fv)]
 ic : cs[j]? = some [(bc, .cells ((t.cs.map eC).map Vi ++ zc).toArray 3 fc)]
 hv : Free fv ((t.vs.map eV).length + zv.length)
 hc : Free fc ((t.cs.map eC).length + zc.length)
 lv : t.vs.length = t.ns.length
 lc : t.cs.length = t.ns.length
 pos : 0 < t.ns.length
 small : t.ns.length ≤ 16
 nd : t.ns.Nodup
 ok : ∀ c, some c ∈ t.cs → 0 ≤ c
 ne : i ≠ j
theorem blk_read {G : Snap} {bb tt : Nat} {xs : List Int} {zs : List Value} {fz : Nat × Nat} (h : G bb = some (.cells (xs.map Vi ++ zs).toArray tt fz)) : RdS (Kd.one Vi) G (some ⟨bb, 0, none⟩) xs := by
 refine .inr ⟨_, rfl, fun i x hx => ⟨[Vi x], rfl, fun j v hv => ?_⟩⟩
 have hj : j = 0 := by
  rcases j with _ | j
  ·rfl
  ·simp at hv
 subst hj
 simp only [List.getElem?_cons_zero, Option.some.injEq] at hv
 subst hv
 show cellF G ((⟨bb, 0, none⟩ : Addr).add (i * 1 + 0)) = some (Vi x)
 rw [add_mk, Nat.mul_one, Nat.add_zero, Nat.zero_add]
 unfold cellF
 simp only [h]
 have hi : i < xs.length := (List.getElem?_eq_some_iff.1 hx).1
 simp [List.getElem?_append_left (show i < (xs.map Vi).length by simpa using hi), hx]
end Tal
end Go.Proofs.YtifdpllfbaogcaaGreat
namespace Go.Proofs.YtifdpllfbaogcaaGreat
open Go Go.RowKit B
namespace Tal
end Tal
end Go.Proofs.YtifdpllfbaogcaaGreat
namespace Go.Proofs.YtifdpllfbaogcaaGreat
open Go Go.RowKit B
namespace Tal
end Tal
end Go.Proofs.YtifdpllfbaogcaaGreat
namespace Go.Proofs.YtifdpllfbaogcaaGreat
open Go Go.RowKit B
namespace Tal
def okN (ns : List Int) : Prop := 0 < ns.length ∧ oks ns
theorem okp_all {ns : List Int} (h : okp ns ns.length) : oks ns := h
theorem last_step {ns : List Int} {k : Nat} (h : okp ns k) (h1 : ¬ ns.getD k 0 ≤ last_ ns k) (h2 : ¬ 16 ≤ ns.getD k 0) : okp ns (k + 1) := by
 unfold last_ at h1
 by_cases e : k = 0
 ·subst e
  rw [if_pos rfl] at h1
  exact okp_succ h (by omega) (by omega)
 ·rw [if_neg e] at h1
  have := (h.1 (k - 1) (by omega)).1
  exact okp_succ h (by omega) (by omega)
theorem new_no {W : World} {F : Snap} {cs : List Res} (w : World) {A : Option Addr} {cap : Nat} {ns : List Int} (h : St W F cs w) (hR : RdS (Kd.one Vi) F A ns) (hn : ns.length ≤ 100000) (hno : ¬ okN ns) : Calls Tryz.prog 97 #[.slice A ns.length cap] w fun e w' => e = .returned (.pointer none) ∧ St W F cs w'  := by
 refine enter (P := Tryz.prog) (args := [.slice A ns.length cap]) Tryz.func97 rfl rfl rfl ?_
 refine WC.seq (WC.reg ?_)
 refine WL.e 1 rfl ?_
 refine WL.nil (WN.thn (WC.seq (WC.reg ?_)))
 refine WL.e 1 rfl ?_
 refine WL.nil (WN.thn (WC.seq (WC.seq (WC.reg ?_))))
 refine WL.e 1 rfl ?_
 refine WL.v (Runs.llen Tryz.underlying33 rfl rfl) rfl ?_
 refine WL.e 1 rfl ?_
 refine WL.nil (WN.thn (WC.block ?_))
 refine WC.loop (σ := Nat) (fun q_ => [(0, .slice A ns.length cap), (3, Vi (last_ ns q_)), (6, .slice A ns.length cap), (7, .int .i64 (ns.length : Int)), (8, .int .i64 (q_ : Int))]) (fun q_ w => q_ ≤ ns.length ∧ okp ns q_ ∧ St W F cs w) (fun q_ => ns.length - q_) (0) (by repeat (first | exact trivial | refine ⟨rfl, ?_⟩)) (⟨by omega, ⟨fun j hj => absurd hj (Nat.not_lt_zero _), fun j hj => absurd hj (Nat.not_lt_zero _)⟩, h⟩) ?_
 rintro k w1 ⟨hk1, hok, hL⟩
 try dsimp only at hk1 hok hL
 refine WC.sub (s := [(0, .slice A ns.length cap), (3, Vi (last_ ns k)), (6, .slice A ns.length cap), (7, .int .i64 (ns.length : Int)), (8, .int .i64 (k : Int))]) (by repeat (first | exact trivial | refine ⟨rfl, ?_⟩)) ?_
 refine WC.seq (WC.reg ?_)
 refine WL.e 1 rfl ?_
 refine WL.nil (WN.thn (WC.seq ?_))
 refine WC.cond rfl (fun c2 => ?_) (fun c2 => ?_)
 ·try simp only [dt, df, nt, nf, ba, il, ie] at c2
  first
  |(exfalso; omega)
  |skip
   refine WC.skip (WN.thn (WC.seq (WC.block (WC.seq ?_))))
   obtain ⟨ad, rfl, hrd⟩ := rd1 hR (by omega)
   refine WC.reg ?_
   refine WL.v (Runs.lidxN Tryz.underlying33 inf3 rfl rfl (n := k) rfl (by omega)) rfl ?_
   refine WL.v (Runs.loadR (f := Vi) (0 : Int) hL hrd (n := k) (by omega) Tryz.underlying3 rfl rfl) rfl ?_
   refine WL.e 1 rfl ?_
   refine WL.nil (WN.thn (WC.seq (WC.seq ?_)))
   have hcase : ns.getD k 0 ≤ last_ ns k ∨ (¬ ns.getD k 0 ≤ last_ ns k ∧ 16 ≤ ns.getD k 0) ∨ (¬ ns.getD k 0 ≤ last_ ns k ∧ ¬ 16 ≤ ns.getD k 0) := by omega
   rcases hcase with hA | hB | hC
   ·skip
    refine WC.reg ?_
    refine WL.e 2 rfl ?_
    refine WL.v (Runs.boolT (c := true) (Runs.leq rfl rfl) (decide_eq_true hA)) rfl ?_
    refine WL.e 4 rfl ?_
    refine WL.nil (WN.thn ?_)
    refine WC.condT rfl (rfl) ?_
    refine WC.seq (WC.reg ?_)
    refine WL.e 1 rfl ?_
    refine WL.nil (WN.thn (WC.ret ?_))
    exact ret1 rfl rfl ⟨rfl, hL⟩
   ·skip
    refine WC.reg ?_
    refine WL.e 2 rfl ?_
    refine WL.v (Runs.boolT (c := false) (Runs.leq rfl rfl) (decide_eq_false hB.1)) rfl ?_
    refine WL.e 2 rfl ?_
    refine WL.gon rfl rfl rfl ?_
    refine WL.v (Runs.boolT (c := true) (Runs.geq rfl rfl) (decide_eq_true hB.2)) rfl ?_
    refine WL.e 1 rfl ?_
    refine WL.nil (WN.thn ?_)
    refine WC.condT rfl (rfl) ?_
    refine WC.seq (WC.reg ?_)
    refine WL.e 1 rfl ?_
    refine WL.nil (WN.thn (WC.ret ?_))
    exact ret1 rfl rfl ⟨rfl, hL⟩
   ·skip
    refine WC.reg ?_
    refine WL.e 2 rfl ?_
    refine WL.v (Runs.boolT (c := false) (Runs.leq rfl rfl) (decide_eq_false hC.1)) rfl ?_
    refine WL.e 2 rfl ?_
    refine WL.gon rfl rfl rfl ?_
    refine WL.v (Runs.boolT (c := false) (Runs.geq rfl rfl) (decide_eq_false hC.2)) rfl ?_
    refine WL.e 1 rfl ?_
    refine WL.nil (WN.thn ?_)
    refine WC.condF rfl (rfl) ?_
    refine WC.skip (WN.thn (WC.reg ?_))
    refine WL.e 2 rfl ?_
    refine WL.nil (WN.blk (WN.thn (WC.reg ?_)))
    refine WL.v (Runs.addn rfl rfl (by omega)) rfl ?_
    refine WL.e 1 rfl ?_
    refine WL.nil ?_
    exact WN.again (k + 1) (by omega) ⟨rfl, rfl, rfl, rfl, rfl, trivial⟩ ⟨by omega, last_step hok hC.1 hC.2, hL⟩
 ·try simp only [dt, df, nt, nf, ba, il, ie] at c2
  first
  |(exfalso; omega)
  |skip
   refine WC.exit (WX.thn (WX.cut (WX.hit (WN.thn (WC.seq ?_)))))
   refine WC.seq ?_
   obtain rfl : k = ns.length := by omega
   have h0 : ns.length = 0 := by
    by_cases h0 : 0 < ns.length
    ·exact absurd ⟨h0, okp_all hok⟩ hno
    ·omega
   refine WC.reg ?_
   refine WL.e 1 rfl ?_
   refine WL.v (Runs.llen Tryz.underlying33 rfl rfl) rfl ?_
   refine WL.v (Runs.boolT (c := true) (Runs.eql rfl rfl) (by rw [decide_eq_true_eq]; omega)) rfl ?_
   refine WL.nil (WN.thn ?_)
   refine WC.condT rfl (rfl) ?_
   refine WC.seq (WC.reg ?_)
   refine WL.e 1 rfl ?_
   refine WL.nil (WN.thn (WC.ret ?_))
   exact ret1 rfl rfl ⟨rfl, hL⟩
def T.new (ns : List Int) : T := ⟨ns, ns.map fun _ => none, ns.map fun _ => none⟩
end Tal
end Go.Proofs.YtifdpllfbaogcaaGreat
namespace Go.Proofs.YtifdpllfbaogcaaGreat
open Go Go.RowKit B
namespace Tal
theorem miss_len {α : Type} (ns : List Int) (os : List (Option α)) : (miss ns os).length ≤ ns.length := by
 induction ns generalizing os with
 |nil => simp [miss]
 |cons n ns ih =>
  cases os with
  |nil => simp [miss]
  |cons o os => unfold miss; have := ih os; split <;> simp <;> omega
theorem missing_len (t : T) : t.missing.length ≤ t.ns.length := by
 have h1 := miss_len t.ns t.vs
 have h2 := miss_len t.ns t.cs
 unfold T.missing
 split
 ·exact h1
 ·split
  ·exact h2
  ·simp
end Tal
end Go.Proofs.YtifdpllfbaogcaaGreat
namespace Go.Proofs.YtifdpllfbaogcaaGreat
open Go Go.RowKit B
namespace Wir
theorem mixed : Tryz.prog.follows .mixedOrders = true := by kernel_rfl
theorem inf3 : Inf Tryz.prog 3 (.int .i64 0) 1 8 := by unfold Inf; kernel_rfl
theorem fld161_0 : fldB Tryz.prog 161 0 0 = true := by kernel_rfl
theorem fld161_1 : fldB Tryz.prog 161 1 1 = true := by kernel_rfl
theorem can155 : B.Can Tryz.prog 155 := ⟨_, Tryz.func155, by kernel_rfl, rfl⟩
abbrev Vi (n : Int) : Value := .int .i64 n
def wch (at_ e : Int) : List PanicEntry := chain1 191 (.agg #[Vi at_, Vi e])
theorem must_ok {W : World} {F : Snap} {cs : List Res} (w : World) (a e : Int) (h : St W F cs w) : Calls Tryz.prog 155 #[.bool true, Vi a, Vi e] w fun r w' => r = .returned (.tuple #[]) ∧ St W F cs w'  := by
 refine enter (P := Tryz.prog) (args := [.bool true, Vi a, Vi e]) Tryz.func155 rfl rfl rfl ?_
 refine WC.seq (WC.reg ?_)
 refine WL.e 2 rfl ?_
 refine WL.nil (WN.thn ?_)
 refine WC.condF rfl (rfl) ?_
 refine WC.skip ?_
 exact end0 rfl ⟨rfl, h⟩
theorem must_no {W : World} {F : Snap} {cs : List Res} (w : World) (a e : Int) (h : St W F cs w) : Calls Tryz.prog 155 #[.bool false, Vi a, Vi e] w fun r w' => r = .panicked (wch a e) ∧ St W F cs w'  := by
 refine enter (P := Tryz.prog) (args := [.bool false, Vi a, Vi e]) Tryz.func155 rfl rfl rfl ?_
 refine WC.seq (WC.reg ?_)
 refine WL.e 2 rfl ?_
 refine WL.nil (WN.thn ?_)
 refine WC.condT rfl (rfl) ?_
 refine WC.reg ?_
 refine WL.e 2 rfl ?_
 refine WL.v (Runs.build (vs := [(0, Vi a), (1, Vi e)]) (cells := #[Vi a, Vi e]) rfl (by kernel_rfl)) rfl ?_
 refine WL.v (Runs.makeI Tryz.underlying191 rfl rfl) rfl ?_
 refine WL.panicI rfl ?_
 exact die0 ⟨rfl, h⟩
theorem bytes_ok {W : World} {F : Snap} {cs : List Res} (w : World) {i rb p : Nat} {e : Int} {l : List UInt8}  (n : Nat) (from_ : Int) (h : St W F cs w) (hi : cs[i]? = some [(rb, .cells #[.string (bs l), Vi (p), Vi (e)] 161 (0, 0))]) (hl : l.length ≤ 9223372036854775807) (hp : p ≤ l.length) (hn : p + n ≤ l.length) : Calls Tryz.prog 128 #[.pointer (some ⟨rb, 0, none⟩), Vi (n : Int), Vi from_] w fun r w' => r = .returned (.string (bs ((l.drop p).take n))) ∧ St W F (cs.set i [(rb, .cells #[.string (bs l), Vi ((p + n : Nat)), Vi (e)] 161 (0, 0))]) w'  := by
 refine enter (P := Tryz.prog) (args := [.pointer (some ⟨rb, 0, none⟩), Vi (n : Int), Vi from_]) Tryz.func128 rfl rfl rfl ?_
 refine WC.seq (WC.reg ?_)
 refine WL.e 1 rfl ?_
 refine WL.nil (WN.thn (WC.seq ?_))
 refine WC.eregO h (fun s_ => ([13] : List Nat).any (Nat.beq s_)) mixed (by kernel_rfl) (fun hx => ?_)
 intro w1 h1
 refine WE.p0 hx 0 (by rfl) (fun w_ => Runs.move rfl) rfl ?_
 refine WE.p0 hx 1 (by rfl) (fun w_ => Runs.move rfl) rfl ?_
 refine WE.p0 hx 2 (by rfl) (fun w_ => Runs.nilCheckP rfl) rfl ?_
 refine WE.p0 hx 3 (by rfl) (fun w_ => Runs.fld fld161_0 rfl) rfl ?_
 refine WE.p0 hx 6 (by rfl) (fun w_ => Runs.move rfl) rfl ?_
 refine WE.p0 hx 7 (by rfl) (fun w_ => Runs.nilCheckP rfl) rfl ?_
 refine WE.p0 hx 8 (by rfl) (fun w_ => Runs.fld fld161_1 rfl) rfl ?_
 refine WE.p0 hx 12 (by rfl) (fun w_ => Runs.move rfl) rfl ?_
 refine WE.v0 12 hx 4 (by rfl) (fun w_ hE_ => Runs.load1 Tryz.underlying9 rfl rfl (hE_.ocell hi rfl)) rfl ?_
 refine WE.p0 hx 5 (by rfl) (fun w_ => Runs.intT (n := (l.length : Int)) (Runs.slen Tryz.underlying9 rfl rfl) rfl) rfl ?_
 refine WE.v0 12 hx 9 (by rfl) (fun w_ hE_ => Runs.load1 Tryz.underlying3 rfl rfl (hE_.ocell hi rfl)) rfl ?_
 refine WE.p0 hx 10 (by rfl) (fun w_ => Runs.subn rfl rfl (by omega)) rfl ?_
 refine WE.p0 hx 11 (by rfl) (fun w_ => Runs.boolT (c := true) (Runs.leq rfl rfl) (by rw [decide_eq_true_eq]; omega)) rfl ?_
 refine WE.op (.inr h1) (i := 13) (by rfl) (by kernel_rfl) ?_
 refine WL.call can155 rfl rfl (must_ok _ _ _ h1) ?_
 rintro _ w2 ⟨rfl, h2⟩
 refine ⟨_, rfl, ?_⟩
 refine WL.nil (WE.next ?_)
 refine WE.fin (.inl ⟨13, rfl, by kernel_rfl⟩) (by kernel_rfl) ?_
 refine WN.thn (WC.seq ?_)
 refine WC.qreg (C := fun w_ => St W _ _ w_) mixed (by kernel_rfl) (h2.drew) ?_
 refine WQ.val (fun w_ hC_ => Runs.move rfl) rfl ?_
 refine WQ.val (fun w_ hC_ => Runs.nilCheckP rfl) rfl ?_
 refine WQ.val (fun w_ hC_ => Runs.fld fld161_0 rfl) rfl ?_
 refine WQ.val (fun w_ hC_ => Runs.load1 Tryz.underlying9 rfl rfl (hC_.ocell hi rfl)) rfl ?_
 refine WQ.val (fun w_ hC_ => Runs.move rfl) rfl ?_
 refine WQ.val (fun w_ hC_ => Runs.nilCheckP rfl) rfl ?_
 refine WQ.val (fun w_ hC_ => Runs.fld fld161_1 rfl) rfl ?_
 refine WQ.val (fun w_ hC_ => Runs.load1 Tryz.underlying3 rfl rfl (hC_.ocell hi rfl)) rfl ?_
 refine WQ.val (fun w_ hC_ => Runs.move rfl) rfl ?_
 refine WQ.val (fun w_ hC_ => Runs.nilCheckP rfl) rfl ?_
 refine WQ.val (fun w_ hC_ => Runs.fld fld161_1 rfl) rfl ?_
 refine WQ.val (fun w_ hC_ => Runs.load1 Tryz.underlying3 rfl rfl (hC_.ocell hi rfl)) rfl ?_
 refine WQ.val (fun w_ hC_ => Runs.move rfl) rfl ?_
 refine WQ.val (fun w_ hC_ => Runs.addn rfl rfl (by omega)) rfl ?_
 refine WQ.val (fun w_ hC_ => Runs.valT (u := .string (bs ((l.drop p).take n))) (Runs.lssl Tryz.underlying9 rfl rfl rfl (n := p) (m := p + n) rfl (by omega) (by omega) hn) (by rw [show p + n - p = n by omega])) rfl ?_
 refine WQ.val (fun w_ hC_ => Runs.assign rfl) rfl ?_
 refine WQ.fin ?_
 intro w3 h3
 refine WN.thn (WC.seq (WC.reg ?_))
 refine WL.e 3 rfl ?_
 refine WL.v (Runs.load1 Tryz.underlying3 rfl rfl (h3.ocell hi rfl)) rfl ?_
 refine WL.e 1 rfl ?_
 refine WL.v (Runs.intT (n := ((p + n : Nat) : Int)) (Runs.addn rfl rfl (by omega)) (by omega)) rfl ?_
 refine WL.e 2 rfl ?_
 refine WL.store' h3 i hi rfl rfl inf3 rfl rfl (Free.zero _) (Nat.le_of_ble_eq_true rfl) ?_
 intro  w4 h4
 try simp only [lz, ls, ez, es'] at h4
 refine WL.nil (WN.thn (WC.seq (WC.reg ?_)))
 refine WL.e 2 rfl ?_
 refine WL.nil (WN.thn (WC.ret ?_))
 exact ret1 rfl rfl ⟨rfl, h4⟩
theorem bytes_no {W : World} {F : Snap} {cs : List Res} (w : World) {i rb p : Nat} {e : Int} {l : List UInt8}  (n : Nat) (from_ : Int) (h : St W F cs w) (hi : cs[i]? = some [(rb, .cells #[.string (bs l), Vi (p), Vi (e)] 161 (0, 0))]) (hl : l.length ≤ 9223372036854775807) (hp : p ≤ l.length) (hn : l.length < p + n) (hn2 : n ≤ 1000000) : Calls Tryz.prog 128 #[.pointer (some ⟨rb, 0, none⟩), Vi (n : Int), Vi from_] w fun r w' => r = .panicked (wch from_ 2) ∧ St W F cs w'  := by
 refine enter (P := Tryz.prog) (args := [.pointer (some ⟨rb, 0, none⟩), Vi (n : Int), Vi from_]) Tryz.func128 rfl rfl rfl ?_
 refine WC.seq (WC.reg ?_)
 refine WL.e 1 rfl ?_
 refine WL.nil (WN.thn (WC.seq ?_))
 refine WC.eregO h (fun s_ => ([13] : List Nat).any (Nat.beq s_)) mixed (by kernel_rfl) (fun hx => ?_)
 intro w1 h1
 refine WE.p0 hx 0 (by rfl) (fun w_ => Runs.move rfl) rfl ?_
 refine WE.p0 hx 1 (by rfl) (fun w_ => Runs.move rfl) rfl ?_
 refine WE.p0 hx 2 (by rfl) (fun w_ => Runs.nilCheckP rfl) rfl ?_
 refine WE.p0 hx 3 (by rfl) (fun w_ => Runs.fld fld161_0 rfl) rfl ?_
 refine WE.p0 hx 6 (by rfl) (fun w_ => Runs.move rfl) rfl ?_
 refine WE.p0 hx 7 (by rfl) (fun w_ => Runs.nilCheckP rfl) rfl ?_
 refine WE.p0 hx 8 (by rfl) (fun w_ => Runs.fld fld161_1 rfl) rfl ?_
 refine WE.p0 hx 12 (by rfl) (fun w_ => Runs.move rfl) rfl ?_
 refine WE.v0 12 hx 4 (by rfl) (fun w_ hE_ => Runs.load1 Tryz.underlying9 rfl rfl (hE_.ocell hi rfl)) rfl ?_
 refine WE.p0 hx 5 (by rfl) (fun w_ => Runs.intT (n := (l.length : Int)) (Runs.slen Tryz.underlying9 rfl rfl) rfl) rfl ?_
 refine WE.v0 12 hx 9 (by rfl) (fun w_ hE_ => Runs.load1 Tryz.underlying3 rfl rfl (hE_.ocell hi rfl)) rfl ?_
 refine WE.p0 hx 10 (by rfl) (fun w_ => Runs.subn rfl rfl (by omega)) rfl ?_
 refine WE.p0 hx 11 (by rfl) (fun w_ => Runs.boolT (c := false) (Runs.leq rfl rfl) (by rw [decide_eq_false_iff_not]; omega)) rfl ?_
 refine WE.op (.inr h1) (i := 13) (by rfl) (by kernel_rfl) ?_
 refine WL.callP can155 rfl rfl (must_no _ _ _ h1) ?_
 rintro _ w2 ⟨rfl, h2⟩
 refine .inr ⟨_, rfl, ?_⟩
 refine WP.region ?_
 exact die0 ⟨rfl, h2⟩
end Wir
end Go.Proofs.YtifdpllfbaogcaaGreat
namespace Go.Proofs.YtifdpllfbaogcaaGreat
open Go Go.RowKit B
namespace Wir
theorem can120 : B.Can Tryz.prog 120 := ⟨_, Tryz.func120, by kernel_rfl, rfl⟩
theorem can125 : B.Can Tryz.prog 125 := ⟨_, Tryz.func125, by kernel_rfl, rfl⟩
theorem can128 : B.Can Tryz.prog 128 := ⟨_, Tryz.func128, by kernel_rfl, rfl⟩
def valN (l : List UInt8) : Nat := l.foldl (fun a b => 256 * a + b.toNat) 0
def szB (l : List UInt8) (p : Nat) : Nat := (l.getD p 0).toNat
def dig (l : List UInt8) (p : Nat) : List UInt8 := (l.drop (p + 1)).take (szB l p)
def rerr (l : List UInt8) (p : Nat) : Int := if l.length ≤ p then 2 else if 6 < szB l p then 3 else if l.length < p + 1 + szB l p then 2 else if 1099511627776 < valN (dig l p) ∨ (0 < szB l p ∧ (dig l p).getD 0 0 = 0) then 3 else 0
def rval (l : List UInt8) (p : Nat) : Nat := valN (dig l p)
def rnx (l : List UInt8) (p : Nat) : Nat := p + 1 + szB l p
theorem valN_snoc (l : List UInt8) (b : UInt8) : valN (l ++ [b]) = 256 * valN l + b.toNat := by simp [valN, List.foldl_append]
theorem take_one {l : List UInt8} {k : Nat} (h : k < l.length) : l.take (k + 1) = l.take k ++ [l.getD k 0] := by
 rw [List.take_add_one, List.getElem?_eq_getElem h, List.getD_eq_getElem?_getD, List.getElem?_eq_getElem h]; rfl
theorem valN_aux : ∀ (l : List UInt8) (a : Nat), l.foldl (fun a b => 256 * a + b.toNat) a < (a + 1) * 256 ^ l.length
 |[], a => by simp
 |b :: l, a => by
  have h1 := valN_aux l (256 * a + b.toNat)
  have h2 := b.toNat_lt
  have h3 : (256 * a + b.toNat + 1) * 256 ^ l.length ≤ (a + 1) * 256 * 256 ^ l.length := Nat.mul_le_mul_right _ (by omega)
  rw [List.foldl_cons, List.length_cons, Nat.pow_succ, Nat.mul_comm (256 ^ l.length) 256, ← Nat.mul_assoc]
  omega
theorem valN_lt (l : List UInt8) : valN l < 256 ^ l.length := by
 have := valN_aux l 0
 simpa [valN] using this
theorem setS {cs : List Res} {i : Nat} {r : Res} (h : cs[i]? = some r) : cs.set i r = cs := by
 apply List.ext_getElem?
 intro j
 rw [List.getElem?_set]
 split
 ·rename_i e; subst e; rw [h, if_pos (List.getElem?_eq_some_iff.1 h).1]
 ·rfl
theorem cases11 (n v m : Nat) (P : Prop) : n = 0 ∨ (0 < n ∧ P) ∨ (0 < n ∧ ¬ P ∧ m < v) ∨ (0 < n ∧ ¬ P ∧ v ≤ m) := by
 by_cases h : P
 ·rcases Nat.eq_zero_or_pos n with h1 | h1
  ·exact .inl h1
  ·exact .inr (.inl ⟨h1, h⟩)
 ·rcases Nat.eq_zero_or_pos n with h1 | h1
  ·exact .inl h1
  ·rcases Nat.lt_or_ge m v with h2 | h2
   ·exact .inr (.inr (.inl ⟨h1, h, h2⟩))
   ·exact .inr (.inr (.inr ⟨h1, h, h2⟩))
theorem pow_le {n : Nat} (h : n ≤ 6) : 256 ^ n ≤ 281474976710656 := Nat.le_trans (Nat.pow_le_pow_right (by decide) h) (by decide)
theorem dig_len {l : List UInt8} {p : Nat} (h : p + 1 + szB l p ≤ l.length) : (dig l p).length = szB l p := by
 unfold dig
 rw [List.length_take, List.length_drop]; omega
theorem take1_at {l : List UInt8} {p : Nat} (h : p < l.length) : ((l.drop p).take 1).getD 0 0 = l.getD p 0 := by
 simp [List.getD_eq_getElem?_getD, List.getElem?_take, List.getElem?_drop]
theorem may_dec (n : Int) : decide (0 ≤ n ∧ n ≤ 1099511627776) = (decide (0 ≤ n) && decide (n ≤ 1099511627776)) := by
 by_cases h1 : 0 ≤ n <;> by_cases h2 : n ≤ 1099511627776 <;> simp [h1, h2]
theorem u8_ne {b : UInt8} (h : b ≠ 0) : ¬ ((b.toNat : Int) = 0) := fun e => h (UInt8.toNat_inj.1 (by simpa using e))
def cerr (l : List UInt8) (p : Nat) (most : Int) : Int := if rerr l p ≠ 0 then rerr l p else if most < (rval l p : Int) then 3 else 0
theorem may_c {W : World} {F : Snap} {cs : List Res} (w : World) (n : Int) (h : St W F cs w) : Calls Tryz.prog 120 #[Vi n] w fun r w' => r = .returned (.bool (decide (0 ≤ n ∧ n ≤ 1099511627776))) ∧ St W F cs w'  := by
 refine enter (P := Tryz.prog) (args := [Vi n]) Tryz.func120 rfl rfl rfl ?_
 refine WC.seq (WC.reg ?_)
 refine WL.e 1 rfl ?_
 refine WL.nil (WN.thn (WC.seq ?_))
 by_cases h0 : 0 ≤ n
 ·skip
  refine WC.reg ?_
  refine WL.e 1 rfl ?_
  refine WL.v (Runs.boolT (c := true) (Runs.geq rfl rfl) (decide_eq_true h0)) rfl ?_
  refine WL.e 2 rfl ?_
  refine WL.gon rfl rfl rfl ?_
  refine WL.v (Runs.leq rfl rfl) rfl ?_
  refine WL.e 2 rfl ?_
  refine WL.nil (WN.thn (WC.ret ?_))
  refine ret1 rfl rfl ⟨?_, h⟩
  rw [may_dec, decide_eq_true h0]; rfl
 ·skip
  refine WC.reg ?_
  refine WL.e 1 rfl ?_
  refine WL.v (Runs.boolT (c := false) (Runs.geq rfl rfl) (decide_eq_false h0)) rfl ?_
  refine WL.e 5 rfl ?_
  refine WL.nil (WN.thn (WC.ret ?_))
  refine ret1 rfl rfl ⟨?_, h⟩
  rw [may_dec, decide_eq_false h0]; rfl
theorem may_y {W : World} {F : Snap} {cs : List Res} (w : World) (n : Int) (h : St W F cs w) (hn : 0 ≤ n ∧ n ≤ 1099511627776) : Calls Tryz.prog 120 #[Vi n] w fun r w' => r = .returned (.bool true) ∧ St W F cs w' := (may_c w n h).mono fun r w' ⟨h1, h2⟩ => ⟨by rw [h1, decide_eq_true hn], h2⟩
theorem may_n {W : World} {F : Snap} {cs : List Res} (w : World) (n : Int) (h : St W F cs w) (hn : ¬ (0 ≤ n ∧ n ≤ 1099511627776)) : Calls Tryz.prog 120 #[Vi n] w fun r w' => r = .returned (.bool false) ∧ St W F cs w' := (may_c w n h).mono fun r w' ⟨h1, h2⟩ => ⟨by rw [h1, decide_eq_false hn], h2⟩
theorem num_c {W : World} {F : Snap} {cs : List Res} (w : World) {i rb p : Nat} {e : Int} {l : List UInt8}  (h : St W F cs w) (hi : cs[i]? = some [(rb, .cells #[.string (bs l), Vi (p), Vi (e)] 161 (0, 0))]) (hl : l.length ≤ 9223372036854775807) (hp : p ≤ l.length) : Calls Tryz.prog 125 #[.pointer (some ⟨rb, 0, none⟩)] w fun r w' => (rerr l p = 0 ∧ r = .returned (Vi (rval l p : Int)) ∧ St W F (cs.set i [(rb, .cells #[.string (bs l), Vi (rnx l p), Vi (e)] 161 (0, 0))]) w') ∨ (rerr l p ≠ 0 ∧ ∃ q, r = .panicked (wch p (rerr l p)) ∧ St W F (cs.set i [(rb, .cells #[.string (bs l), Vi q, Vi e] 161 (0, 0))]) w')  := by
 refine enter (P := Tryz.prog) (args := [.pointer (some ⟨rb, 0, none⟩)]) Tryz.func125 rfl rfl rfl ?_
 refine WC.seq (WC.reg ?_)
 refine WL.e 1 rfl ?_
 refine WL.nil (WN.thn (WC.seq (WC.reg ?_)))
 refine WL.e 3 rfl ?_
 refine WL.v (Runs.load1 Tryz.underlying3 rfl rfl (h.ocell hi rfl)) rfl ?_
 refine WL.e 1 rfl ?_
 refine WL.nil (WN.thn (WC.seq ?_))
 have hcase : p = l.length ∨ p < l.length := by omega
 rcases hcase with hpe | hpl
 ·skip
  refine WC.reg ?_
  refine WL.e 2 rfl ?_
  refine WL.callP can128 rfl rfl (bytes_no _ 1 p h hi hl hp (by omega) (by omega)) ?_
  rintro _ w1 ⟨rfl, h1⟩
  refine .inr ⟨_, rfl, ?_⟩
  have he : rerr l p = 2 := by unfold rerr; rw [if_pos (by omega)]
  exact die0 (.inr ⟨by rw [he]; decide, p, by rw [he], by rw [setS hi]; exact h1⟩)
 ·skip
  refine WC.reg ?_
  refine WL.e 2 rfl ?_
  refine WL.call can128 rfl rfl (bytes_ok _ 1 p h hi hl hp (by omega)) ?_
  rintro _ w2 ⟨rfl, h2⟩
  refine ⟨_, rfl, ?_⟩
  have hi1 : (cs.set i [(rb, .cells #[.string (bs l), Vi ((p + 1 : Nat)), Vi (e)] 161 (0, 0))])[i]? = some [(rb, .cells #[.string (bs l), Vi ((p + 1 : Nat)), Vi (e)] 161 (0, 0))] := by rw [List.getElem?_set_self (List.getElem?_eq_some_iff.1 hi).1]
  refine WL.v (Runs.valT (u := V8 (l.getD p 0)) (Runs.lsidx Tryz.underlying9 rfl rfl (n := 0) rfl (by rw [List.length_take, List.length_drop]; omega)) (by rw [take1_at hpl])) rfl ?_
  refine WL.v (Runs.intT (n := (szB l p : Int)) (Runs.u8toI Tryz.underlying5 Tryz.underlying3 rfl) rfl) rfl ?_
  refine WL.e 1 rfl ?_
  refine WL.nil (WN.thn (WC.seq ?_))
  have hcase : 6 < szB l p ∨ szB l p ≤ 6 := by omega
  rcases hcase with hs6 | hs6
  ·skip
   refine WC.reg ?_
   refine WL.e 1 rfl ?_
   refine WL.v (Runs.boolT (c := false) (Runs.leq rfl rfl) (by rw [decide_eq_false_iff_not]; omega)) rfl ?_
   refine WL.e 1 rfl ?_
   refine WL.callP can155 rfl rfl (must_no _ _ _ h2) ?_
   rintro _ w3 ⟨rfl, h3⟩
   refine .inr ⟨_, rfl, ?_⟩
   have he : rerr l p = 3 := by unfold rerr; rw [if_neg (by omega), if_pos hs6]
   exact die0 (.inr ⟨by rw [he]; decide, _, by rw [he], h3⟩)
  ·skip
   refine WC.reg ?_
   refine WL.e 1 rfl ?_
   refine WL.v (Runs.boolT (c := true) (Runs.leq rfl rfl) (by rw [decide_eq_true_eq]; omega)) rfl ?_
   refine WL.e 1 rfl ?_
   refine WL.call can155 rfl rfl (must_ok _ _ _ h2) ?_
   rintro _ w4 ⟨rfl, h4⟩
   refine ⟨_, rfl, ?_⟩
   refine WL.nil (WN.thn (WC.seq ?_))
   have hcase : l.length < p + 1 + szB l p ∨ p + 1 + szB l p ≤ l.length := by omega
   rcases hcase with hse | hsl
   ·skip
    refine WC.reg ?_
    refine WL.e 3 rfl ?_
    refine WL.callP can128 rfl rfl (bytes_no _ (szB l p) p h4 hi1 hl hpl (by omega) (by omega)) ?_
    rintro _ w5 ⟨rfl, h5⟩
    refine .inr ⟨_, rfl, ?_⟩
    have he : rerr l p = 2 := by unfold rerr; rw [if_neg (by omega), if_neg (by omega), if_pos hse]
    exact die0 (.inr ⟨by rw [he]; decide, _, by rw [he], h5⟩)
   ·have hdl := dig_len hsl
    refine WC.reg ?_
    refine WL.e 3 rfl ?_
    refine WL.call can128 rfl rfl (bytes_ok _ (szB l p) p h4 hi1 hl hpl hsl) ?_
    rintro _ w6 ⟨rfl, h6⟩
    refine ⟨_, rfl, ?_⟩
    rw [List.set_set] at h6
    refine WL.e 1 rfl ?_
    refine WL.nil (WN.thn (WC.seq (WC.reg ?_)))
    refine WL.e 1 rfl ?_
    refine WL.nil (WN.thn (WC.seq (WC.seq (WC.reg ?_))))
    refine WL.e 1 rfl ?_
    refine WL.v (Runs.intT (n := ((dig l p).length : Int)) (Runs.slen Tryz.underlying9 rfl rfl) rfl) rfl ?_
    refine WL.e 1 rfl ?_
    refine WL.nil (WN.thn (WC.block ?_))
    refine WC.loop (σ := Nat) (fun q_ => [(0, .pointer (some ⟨rb, 0, none⟩)), (3, Vi p), (4, .int .i64 (szB l p : Int)), (5, .string (bs (dig l p))), (6, .int .i64 (valN ((dig l p).take q_) : Int)), (26, .int .i64 ((dig l p).length : Int)), (27, .int .i64 (q_ : Int))]) (fun q_ w => q_ ≤ (dig l p).length ∧ St W F (cs.set i [(rb, .cells #[.string (bs l), Vi ((p + 1 + szB l p : Nat)), Vi (e)] 161 (0, 0))]) w) (fun q_ => (dig l p).length - q_) (0) (by repeat (first | exact trivial | refine ⟨rfl, ?_⟩)) (⟨by omega, h6⟩) ?_
    rintro k w7 ⟨hk, hL⟩
    try dsimp only at hk hL
    refine WC.sub (s := [(0, .pointer (some ⟨rb, 0, none⟩)), (3, Vi p), (4, .int .i64 (szB l p : Int)), (5, .string (bs (dig l p))), (6, .int .i64 (valN ((dig l p).take k) : Int)), (26, .int .i64 ((dig l p).length : Int)), (27, .int .i64 (k : Int))]) (by repeat (first | exact trivial | refine ⟨rfl, ?_⟩)) ?_
    have hvl := valN_lt ((dig l p).take k)
    rw [List.length_take, Nat.min_eq_left hk] at hvl
    have hpw := pow_le (n := k) (by omega)
    refine WC.seq (WC.reg ?_)
    refine WL.v (Runs.lss rfl rfl) rfl ?_
    refine WL.nil (WN.thn (WC.seq ?_))
    refine WC.cond rfl (fun c8 => ?_) (fun c8 => ?_)
    ·try simp only [dt, df, nt, nf, ba, il, ie] at c8
     first
     |(exfalso; omega)
     |skip
      refine WC.skip (WN.thn (WC.seq (WC.block (WC.seq (WC.reg ?_)))))
      refine WL.e 2 rfl ?_
      refine WL.nil (WN.thn (WC.reg ?_))
      refine WL.e 1 rfl ?_
      refine WL.v (Runs.shl8 (m := valN ((dig l p).take k)) rfl rfl (by omega)) rfl ?_
      refine WL.e 2 rfl ?_
      refine WL.v (Runs.lsidx Tryz.underlying9 rfl rfl (n := k) rfl (by omega)) rfl ?_
      refine WL.v (Runs.u8toI Tryz.underlying5 Tryz.underlying3 rfl) rfl ?_
      refine WL.v (Runs.orB (m := valN ((dig l p).take k)) rfl rfl (by omega)) rfl ?_
      refine WL.e 1 rfl ?_
      refine WL.nil (WN.blk (WN.thn (WC.reg ?_)))
      refine WL.v (Runs.addn rfl rfl (by omega)) rfl ?_
      refine WL.e 1 rfl ?_
      refine WL.nil ?_
      refine WN.again (k + 1) (by omega) ⟨rfl, rfl, rfl, rfl, ?_, rfl, rfl, trivial⟩ ⟨by omega, hL⟩
      show _ = some (Value.int .i64 (valN ((dig l p).take (k + 1)) : Int))
      rw [take_one (by omega), valN_snoc]
      rfl
    ·try simp only [dt, df, nt, nf, ba, il, ie] at c8
     first
     |(exfalso; omega)
     |skip
      refine WC.exit (WX.thn (WX.cut (WX.hit (WN.thn (WC.seq ?_)))))
      obtain rfl : k = (dig l p).length := by omega
      rw [List.take_of_length_le (Nat.le_refl _)] at *
      have hcase := cases11 (szB l p) (valN (dig l p)) 1099511627776 ((dig l p).getD 0 0 = 0)
      rcases hcase with h1 | ⟨h1, h2⟩ | ⟨h1, h2, h3⟩ | ⟨h1, h2, h3⟩
      ·have hv0 : valN (dig l p) = 0 := by rw [List.eq_nil_of_length_eq_zero (hdl.trans h1)]; rfl
       refine WC.reg ?_
       refine WL.e 1 rfl ?_
       refine WL.v (Runs.boolT (c := true) (Runs.eql rfl rfl) (by rw [decide_eq_true_eq]; omega)) rfl ?_
       refine WL.e 5 rfl ?_
       refine WL.goffU rfl rfl rfl ?_
       refine WL.goffU rfl rfl rfl ?_
       refine WL.e 3 rfl ?_
       refine WL.call can155 rfl rfl (must_ok _ _ _ hL) ?_
       rintro _ w9 ⟨rfl, h9⟩
       refine ⟨_, rfl, ?_⟩
       refine WL.nil (WN.thn (WC.seq (WC.reg ?_)))
       refine WL.e 2 rfl ?_
       refine WL.nil (WN.thn (WC.ret ?_))
       have he : rerr l p = 0 := by
        unfold rerr
        rw [if_neg (by omega), if_neg (by omega), if_neg (by omega), if_neg]
        rintro (h4 | ⟨h4, h5⟩)
        ·omega
        ·first | omega | exact absurd h5 h2
       exact ret1 rfl rfl (.inl ⟨he, rfl, h9⟩)
      ·skip
       refine WC.reg ?_
       refine WL.e 1 rfl ?_
       refine WL.v (Runs.boolT (c := false) (Runs.eql rfl rfl) (by rw [decide_eq_false_iff_not]; omega)) rfl ?_
       refine WL.e 2 rfl ?_
       refine WL.gon rfl rfl rfl ?_
       refine WL.v (Runs.lsidx Tryz.underlying9 rfl rfl (n := 0) rfl (by omega)) rfl ?_
       refine WL.gon rfl rfl rfl ?_
       refine WL.v (Runs.boolT (c := false) (Runs.neq rfl rfl) (by rw [h2]; rfl)) rfl ?_
       refine WL.e 6 rfl ?_
       refine WL.callP can155 rfl rfl (must_no _ _ _ hL) ?_
       rintro _ w10 ⟨rfl, h10⟩
       refine .inr ⟨_, rfl, ?_⟩
       have he : rerr l p = 3 := by unfold rerr; rw [if_neg (by omega), if_neg (by omega), if_neg (by omega), if_pos (.inr ⟨h1, h2⟩)]
       exact die0 (.inr ⟨by rw [he]; decide, _, by rw [he], h10⟩)
      ·have h2b := u8_ne h2
       refine WC.reg ?_
       refine WL.e 1 rfl ?_
       refine WL.v (Runs.boolT (c := false) (Runs.eql rfl rfl) (by rw [decide_eq_false_iff_not]; omega)) rfl ?_
       refine WL.e 2 rfl ?_
       refine WL.gon rfl rfl rfl ?_
       refine WL.v (Runs.lsidx Tryz.underlying9 rfl rfl (n := 0) rfl (by omega)) rfl ?_
       refine WL.gon rfl rfl rfl ?_
       refine WL.v (Runs.boolT (c := true) (Runs.neq rfl rfl) (by rw [decide_eq_false h2b]; rfl)) rfl ?_
       refine WL.e 2 rfl ?_
       refine WL.gon rfl rfl rfl ?_
       refine WL.call can120 rfl rfl (may_n _ _ hL (by omega)) ?_
       rintro _ w11 ⟨rfl, h11⟩
       refine ⟨_, rfl, ?_⟩
       refine WL.e 3 rfl ?_
       refine WL.callP can155 rfl rfl (must_no _ _ _ h11) ?_
       rintro _ w12 ⟨rfl, h12⟩
       refine .inr ⟨_, rfl, ?_⟩
       have he : rerr l p = 3 := by unfold rerr; rw [if_neg (by omega), if_neg (by omega), if_neg (by omega), if_pos (.inl h3)]
       exact die0 (.inr ⟨by rw [he]; decide, _, by rw [he], h12⟩)
      ·have h2b := u8_ne h2
       refine WC.reg ?_
       refine WL.e 1 rfl ?_
       refine WL.v (Runs.boolT (c := false) (Runs.eql rfl rfl) (by rw [decide_eq_false_iff_not]; omega)) rfl ?_
       refine WL.e 2 rfl ?_
       refine WL.gon rfl rfl rfl ?_
       refine WL.v (Runs.lsidx Tryz.underlying9 rfl rfl (n := 0) rfl (by omega)) rfl ?_
       refine WL.gon rfl rfl rfl ?_
       refine WL.v (Runs.boolT (c := true) (Runs.neq rfl rfl) (by rw [decide_eq_false h2b]; rfl)) rfl ?_
       refine WL.e 2 rfl ?_
       refine WL.gon rfl rfl rfl ?_
       refine WL.call can120 rfl rfl (may_y _ _ hL (by omega)) ?_
       rintro _ w13 ⟨rfl, h13⟩
       refine ⟨_, rfl, ?_⟩
       refine WL.e 3 rfl ?_
       refine WL.call can155 rfl rfl (must_ok _ _ _ h13) ?_
       rintro _ w14 ⟨rfl, h14⟩
       refine ⟨_, rfl, ?_⟩
       refine WL.nil (WN.thn (WC.seq (WC.reg ?_)))
       refine WL.e 2 rfl ?_
       refine WL.nil (WN.thn (WC.ret ?_))
       have he : rerr l p = 0 := by
        unfold rerr
        rw [if_neg (by omega), if_neg (by omega), if_neg (by omega), if_neg]
        rintro (h4 | ⟨h4, h5⟩)
        ·omega
        ·first | omega | exact absurd h5 h2
       exact ret1 rfl rfl (.inl ⟨he, rfl, h14⟩)
theorem count_c {W : World} {F : Snap} {cs : List Res} (w : World) {i rb p : Nat} {e : Int} {l : List UInt8}  (most : Int) (h : St W F cs w) (hi : cs[i]? = some [(rb, .cells #[.string (bs l), Vi (p), Vi (e)] 161 (0, 0))]) (hl : l.length ≤ 9223372036854775807) (hp : p ≤ l.length) : Calls Tryz.prog 127 #[.pointer (some ⟨rb, 0, none⟩), Vi most] w fun r w' => (cerr l p most = 0 ∧ r = .returned (Vi (rval l p : Int)) ∧ St W F (cs.set i [(rb, .cells #[.string (bs l), Vi (rnx l p), Vi (e)] 161 (0, 0))]) w') ∨ (cerr l p most ≠ 0 ∧ ∃ q, r = .panicked (wch p (cerr l p most)) ∧ St W F (cs.set i [(rb, .cells #[.string (bs l), Vi q, Vi e] 161 (0, 0))]) w')  := by
 refine enter (P := Tryz.prog) (args := [.pointer (some ⟨rb, 0, none⟩), Vi most]) Tryz.func127 rfl rfl rfl ?_
 refine WC.seq (WC.reg ?_)
 refine WL.e 1 rfl ?_
 refine WL.nil (WN.thn (WC.seq (WC.reg ?_)))
 refine WL.e 3 rfl ?_
 refine WL.v (Runs.load1 Tryz.underlying3 rfl rfl (h.ocell hi rfl)) rfl ?_
 refine WL.e 1 rfl ?_
 refine WL.nil (WN.thn (WC.seq (WC.reg ?_)))
 refine WL.e 1 rfl ?_
 refine WL.callP can125 rfl rfl (num_c _ h hi hl hp) ?_
 rintro _ w1 (⟨he, rfl, h1⟩ | ⟨he, q, rfl, h1⟩)
 rotate_left
 ·refine .inr ⟨_, rfl, ?_⟩
  have hc : cerr l p most = rerr l p := if_pos he
  exact die0 (.inr ⟨by rw [hc]; exact he, q, by rw [hc], h1⟩)
 refine .inl ⟨_, rfl, ?_⟩
 refine WL.e 1 rfl ?_
 refine WL.nil (WN.thn (WC.seq ?_))
 have hcase : most < (rval l p : Int) ∨ (rval l p : Int) ≤ most := by omega
 rcases hcase with hm | hm
 ·skip
  refine WC.reg ?_
  refine WL.e 2 rfl ?_
  refine WL.v (Runs.boolT (c := false) (Runs.leq rfl rfl) (by rw [decide_eq_false_iff_not]; omega)) rfl ?_
  refine WL.e 1 rfl ?_
  refine WL.callP can155 rfl rfl (must_no _ _ _ h1) ?_
  rintro _ w2 ⟨rfl, h2⟩
  refine .inr ⟨_, rfl, ?_⟩
  have hc : cerr l p most = 3 := by unfold cerr; rw [if_neg (by rw [he]; decide), if_pos hm]
  exact die0 (.inr ⟨by rw [hc]; decide, _, by rw [hc], h2⟩)
 ·skip
  refine WC.reg ?_
  refine WL.e 2 rfl ?_
  refine WL.v (Runs.boolT (c := true) (Runs.leq rfl rfl) (by rw [decide_eq_true_eq]; omega)) rfl ?_
  refine WL.e 1 rfl ?_
  refine WL.call can155 rfl rfl (must_ok _ _ _ h1) ?_
  rintro _ w3 ⟨rfl, h3⟩
  refine ⟨_, rfl, ?_⟩
  refine WL.nil (WN.thn (WC.seq (WC.reg ?_)))
  refine WL.e 2 rfl ?_
  refine WL.nil (WN.thn (WC.ret ?_))
  have hc : cerr l p most = 0 := by unfold cerr; rw [if_neg (by rw [he]; decide), if_neg (by omega)]
  exact ret1 rfl rfl (.inl ⟨hc, rfl, h3⟩)
end Wir
end Go.Proofs.YtifdpllfbaogcaaGreat
namespace Go.Proofs.YtifdpllfbaogcaaGreat
open Go Go.RowKit B
namespace Wir
theorem inf43 : Inf Tryz.prog 43 (.int .i64 0) 1 8 := by unfold Inf; kernel_rfl
theorem inf191 : Inf Tryz.prog 191 (.agg #[.int .i64 0, .int .i64 0]) 2 16 := by unfold Inf; kernel_rfl
theorem fld161_2 : fldB Tryz.prog 161 2 2 = true := by kernel_rfl
theorem fld191_0 : fldB Tryz.prog 191 0 0 = true := by kernel_rfl
theorem fld191_1 : fldB Tryz.prog 191 1 1 = true := by kernel_rfl
theorem can154 : B.Can Tryz.prog 154 := ⟨_, Tryz.func154, by kernel_rfl, rfl⟩
theorem WC.go {P : Program} {Z : Post} {N : Nat} {D : List Deferred} {sl : Sl} {c : Code} {w : World} {a : Act} (h : WC P Z [] N D sl c w) (ha : Ag N D sl a) : c.wp P Z a w := h a ha
theorem ag2 {t : Array Value} {x y : Value} (h0 : t[0]? = some x) (h1 : t[1]? = some y) {d : Nat} {v : Value} (hl : lk [(0, x), (1, y)] d = some v) : t[d]? = some v := by
 rcases d with _ | _ | d
 ·have : x = v := by simpa [lk] using hl
  rw [h0, this]
 ·have : y = v := by simpa [lk] using hl
  rw [h1, this]
 ·simp [lk, Nat.beq] at hl
theorem catch_p {W : World} {F : Snap} {cs : List Res} (w : World) {i rb bb : Nat} {q at_ e e' : Int} {l : List UInt8} (h : St W F cs w) (hi : cs[i]? = some [(rb, .cells #[.string (bs l), Vi q, Vi e] 161 (0, 0))]) (hb : cellF F ⟨bb, 0, none⟩ = some (.pointer (some ⟨rb, 0, none⟩))) : CallsD Tryz.prog 154 #[.pointer (some ⟨bb, 0, none⟩)] (.panicking (wch at_ e')) w fun r u' w' => r = .returned (.tuple #[]) ∧ u' = .panicking [{ v := .iface 191 (.agg #[Vi at_, Vi e']), recovered := true }] ∧ St W F (cs.set i [(rb, .cells #[.string (bs l), Vi at_, Vi e'] 161 (0, 0))]) w'  := by
 refine callsD_of_wpS Tryz.func154 rfl fun c₀ cs₀ hu => ?_
 try unfold wch chain1 at hu
 apply wpS_seq
 apply wpS_region
 simp [wpOpsS, go_sem, recoverD, hu, Tryz.ntmps154, Exit.thenS]
 refine wpS_of_wp ?_
 refine WC.go (N := 18) (D := []) (sl := [(0, .pointer (some ⟨bb, 0, none⟩)), (1, .iface 191 (.agg #[Vi at_, Vi e']))]) ?_ ⟨rfl, by simp, fun d v hl => ag2 (by simp) (by simp) hl⟩
 refine WC.seq (WC.reg ?_)
 refine WL.e 1 rfl ?_
 refine WL.v (Runs.ifneq Tryz.underlying20 rfl rfl) rfl ?_
 refine WL.nil (WN.thn ?_)
 refine WC.condT rfl (rfl) ?_
 refine WC.seq (WC.reg ?_)
 refine WL.e 1 rfl ?_
 refine WL.v (Runs.assertS Tryz.underlying191 rfl rfl) rfl ?_
 refine WL.alloc' rfl h inf191 ?_
 intro b2 w1 h1
 refine WL.store' h1 0 rfl rfl rfl inf191 rfl rfl (Free.zero _) (Nat.le_of_ble_eq_true rfl) ?_
 intro  w2 h2
 try simp only [lz, ls, ez, es'] at h2
 refine WL.nil (WN.thn ?_)
 obtain ⟨G, gl, g0, S0⟩ := h2.freeze (i := 0) rfl
 have hw0 : cellF G ⟨b2, 0, none⟩ = some (Vi at_) := by unfold cellF; simp only [g0 _ List.mem_cons_self]; rfl
 have hw1 : cellF G ⟨b2, 1, none⟩ = some (Vi e') := by unfold cellF; simp only [g0 _ List.mem_cons_self]; rfl
 replace S0 : St W G cs w2 := S0
 have hi2 : (cs.set i [(rb, .cells #[.string (bs l), Vi at_, Vi e] 161 (0, 0))])[i]? = some [(rb, .cells #[.string (bs l), Vi at_, Vi e] 161 (0, 0))] := by rw [List.getElem?_set_self (List.getElem?_eq_some_iff.1 hi).1]
 refine WC.eregF S0 (fun s_ => ([] : List Nat).any (Nat.beq s_)) mixed (by kernel_rfl) (fun hx => ?_)
 intro w3 h3
 refine WE.p0 hx 2 (by rfl) (fun w_ => Runs.fld fld191_0 rfl) rfl ?_
 refine WE.p0 hx 4 (by rfl) (fun w_ => Runs.fld fld191_1 rfl) rfl ?_
 refine WE.v0 12 hx 0 (by rfl) (fun w_ hE_ => Exists.elim hE_ (fun cs_ hC_ => Runs.load1 Tryz.underlying131 rfl rfl (hC_.cell (cellF_le gl hb)))) rfl ?_
 refine WE.v0 12 hx 1 (by rfl) (fun w_ hE_ => Exists.elim hE_ (fun cs_ hC_ => Runs.load1 Tryz.underlying131 rfl rfl (hC_.cell (cellF_le gl hb)))) rfl ?_
 refine WE.v0 12 hx 3 (by rfl) (fun w_ hE_ => Exists.elim hE_ (fun cs_ hC_ => Runs.load1 Tryz.underlying3 rfl rfl (hC_.cell hw0))) rfl ?_
 refine WE.p0 hx 6 (by rfl) (fun w_ => Runs.nilCheckP rfl) rfl ?_
 refine WE.p0 hx 7 (by rfl) (fun w_ => Runs.fld fld161_1 rfl) rfl ?_
 refine WE.v0 12 hx 5 (by rfl) (fun w_ hE_ => Exists.elim hE_ (fun cs_ hC_ => Runs.load1 Tryz.underlying43 rfl rfl (hC_.cell hw1))) rfl ?_
 refine WE.op (.inr (EC.mk h3 (Le.refl _))) (i := 8) (by rfl) (by kernel_rfl) ?_
 refine WL.store' h3 i hi rfl rfl inf3 rfl rfl (Free.zero _) (Nat.le_of_ble_eq_true rfl) ?_
 intro  w4 h4
 try simp only [lz, ls, ez, es'] at h4
 refine WL.nil (WE.next ?_)
 refine WE.p0 hx 9 (by rfl) (fun w_ => Runs.nilCheckP rfl) rfl ?_
 refine WE.p0 hx 10 (by rfl) (fun w_ => Runs.fld fld161_2 rfl) rfl ?_
 refine WE.op (.inr (EC.mk h4 (Le.refl _))) (i := 11) (by rfl) (by kernel_rfl) ?_
 refine WL.store' h4 i hi2 rfl rfl inf43 rfl rfl (Free.zero _) (Nat.le_of_ble_eq_true rfl) ?_
 intro  w5 h5
 try simp only [lz, ls, ez, es'] at h5
 rw [List.set_set] at h5
 refine WL.nil (WE.next ?_)
 refine WE.fin (.inr (EC.mk h5 (Le.refl _))) (by kernel_rfl) ?_
 exact fun a_ ha_ => ⟨ha_.df, _, rfl, .tuple #[], results_none rfl _ _ _, rfl, rfl, h5.weak gl⟩
theorem catch_i {W : World} {F : Snap} {cs : List Res} (w : World) {bb : Nat} (h : St W F cs w) : CallsD Tryz.prog 154 #[.pointer (some ⟨bb, 0, none⟩)] .returning w fun r u' w' => r = .returned (.tuple #[]) ∧ u' = .returning ∧ St W F cs w'  := by
 refine callsD_of_wpS Tryz.func154 rfl fun c₀ cs₀ hu => ?_
 try unfold wch chain1 at hu
 apply wpS_seq
 apply wpS_region
 simp [wpOpsS, go_sem, recoverD, hu, Tryz.ntmps154, Exit.thenS]
 refine wpS_of_wp ?_
 refine WC.go (N := 18) (D := []) (sl := [(0, .pointer (some ⟨bb, 0, none⟩)), (1, .nilIface)]) ?_ ⟨rfl, by simp, fun d v hl => ag2 (by simp) (by simp) hl⟩
 refine WC.seq (WC.reg ?_)
 refine WL.e 1 rfl ?_
 refine WL.v (Runs.ifneq0 Tryz.underlying20 rfl rfl) rfl ?_
 refine WL.nil (WN.thn ?_)
 refine WC.condF rfl (rfl) ?_
 refine WC.skip ?_
 exact fun a_ ha_ => ⟨ha_.df, c₀.mode, rfl, .tuple #[], results_none rfl _ _ _, rfl, hu, h⟩
theorem take_off {W : World} {F : Snap} {cs : List Res} (w : World) {i rb : Nat} {q e : Int} {l : List UInt8} (fv : Value) (h : St W F cs w) (hi : cs[i]? = some [(rb, .cells #[.string (bs l), Vi q, Vi e] 161 (0, 0))]) (he : e ≠ 0) : Calls Tryz.prog 123 #[.pointer (some ⟨rb, 0, none⟩), fv] w fun r w' => r = .returned (.tuple #[]) ∧ St W F cs w'  := by
 refine enterD (P := Tryz.prog) (args := [.pointer (some ⟨rb, 0, none⟩), fv]) Tryz.func123 rfl rfl rfl ?_
 refine WC.seq (WC.reg ?_)
 refine WL.box rfl h rfl ?_
 intro b2 w1 h1
 refine WL.nil (WN.thn (WC.seq (WC.seq (WC.reg ?_))))
 refine WL.v (Runs.load1 Tryz.underlying131 rfl rfl (h1.ocell (i := 0) rfl rfl)) rfl ?_
 refine WL.v (Runs.peql Tryz.underlying131 rfl rfl) rfl ?_
 refine WL.e 1 rfl ?_
 refine WL.gon rfl rfl rfl ?_
 refine WL.v (Runs.load1 Tryz.underlying131 rfl rfl (h1.ocell (i := 0) rfl rfl)) rfl ?_
 refine WL.e 2 rfl ?_
 refine WL.gon rfl rfl rfl ?_
 refine WL.v (Runs.load1 Tryz.underlying43 rfl rfl (h1.ocell (i := i + 1) hi rfl)) rfl ?_
 refine WL.gon rfl rfl rfl ?_
 refine WL.v (Runs.boolT (c := true) (Runs.neq rfl rfl) (by rw [decide_eq_false he]; rfl)) rfl ?_
 refine WL.e 1 rfl ?_
 refine WL.nil (WN.thn ?_)
 refine WC.condT rfl (rfl) ?_
 refine WC.ret ?_
 exact leaveN rfl ⟨rfl, h1.drop 0⟩
theorem take_on {W : World} {F : Snap} {cs : List Res} (w : World) {i rb f : Nat} {q : Int} {l : List UInt8} {caps : List Value} {K1 : List Res → Prop} {K2 : Int → Int → List Res → Prop} (hcan : B.Can Tryz.prog f) (h : St W F cs w) (hi : cs[i]? = some [(rb, .cells #[.string (bs l), Vi q, Vi 0] 161 (0, 0))])
  (hdo : ∀ G w', Le F G → St W G cs w' → Calls Tryz.prog f caps.toArray w' fun r w'' => (∃ cs1, r = .returned (.tuple #[]) ∧ K1 cs1 ∧ St W G cs1 w'') ∨ ∃ a e q cs2, r = .panicked (wch a e) ∧ K2 a e cs2 ∧ cs2[i]? = some [(rb, .cells #[.string (bs l), Vi q, Vi 0] 161 (0, 0))] ∧ St W G cs2 w'') :
  Calls Tryz.prog 123 #[.pointer (some ⟨rb, 0, none⟩), .func (.func f) #[] caps.toArray] w fun r w' => r = .returned (.tuple #[]) ∧ ((∃ cs1, K1 cs1 ∧ St W F cs1 w') ∨ ∃ a e cs2, K2 a e cs2 ∧ St W F (cs2.set i [(rb, .cells #[.string (bs l), Vi a, Vi e] 161 (0, 0))]) w')  := by
 refine enterD (P := Tryz.prog) (args := [.pointer (some ⟨rb, 0, none⟩), .func (.func f) #[] caps.toArray]) Tryz.func123 rfl rfl rfl ?_
 refine WC.seq (WC.reg ?_)
 refine WL.box rfl h rfl ?_
 intro b2 w1 h1
 refine WL.nil (WN.thn (WC.seq (WC.seq (WC.reg ?_))))
 refine WL.v (Runs.load1 Tryz.underlying131 rfl rfl (h1.ocell (i := 0) rfl rfl)) rfl ?_
 refine WL.v (Runs.peql Tryz.underlying131 rfl rfl) rfl ?_
 refine WL.e 1 rfl ?_
 refine WL.gon rfl rfl rfl ?_
 refine WL.v (Runs.load1 Tryz.underlying131 rfl rfl (h1.ocell (i := 0) rfl rfl)) rfl ?_
 refine WL.e 2 rfl ?_
 refine WL.gon rfl rfl rfl ?_
 refine WL.v (Runs.load1 Tryz.underlying43 rfl rfl (h1.ocell (i := i + 1) hi rfl)) rfl ?_
 refine WL.gon rfl rfl rfl ?_
 refine WL.v (Runs.boolT (c := false) (Runs.neq rfl rfl) rfl) rfl ?_
 refine WL.e 1 rfl ?_
 refine WL.nil (WN.thn ?_)
 refine WC.condF rfl (rfl) ?_
 refine WC.skip (WN.thn (WC.seq ?_))
 obtain ⟨G, gl, g0, S0⟩ := h1.freeze (i := 0) rfl
 have hb : cellF G ⟨b2, 0, none⟩ = some (.pointer (some ⟨rb, 0, none⟩)) := by unfold cellF; simp only [g0 _ List.mem_cons_self]; rfl
 replace S0 : St W G cs w1 := S0
 refine WC.reg ?_
 refine WL.v (Runs.makeFunc (us := []) (vs := [.pointer (some ⟨b2, 0, none⟩)]) rfl rfl) rfl ?_
 refine WL.deferC rfl ?_
 refine WL.nil (WN.thn (WC.reg ?_))
 refine WL.e 1 rfl ?_
 refine WL.callvP hcan rfl rfl rfl (hdo G _ gl S0) ?_
 rintro _ w2 (⟨cs1, rfl, hk1, h2⟩ | ⟨a, e, q2, cs2, rfl, hk2, hi2, h2⟩)
 rotate_left
 ·refine .inr ⟨_, rfl, ?_⟩
  refine dieC rfl can154 rfl ((catch_p w2 h2 hi2 hb).mono fun r u' w' ⟨h1, h2, h3⟩ => ⟨h1, h2, rfl, .inr ⟨a, e, cs2, hk2, h3.weak gl⟩⟩)
 refine .inl ⟨_, rfl, ?_⟩
 refine WL.nil ?_
 exact leaveC rfl can154 ((catch_i w2 (bb := b2) h2).mono fun r u' w' ⟨h1, h2, h3⟩ => ⟨h1, h2, rfl, .inl ⟨cs1, hk1, h3.weak gl⟩⟩)
end Wir
end Go.Proofs.YtifdpllfbaogcaaGreat
namespace Go.Proofs.YtifdpllfbaogcaaGreat
open Go Go.RowKit B
namespace Wir
theorem can123 : B.Can Tryz.prog 123 := ⟨_, Tryz.func123, by kernel_rfl, rfl⟩
theorem can124 : B.Can Tryz.prog 124 := ⟨_, Tryz.func124, by kernel_rfl, rfl⟩
theorem rnx_le {l : List UInt8} {p : Nat} (h : rerr l p = 0) : rnx l p ≤ l.length := by
 unfold rerr at h
 unfold rnx
 split at h
 ·cases h
 ·split at h
  ·cases h
  ·split at h
   ·cases h
   ·omega
theorem cerr_0 {l : List UInt8} {p : Nat} {m : Int} (h : cerr l p m = 0) : rerr l p = 0 ∧ (rval l p : Int) ≤ m := by
 unfold cerr at h
 by_cases h1 : rerr l p = 0
 ·rw [if_neg (by rw [h1]; decide)] at h
  split at h
  ·cases h
  ·exact ⟨h1, by omega⟩
 ·rw [if_pos h1] at h; exact absurd h h1
def rdN (l : List UInt8) (p : Nat) (e : Int) : Nat × Nat × Int := if e ≠ 0 then (0, p, e) else if rerr l p = 0 then (rval l p, rnx l p, 0) else (0, p, rerr l p)
def rdT (l : List UInt8) (p : Nat) (e : Int) : List UInt8 × Nat × Int := if e ≠ 0 then ([], p, e) else if cerr l p 4096 ≠ 0 then ([], p, cerr l p 4096) else if l.length < rnx l p + rval l p then ([], rnx l p, 2) else ((l.drop (rnx l p)).take (rval l p), rnx l p + rval l p, 0)
theorem rdN_le {l : List UInt8} {p : Nat} (e : Int) (hp : p ≤ l.length) : (rdN l p e).2.1 ≤ l.length := by
 unfold rdN
 split
 ·exact hp
 ·split
  ·rename_i h; exact rnx_le h
  ·exact hp
theorem num1_c {W : World} {F : Snap} {cs : List Res} (w : World) {i rb : Nat} {p : Nat} {l : List UInt8} {j k bb nb : Nat} {v0 : Int} (h : St W F cs w) (hi : cs[i]? = some [(rb, .cells #[.string (bs l), Vi p, Vi 0] 161 (0, 0))]) (hk : cs[k]? = some [(bb, .cells #[.pointer (some ⟨rb, 0, none⟩)] 131 (0, 0))]) (hj : cs[j]? = some [(nb, .cells #[Vi v0] 3 (0, 0))]) (hij : i ≠ j) (hl : l.length ≤ 9223372036854775807) (hp : p ≤ l.length) : Calls Tryz.prog 124 #[.pointer (some ⟨bb, 0, none⟩), .pointer (some ⟨nb, 0, none⟩)] w fun r w' =>
 (r = .returned (.tuple #[]) ∧ rerr l p = 0 ∧ St W F ((cs.set i [(rb, .cells #[.string (bs l), Vi (rnx l p : Nat), Vi 0] 161 (0, 0))]).set j [(nb, .cells #[Vi (rval l p : Nat)] 3 (0, 0))]) w') ∨ (∃ q, r = .panicked (wch p (rerr l p)) ∧ rerr l p ≠ 0 ∧ St W F (cs.set i [(rb, .cells #[.string (bs l), Vi q, Vi 0] 161 (0, 0))]) w')  := by
 refine enter (P := Tryz.prog) (args := [.pointer (some ⟨bb, 0, none⟩), .pointer (some ⟨nb, 0, none⟩)]) Tryz.func124 rfl rfl rfl ?_
 refine WC.reg ?_
 refine WL.v (Runs.load1 Tryz.underlying131 rfl rfl (h.ocell (hk) rfl)) rfl ?_
 refine WL.callP can125 rfl rfl (num_c _ h hi hl hp) ?_
 rintro _ w1 (⟨he, rfl, h1⟩ | ⟨he, q, rfl, h1⟩)
 rotate_left
 ·refine .inr ⟨_, rfl, ?_⟩
  exact die0 (.inr ⟨q, rfl, he, h1⟩)
 refine .inl ⟨_, rfl, ?_⟩
 refine WL.store' h1 j (by rw [List.getElem?_set_ne hij]; exact hj) rfl rfl inf3 rfl rfl (Free.zero _) (Nat.le_of_ble_eq_true rfl) ?_
 intro  w2 h2
 try simp only [lz, ls, ez, es'] at h2
 refine WL.nil ?_
 exact end0 rfl (.inl ⟨rfl, he, h2⟩)
theorem readN_off {W : World} {F : Snap} {cs : List Res} (w : World) {i rb : Nat} {p : Nat} {l : List UInt8} {e : Int} (h : St W F cs w) (hi : cs[i]? = some [(rb, .cells #[.string (bs l), Vi p, Vi e] 161 (0, 0))]) (he : e ≠ 0) : Calls Tryz.prog 82 #[.pointer (some ⟨rb, 0, none⟩)] w fun r w' => r = .returned (Vi 0) ∧ St W F cs w'  := by
 refine enter (P := Tryz.prog) (args := [.pointer (some ⟨rb, 0, none⟩)]) Tryz.func82 rfl rfl rfl ?_
 refine WC.seq (WC.reg ?_)
 refine WL.box rfl h rfl ?_
 intro b1 w1 h1
 refine WL.e 1 rfl ?_
 refine WL.nil (WN.thn (WC.seq (WC.reg ?_)))
 refine WL.alloc' rfl h1 inf3 ?_
 intro b3 w2 h2
 refine WL.store' h2 0 rfl rfl rfl inf3 rfl rfl (Free.zero _) (Nat.le_of_ble_eq_true rfl) ?_
 intro  w3 h3
 try simp only [lz, ls, ez, es'] at h3
 refine WL.nil (WN.thn (WC.seq (WC.reg ?_)))
 refine WL.v (Runs.load1 Tryz.underlying131 rfl rfl (h3.ocell (i := 1) rfl rfl)) rfl ?_
 refine WL.v (Runs.makeFunc (us := []) (vs := [.pointer (some ⟨b1, 0, none⟩), .pointer (some ⟨b3, 0, none⟩)]) rfl rfl) rfl ?_
 refine WL.call can123 rfl rfl (take_off _ _ h3 (i := i + 2) hi he) ?_
 rintro _ w4 ⟨rfl, h4⟩
 refine ⟨_, rfl, ?_⟩
 refine WL.nil (WN.thn (WC.seq (WC.reg ?_)))
 refine WL.v (Runs.load1 Tryz.underlying3 rfl rfl (h4.ocell (i := 0) rfl rfl)) rfl ?_
 refine WL.e 1 rfl ?_
 refine WL.nil (WN.thn (WC.ret ?_))
 exact ret1 rfl rfl ⟨rfl, (h4.drop 0).drop 0⟩
theorem readN_on {W : World} {F : Snap} {cs : List Res} (w : World) {i rb : Nat} {p : Nat} {l : List UInt8} (h : St W F cs w) (hi : cs[i]? = some [(rb, .cells #[.string (bs l), Vi p, Vi 0] 161 (0, 0))]) (hl : l.length ≤ 9223372036854775807) (hp : p ≤ l.length) : Calls Tryz.prog 82 #[.pointer (some ⟨rb, 0, none⟩)] w fun r w' => r = .returned (Vi ((rdN l p 0).1 : Nat)) ∧ St W F (cs.set i [(rb, .cells #[.string (bs l), Vi ((rdN l p 0).2.1 : Nat), Vi (rdN l p 0).2.2] 161 (0, 0))]) w'  := by
 refine enter (P := Tryz.prog) (args := [.pointer (some ⟨rb, 0, none⟩)]) Tryz.func82 rfl rfl rfl ?_
 refine WC.seq (WC.reg ?_)
 refine WL.box rfl h rfl ?_
 intro b1 w1 h1
 refine WL.e 1 rfl ?_
 refine WL.nil (WN.thn (WC.seq (WC.reg ?_)))
 refine WL.alloc' rfl h1 inf3 ?_
 intro b3 w2 h2
 refine WL.store' h2 0 rfl rfl rfl inf3 rfl rfl (Free.zero _) (Nat.le_of_ble_eq_true rfl) ?_
 intro  w3 h3
 try simp only [lz, ls, ez, es'] at h3
 refine WL.nil (WN.thn (WC.seq (WC.reg ?_)))
 refine WL.v (Runs.load1 Tryz.underlying131 rfl rfl (h3.ocell (i := 1) rfl rfl)) rfl ?_
 refine WL.v (Runs.makeFunc (us := []) (vs := [.pointer (some ⟨b1, 0, none⟩), .pointer (some ⟨b3, 0, none⟩)]) rfl rfl) rfl ?_
 refine WL.call can123 rfl rfl (take_on (f := 124) (caps := [.pointer (some ⟨b1, 0, none⟩), .pointer (some ⟨b3, 0, none⟩)]) (i := i + 2)
  (K1 := fun cs1 => rerr l p = 0 ∧ cs1 = ([(b3, .cells #[Vi (rval l p : Nat)] 3 (0, 0))] :: [(b1, .cells #[.pointer (some ⟨rb, 0, none⟩)] 131 (0, 0))] :: cs.set i [(rb, .cells #[.string (bs l), Vi (rnx l p : Nat), Vi 0] 161 (0, 0))])) (K2 := fun a e cs2 => rerr l p ≠ 0 ∧ a = p ∧ e = rerr l p ∧ ∃ q, cs2 = ([(b3, .cells #[Vi 0] 3 (0, 0))] :: [(b1, .cells #[.pointer (some ⟨rb, 0, none⟩)] 131 (0, 0))] :: cs.set i [(rb, .cells #[.string (bs l), Vi q, Vi 0] 161 (0, 0))]))
  _ can124 h3 hi (fun G w2 hle hS => (num1_c w2 (i := i + 2) (j := 0) (k := 1) hS hi rfl rfl (by omega) hl hp).mono fun r w3 hh => ?_)) ?_
 ·rcases hh with ⟨h1, h2, h3⟩ | ⟨q, h1, h2, h3⟩
  ·exact .inl ⟨_, h1, ⟨h2, rfl⟩, h3⟩
  ·exact .inr ⟨p, rerr l p, q, _, h1, ⟨h2, rfl, rfl, q, rfl⟩, by show (cs.set i _)[i]? = _; rw [List.getElem?_set_self (List.getElem?_eq_some_iff.1 hi).1], h3⟩
 rintro _ wt ⟨rfl, hh⟩
 refine ⟨_, rfl, ?_⟩
 obtain ⟨vv, hvv, hS⟩ : ∃ vv, vv = ((rdN l p 0).1 : Nat) ∧ St W F ([(b3, .cells #[Vi (vv : Nat)] 3 (0, 0))] :: [(b1, .cells #[.pointer (some ⟨rb, 0, none⟩)] 131 (0, 0))] :: cs.set i [(rb, .cells #[.string (bs l), Vi ((rdN l p 0).2.1 : Nat), Vi (rdN l p 0).2.2] 161 (0, 0))]) wt := by
  rcases hh with ⟨cs1, ⟨he, rfl⟩, h3⟩ | ⟨a, e, cs2, ⟨he, rfl, rfl, q, rfl⟩, h3⟩
  ·have e1 : rdN l p 0 = (rval l p, rnx l p, 0) := by unfold rdN; rw [if_neg (by simp), if_pos he]
   rw [e1]; exact ⟨_, rfl, h3⟩
  ·have e1 : rdN l p 0 = (0, p, rerr l p) := by unfold rdN; rw [if_neg (by simp), if_neg he]
   rw [e1]; refine ⟨_, rfl, ?_⟩
   simp only [List.set_cons_succ, List.set_set] at h3
   exact h3
 refine WL.nil (WN.thn (WC.seq (WC.reg ?_)))
 refine WL.v (Runs.load1 Tryz.underlying3 rfl rfl (hS.ocell (i := 0) rfl rfl)) rfl ?_
 refine WL.e 1 rfl ?_
 refine WL.nil (WN.thn (WC.ret ?_))
 obtain ⟨rfl⟩ := hvv
 exact ret1 rfl rfl ⟨rfl, (hS.drop 0).drop 0⟩
end Wir
end Go.Proofs.YtifdpllfbaogcaaGreat
namespace Go.Proofs.YtifdpllfbaogcaaGreat
open Go Go.RowKit B
namespace Wir
theorem inf9 : Inf Tryz.prog 9 (.string ⟨#[]⟩) 1 16 := by unfold Inf; kernel_rfl
theorem can126 : B.Can Tryz.prog 126 := ⟨_, Tryz.func126, by kernel_rfl, rfl⟩
theorem can127 : B.Can Tryz.prog 127 := ⟨_, Tryz.func127, by kernel_rfl, rfl⟩
def rdEnd (l : List UInt8) (p : Nat) (e : Int) : Int × Nat := if e = 0 ∧ p < l.length then (4, p) else (e, p)
theorem cases5 (e : Int) (p n : Nat) : e ≠ 0 ∨ (e = 0 ∧ p < n) ∨ (e = 0 ∧ ¬ p < n) := by omega
theorem text1_c {W : World} {F : Snap} {cs : List Res} (w : World) {i rb : Nat} {p : Nat} {l : List UInt8} {j k bb nb : Nat} {v0 : Value} (h : St W F cs w) (hi : cs[i]? = some [(rb, .cells #[.string (bs l), Vi p, Vi 0] 161 (0, 0))]) (hk : cs[k]? = some [(bb, .cells #[.pointer (some ⟨rb, 0, none⟩)] 131 (0, 0))]) (hj : cs[j]? = some [(nb, .cells #[v0] 9 (0, 0))]) (hij : i ≠ j ∧ i ≠ k) (hl : l.length ≤ 9223372036854775807) (hp : p ≤ l.length) : Calls Tryz.prog 126 #[.pointer (some ⟨bb, 0, none⟩), .pointer (some ⟨nb, 0, none⟩)] w fun r w' =>
 (r = .returned (.tuple #[]) ∧ (cerr l p 4096 = 0 ∧ rnx l p + rval l p ≤ l.length) ∧ St W F ((cs.set i [(rb, .cells #[.string (bs l), Vi (rnx l p + rval l p : Nat), Vi 0] 161 (0, 0))]).set j [(nb, .cells #[.string (bs ((l.drop (rnx l p)).take (rval l p)))] 9 (0, 0))]) w') ∨ (∃ (a : Nat) (e q : Int), r = .panicked (wch a e) ∧ (e ≠ 0 ∧ rdT l p 0 = ([], a, e)) ∧ St W F (cs.set i [(rb, .cells #[.string (bs l), Vi q, Vi 0] 161 (0, 0))]) w')  := by
 refine enter (P := Tryz.prog) (args := [.pointer (some ⟨bb, 0, none⟩), .pointer (some ⟨nb, 0, none⟩)]) Tryz.func126 rfl rfl rfl ?_
 refine WC.seq (WC.reg ?_)
 refine WL.v (Runs.load1 Tryz.underlying131 rfl rfl (h.ocell (hk) rfl)) rfl ?_
 refine WL.callP can127 rfl rfl (count_c _ 4096 h hi hl hp) ?_
 rintro _ w1 (⟨he, rfl, h1⟩ | ⟨he, q, rfl, h1⟩)
 rotate_left
 ·refine .inr ⟨_, rfl, ?_⟩
  exact die0 (.inr ⟨p, _, q, rfl, ⟨he, by unfold rdT; rw [if_neg (by simp), if_pos he]⟩, h1⟩)
 refine .inl ⟨_, rfl, ?_⟩
 have hi1 : (cs.set i [(rb, .cells #[.string (bs l), Vi (rnx l p : Nat), Vi 0] 161 (0, 0))])[i]? = some [(rb, .cells #[.string (bs l), Vi (rnx l p : Nat), Vi 0] 161 (0, 0))] := by rw [List.getElem?_set_self (List.getElem?_eq_some_iff.1 hi).1]
 have hk1 : (cs.set i [(rb, .cells #[.string (bs l), Vi (rnx l p : Nat), Vi 0] 161 (0, 0))])[k]? = some [(bb, .cells #[.pointer (some ⟨rb, 0, none⟩)] 131 (0, 0))] := by rw [List.getElem?_set_ne hij.2]; exact hk
 have hrn := rnx_le (cerr_0 he).1
 refine WL.e 1 rfl ?_
 refine WL.nil (WN.thn ?_)
 have hcase : l.length < rnx l p + rval l p ∨ rnx l p + rval l p ≤ l.length := by omega
 rcases hcase with hn | hn
 ·skip
  refine WC.eregO h1 (fun s_ => ([6, 7] : List Nat).any (Nat.beq s_)) mixed (by kernel_rfl) (fun hx => ?_)
  intro w2 h2
  refine WE.p0 hx 1 (by rfl) (fun w_ => Runs.move rfl) rfl ?_
  refine WE.v0 12 hx 0 (by rfl) (fun w_ hE_ => Runs.load1 Tryz.underlying131 rfl rfl (hE_.ocell (hk1) rfl)) rfl ?_
  refine WE.v0 12 hx 2 (by rfl) (fun w_ hE_ => Runs.load1 Tryz.underlying131 rfl rfl (hE_.ocell (hk1) rfl)) rfl ?_
  refine WE.p0 hx 3 (by rfl) (fun w_ => Runs.nilCheckP rfl) rfl ?_
  refine WE.p0 hx 4 (by rfl) (fun w_ => Runs.fld fld161_1 rfl) rfl ?_
  refine WE.v0 12 hx 5 (by rfl) (fun w_ hE_ => Runs.load1 Tryz.underlying3 rfl rfl (hE_.ocell hi1 rfl)) rfl ?_
  refine WE.op (.inr h2) (i := 6) (by rfl) (by kernel_rfl) ?_
  refine WL.callP can128 rfl rfl (bytes_no _ (rval l p) (rnx l p) h2 hi1 hl hrn hn (by have := (cerr_0 he).2; omega)) ?_
  rintro _ w3 ⟨rfl, h3⟩
  refine .inr ⟨_, rfl, ?_⟩
  refine WP.region ?_
  exact die0 (.inr ⟨rnx l p, 2, _, rfl, ⟨by decide, by unfold rdT; rw [if_neg (by simp), if_neg (by rw [he]; simp), if_pos hn]⟩, h3⟩)
 ·skip
  refine WC.eregO h1 (fun s_ => ([6, 7] : List Nat).any (Nat.beq s_)) mixed (by kernel_rfl) (fun hx => ?_)
  intro w4 h4
  refine WE.p0 hx 1 (by rfl) (fun w_ => Runs.move rfl) rfl ?_
  refine WE.v0 12 hx 0 (by rfl) (fun w_ hE_ => Runs.load1 Tryz.underlying131 rfl rfl (hE_.ocell (hk1) rfl)) rfl ?_
  refine WE.v0 12 hx 2 (by rfl) (fun w_ hE_ => Runs.load1 Tryz.underlying131 rfl rfl (hE_.ocell (hk1) rfl)) rfl ?_
  refine WE.p0 hx 3 (by rfl) (fun w_ => Runs.nilCheckP rfl) rfl ?_
  refine WE.p0 hx 4 (by rfl) (fun w_ => Runs.fld fld161_1 rfl) rfl ?_
  refine WE.v0 12 hx 5 (by rfl) (fun w_ hE_ => Runs.load1 Tryz.underlying3 rfl rfl (hE_.ocell hi1 rfl)) rfl ?_
  refine WE.op (.inr h4) (i := 6) (by rfl) (by kernel_rfl) ?_
  refine WL.call can128 rfl rfl (bytes_ok _ (rval l p) (rnx l p) h4 hi1 hl hrn hn) ?_
  rintro _ w5 ⟨rfl, h5⟩
  refine ⟨_, rfl, ?_⟩
  refine WL.nil (WE.next ?_)
  refine WE.op (.inl ⟨6, rfl, by kernel_rfl⟩) (i := 7) (by rfl) (by kernel_rfl) ?_
  refine WL.store' h5 j (by rw [List.set_set, List.getElem?_set_ne hij.1]; exact hj) rfl rfl inf9 rfl rfl (Free.zero _) (Nat.le_of_ble_eq_true rfl) ?_
  intro  w6 h6
  try simp only [lz, ls, ez, es'] at h6
  rw [List.set_set] at h6
  refine WL.nil (WE.next ?_)
  refine WE.fin (.inl ⟨6, rfl, by kernel_rfl⟩) (by kernel_rfl) ?_
  exact end0 rfl (.inl ⟨rfl, ⟨he, hn⟩, h6⟩)
theorem readT_off {W : World} {F : Snap} {cs : List Res} (w : World) {i rb : Nat} {p : Nat} {l : List UInt8} {e : Int} (h : St W F cs w) (hi : cs[i]? = some [(rb, .cells #[.string (bs l), Vi p, Vi e] 161 (0, 0))]) (he : e ≠ 0) : Calls Tryz.prog 83 #[.pointer (some ⟨rb, 0, none⟩)] w fun r w' => r = .returned (.string (bs [])) ∧ St W F cs w'  := by
 refine enter (P := Tryz.prog) (args := [.pointer (some ⟨rb, 0, none⟩)]) Tryz.func83 rfl rfl rfl ?_
 refine WC.seq (WC.reg ?_)
 refine WL.box rfl h rfl ?_
 intro b1 w1 h1
 refine WL.e 1 rfl ?_
 refine WL.nil (WN.thn (WC.seq (WC.reg ?_)))
 refine WL.alloc' rfl h1 inf9 ?_
 intro b3 w2 h2
 refine WL.store' h2 0 rfl rfl rfl inf9 rfl rfl (Free.zero _) (Nat.le_of_ble_eq_true rfl) ?_
 intro  w3 h3
 try simp only [lz, ls, ez, es'] at h3
 refine WL.nil (WN.thn (WC.seq (WC.reg ?_)))
 refine WL.v (Runs.load1 Tryz.underlying131 rfl rfl (h3.ocell (i := 1) rfl rfl)) rfl ?_
 refine WL.v (Runs.makeFunc (us := []) (vs := [.pointer (some ⟨b1, 0, none⟩), .pointer (some ⟨b3, 0, none⟩)]) rfl rfl) rfl ?_
 refine WL.call can123 rfl rfl (take_off _ _ h3 (i := i + 2) hi he) ?_
 rintro _ w4 ⟨rfl, h4⟩
 refine ⟨_, rfl, ?_⟩
 refine WL.nil (WN.thn (WC.seq (WC.reg ?_)))
 refine WL.v (Runs.load1 Tryz.underlying9 rfl rfl (h4.ocell (i := 0) rfl rfl)) rfl ?_
 refine WL.e 1 rfl ?_
 refine WL.nil (WN.thn (WC.ret ?_))
 exact ret1 rfl rfl ⟨rfl, (h4.drop 0).drop 0⟩
theorem readT_on {W : World} {F : Snap} {cs : List Res} (w : World) {i rb : Nat} {p : Nat} {l : List UInt8} (h : St W F cs w) (hi : cs[i]? = some [(rb, .cells #[.string (bs l), Vi p, Vi 0] 161 (0, 0))]) (hl : l.length ≤ 9223372036854775807) (hp : p ≤ l.length) : Calls Tryz.prog 83 #[.pointer (some ⟨rb, 0, none⟩)] w fun r w' => r = .returned (.string (bs (rdT l p 0).1)) ∧ St W F (cs.set i [(rb, .cells #[.string (bs l), Vi ((rdT l p 0).2.1 : Nat), Vi (rdT l p 0).2.2] 161 (0, 0))]) w'  := by
 refine enter (P := Tryz.prog) (args := [.pointer (some ⟨rb, 0, none⟩)]) Tryz.func83 rfl rfl rfl ?_
 refine WC.seq (WC.reg ?_)
 refine WL.box rfl h rfl ?_
 intro b1 w1 h1
 refine WL.e 1 rfl ?_
 refine WL.nil (WN.thn (WC.seq (WC.reg ?_)))
 refine WL.alloc' rfl h1 inf9 ?_
 intro b3 w2 h2
 refine WL.store' h2 0 rfl rfl rfl inf9 rfl rfl (Free.zero _) (Nat.le_of_ble_eq_true rfl) ?_
 intro  w3 h3
 try simp only [lz, ls, ez, es'] at h3
 refine WL.nil (WN.thn (WC.seq (WC.reg ?_)))
 refine WL.v (Runs.load1 Tryz.underlying131 rfl rfl (h3.ocell (i := 1) rfl rfl)) rfl ?_
 refine WL.v (Runs.makeFunc (us := []) (vs := [.pointer (some ⟨b1, 0, none⟩), .pointer (some ⟨b3, 0, none⟩)]) rfl rfl) rfl ?_
 refine WL.call can123 rfl rfl (take_on (f := 126) (caps := [.pointer (some ⟨b1, 0, none⟩), .pointer (some ⟨b3, 0, none⟩)]) (i := i + 2)
  (K1 := fun cs1 => (cerr l p 4096 = 0 ∧ rnx l p + rval l p ≤ l.length) ∧ cs1 = ([(b3, .cells #[.string (bs ((l.drop (rnx l p)).take (rval l p)))] 9 (0, 0))] :: [(b1, .cells #[.pointer (some ⟨rb, 0, none⟩)] 131 (0, 0))] :: cs.set i [(rb, .cells #[.string (bs l), Vi (rnx l p + rval l p : Nat), Vi 0] 161 (0, 0))])) (K2 := fun a e cs2 => (∃ a', a = ((a' : Nat) : Int) ∧ e ≠ 0 ∧ rdT l p 0 = ([], a', e)) ∧ ∃ q, cs2 = ([(b3, .cells #[.string (bs [])] 9 (0, 0))] :: [(b1, .cells #[.pointer (some ⟨rb, 0, none⟩)] 131 (0, 0))] :: cs.set i [(rb, .cells #[.string (bs l), Vi q, Vi 0] 161 (0, 0))]))
  _ can126 h3 hi (fun G w2 hle hS => (text1_c w2 (i := i + 2) (j := 0) (k := 1) hS hi rfl rfl (by omega) hl hp).mono fun r w3 hh => ?_)) ?_
 ·rcases hh with ⟨h1, h2, h3⟩ | ⟨a, e, q, h1, h2, h3⟩
  ·exact .inl ⟨_, h1, ⟨h2, rfl⟩, h3⟩
  ·exact .inr ⟨a, e, q, _, h1, ⟨⟨a, rfl, h2⟩, q, rfl⟩, by show (cs.set i _)[i]? = _; rw [List.getElem?_set_self (List.getElem?_eq_some_iff.1 hi).1], h3⟩
 rintro _ wt ⟨rfl, hh⟩
 refine ⟨_, rfl, ?_⟩
 obtain ⟨vv, hvv, hS⟩ : ∃ vv, vv = (rdT l p 0).1 ∧ St W F ([(b3, .cells #[.string (bs vv)] 9 (0, 0))] :: [(b1, .cells #[.pointer (some ⟨rb, 0, none⟩)] 131 (0, 0))] :: cs.set i [(rb, .cells #[.string (bs l), Vi ((rdT l p 0).2.1 : Nat), Vi (rdT l p 0).2.2] 161 (0, 0))]) wt := by
  rcases hh with ⟨cs1, ⟨⟨he, hle⟩, rfl⟩, h3⟩ | ⟨_, e, cs2, ⟨⟨a, rfl, _, e1⟩, q, rfl⟩, h3⟩
  ·have e1 : rdT l p 0 = ((l.drop (rnx l p)).take (rval l p), rnx l p + rval l p, 0) := by unfold rdT; rw [if_neg (by simp), if_neg (by rw [he]; simp), if_neg (by omega)]
   rw [e1]; exact ⟨_, rfl, h3⟩
  ·rw [e1]; refine ⟨_, rfl, ?_⟩
   simp only [List.set_cons_succ, List.set_set] at h3
   exact h3
 refine WL.nil (WN.thn (WC.seq (WC.reg ?_)))
 refine WL.v (Runs.load1 Tryz.underlying9 rfl rfl (hS.ocell (i := 0) rfl rfl)) rfl ?_
 refine WL.e 1 rfl ?_
 refine WL.nil (WN.thn (WC.ret ?_))
 obtain ⟨rfl⟩ := hvv
 exact ret1 rfl rfl ⟨rfl, (hS.drop 0).drop 0⟩
theorem rend_c {W : World} {F : Snap} {cs : List Res} (w : World) {i rb : Nat} {p : Nat} {l : List UInt8} {e : Int} (h : St W F cs w) (hi : cs[i]? = some [(rb, .cells #[.string (bs l), Vi p, Vi e] 161 (0, 0))]) : Calls Tryz.prog 84 #[.pointer (some ⟨rb, 0, none⟩)] w fun r w' => r = .returned (.tuple #[Vi (rdEnd l p e).1, Vi ((rdEnd l p e).2 : Nat)]) ∧ St W F cs w'  := by
 refine enter (P := Tryz.prog) (args := [.pointer (some ⟨rb, 0, none⟩)]) Tryz.func84 rfl rfl rfl ?_
 refine WC.seq (WC.reg ?_)
 refine WL.e 2 rfl ?_
 refine WL.nil (WN.thn (WC.seq (WC.block (WC.seq (WC.reg ?_)))))
 refine WL.e 1 rfl ?_
 refine WL.v (Runs.peql Tryz.underlying131 rfl rfl) rfl ?_
 refine WL.e 1 rfl ?_
 refine WL.nil (WN.thn ?_)
 refine WC.condF rfl (rfl) ?_
 refine WC.seq ?_
 rcases cases5 e p l.length with hx1 | ⟨hx1, hx2⟩ | ⟨hx1, hx2⟩
 ·skip
  refine WC.qreg (C := fun w_ => St W _ _ w_) mixed (by kernel_rfl) (h.drew) ?_
  refine WQ.val (fun w_ hC_ => Runs.move rfl) rfl ?_
  refine WQ.val (fun w_ hC_ => Runs.nilCheckP rfl) rfl ?_
  refine WQ.val (fun w_ hC_ => Runs.fld fld161_2 rfl) rfl ?_
  refine WQ.val (fun w_ hC_ => Runs.load1 Tryz.underlying43 rfl rfl (hC_.ocell hi rfl)) rfl ?_
  refine WQ.val (fun w_ hC_ => Runs.boolT (c := false) (Runs.eql rfl rfl) (decide_eq_false hx1)) rfl ?_
  refine WQ.val (fun w_ hC_ => Runs.move rfl) rfl ?_
  refine WQ.goff rfl rfl rfl rfl ?_
  refine WQ.goff rfl rfl rfl rfl ?_
  refine WQ.goff rfl rfl rfl rfl ?_
  refine WQ.goff rfl rfl rfl rfl ?_
  refine WQ.goff rfl rfl rfl rfl ?_
  refine WQ.goff rfl rfl rfl rfl ?_
  refine WQ.goff rfl rfl rfl rfl ?_
  refine WQ.goff rfl rfl rfl rfl ?_
  refine WQ.goff rfl rfl rfl rfl ?_
  refine WQ.goff rfl rfl rfl rfl ?_
  refine WQ.val (fun w_ hC_ => Runs.pick rfl rfl rfl) rfl ?_
  refine WQ.val (fun w_ hC_ => Runs.assign rfl) rfl ?_
  refine WQ.fin ?_
  intro w1 h1
  refine WN.thn ?_
  refine WC.condF rfl (rfl) ?_
  refine WC.skip (WN.blk (WN.thn (WC.seq ?_)))
  refine WC.qreg (C := fun w_ => St W _ _ w_) mixed (by kernel_rfl) (h1.drew) ?_
  refine WQ.val (fun w_ hC_ => Runs.move rfl) rfl ?_
  refine WQ.val (fun w_ hC_ => Runs.nilCheckP rfl) rfl ?_
  refine WQ.val (fun w_ hC_ => Runs.fld fld161_2 rfl) rfl ?_
  refine WQ.val (fun w_ hC_ => Runs.load1 Tryz.underlying43 rfl rfl (hC_.ocell hi rfl)) rfl ?_
  refine WQ.val (fun w_ hC_ => Runs.move rfl) rfl ?_
  refine WQ.val (fun w_ hC_ => Runs.nilCheckP rfl) rfl ?_
  refine WQ.val (fun w_ hC_ => Runs.fld fld161_1 rfl) rfl ?_
  refine WQ.val (fun w_ hC_ => Runs.load1 Tryz.underlying3 rfl rfl (hC_.ocell hi rfl)) rfl ?_
  refine WQ.val (fun w_ hC_ => Runs.assign rfl) rfl ?_
  refine WQ.val (fun w_ hC_ => Runs.assign rfl) rfl ?_
  refine WQ.fin ?_
  intro w2 h2
  refine WN.thn (WC.ret ?_)
  refine ret2 rfl rfl rfl ⟨?_, h2⟩
  unfold rdEnd
  rw [if_neg (fun h => hx1 h.1)]
  rfl
 ·skip
  refine WC.qreg (C := fun w_ => St W _ _ w_) mixed (by kernel_rfl) (h.drew) ?_
  refine WQ.val (fun w_ hC_ => Runs.move rfl) rfl ?_
  refine WQ.val (fun w_ hC_ => Runs.nilCheckP rfl) rfl ?_
  refine WQ.val (fun w_ hC_ => Runs.fld fld161_2 rfl) rfl ?_
  refine WQ.val (fun w_ hC_ => Runs.load1 Tryz.underlying43 rfl rfl (hC_.ocell hi rfl)) rfl ?_
  refine WQ.val (fun w_ hC_ => Runs.boolT (c := true) (Runs.eql rfl rfl) (decide_eq_true hx1)) rfl ?_
  refine WQ.val (fun w_ hC_ => Runs.move rfl) rfl ?_
  refine WQ.gon rfl rfl rfl ?_
  refine WQ.val (fun w_ hC_ => Runs.move rfl) rfl ?_
  refine WQ.gon rfl rfl rfl ?_
  refine WQ.val (fun w_ hC_ => Runs.nilCheckP rfl) rfl ?_
  refine WQ.gon rfl rfl rfl ?_
  refine WQ.val (fun w_ hC_ => Runs.fld fld161_1 rfl) rfl ?_
  refine WQ.gon rfl rfl rfl ?_
  refine WQ.val (fun w_ hC_ => Runs.load1 Tryz.underlying3 rfl rfl (hC_.ocell hi rfl)) rfl ?_
  refine WQ.gon rfl rfl rfl ?_
  refine WQ.val (fun w_ hC_ => Runs.move rfl) rfl ?_
  refine WQ.gon rfl rfl rfl ?_
  refine WQ.val (fun w_ hC_ => Runs.nilCheckP rfl) rfl ?_
  refine WQ.gon rfl rfl rfl ?_
  refine WQ.val (fun w_ hC_ => Runs.fld fld161_0 rfl) rfl ?_
  refine WQ.gon rfl rfl rfl ?_
  refine WQ.val (fun w_ hC_ => Runs.load1 Tryz.underlying9 rfl rfl (hC_.ocell hi rfl)) rfl ?_
  refine WQ.gon rfl rfl rfl ?_
  refine WQ.val (fun w_ hC_ => Runs.intT (n := (l.length : Int)) (Runs.slen Tryz.underlying9 rfl rfl) rfl) rfl ?_
  refine WQ.gon rfl rfl rfl ?_
  refine WQ.val (fun w_ hC_ => Runs.boolT (c := true) (Runs.lss rfl rfl) (by rw [decide_eq_true_eq]; omega)) rfl ?_
  refine WQ.val (fun w_ hC_ => Runs.pick rfl rfl rfl) rfl ?_
  refine WQ.val (fun w_ hC_ => Runs.assign rfl) rfl ?_
  refine WQ.fin ?_
  intro w3 h3
  refine WN.thn ?_
  refine WC.condT rfl (rfl) ?_
  refine WC.seq ?_
  refine WC.qreg (C := fun w_ => St W _ _ w_) mixed (by kernel_rfl) (h3.drew) ?_
  refine WQ.val (fun w_ hC_ => Runs.move rfl) rfl ?_
  refine WQ.val (fun w_ hC_ => Runs.nilCheckP rfl) rfl ?_
  refine WQ.val (fun w_ hC_ => Runs.fld fld161_1 rfl) rfl ?_
  refine WQ.val (fun w_ hC_ => Runs.load1 Tryz.underlying3 rfl rfl (hC_.ocell hi rfl)) rfl ?_
  refine WQ.val (fun w_ hC_ => Runs.assign rfl) rfl ?_
  refine WQ.val (fun w_ hC_ => Runs.assign rfl) rfl ?_
  refine WQ.fin ?_
  intro w4 h4
  refine WN.thn (WC.ret ?_)
  refine ret2 rfl rfl rfl ⟨?_, h4⟩
  unfold rdEnd
  rw [if_pos ⟨hx1, hx2⟩]
  rfl
 ·skip
  refine WC.qreg (C := fun w_ => St W _ _ w_) mixed (by kernel_rfl) (h.drew) ?_
  refine WQ.val (fun w_ hC_ => Runs.move rfl) rfl ?_
  refine WQ.val (fun w_ hC_ => Runs.nilCheckP rfl) rfl ?_
  refine WQ.val (fun w_ hC_ => Runs.fld fld161_2 rfl) rfl ?_
  refine WQ.val (fun w_ hC_ => Runs.load1 Tryz.underlying43 rfl rfl (hC_.ocell hi rfl)) rfl ?_
  refine WQ.val (fun w_ hC_ => Runs.boolT (c := true) (Runs.eql rfl rfl) (decide_eq_true hx1)) rfl ?_
  refine WQ.val (fun w_ hC_ => Runs.move rfl) rfl ?_
  refine WQ.gon rfl rfl rfl ?_
  refine WQ.val (fun w_ hC_ => Runs.move rfl) rfl ?_
  refine WQ.gon rfl rfl rfl ?_
  refine WQ.val (fun w_ hC_ => Runs.nilCheckP rfl) rfl ?_
  refine WQ.gon rfl rfl rfl ?_
  refine WQ.val (fun w_ hC_ => Runs.fld fld161_1 rfl) rfl ?_
  refine WQ.gon rfl rfl rfl ?_
  refine WQ.val (fun w_ hC_ => Runs.load1 Tryz.underlying3 rfl rfl (hC_.ocell hi rfl)) rfl ?_
  refine WQ.gon rfl rfl rfl ?_
  refine WQ.val (fun w_ hC_ => Runs.move rfl) rfl ?_
  refine WQ.gon rfl rfl rfl ?_
  refine WQ.val (fun w_ hC_ => Runs.nilCheckP rfl) rfl ?_
  refine WQ.gon rfl rfl rfl ?_
  refine WQ.val (fun w_ hC_ => Runs.fld fld161_0 rfl) rfl ?_
  refine WQ.gon rfl rfl rfl ?_
  refine WQ.val (fun w_ hC_ => Runs.load1 Tryz.underlying9 rfl rfl (hC_.ocell hi rfl)) rfl ?_
  refine WQ.gon rfl rfl rfl ?_
  refine WQ.val (fun w_ hC_ => Runs.intT (n := (l.length : Int)) (Runs.slen Tryz.underlying9 rfl rfl) rfl) rfl ?_
  refine WQ.gon rfl rfl rfl ?_
  refine WQ.val (fun w_ hC_ => Runs.boolT (c := false) (Runs.lss rfl rfl) (by rw [decide_eq_false_iff_not]; omega)) rfl ?_
  refine WQ.val (fun w_ hC_ => Runs.pick rfl rfl rfl) rfl ?_
  refine WQ.val (fun w_ hC_ => Runs.assign rfl) rfl ?_
  refine WQ.fin ?_
  intro w5 h5
  refine WN.thn ?_
  refine WC.condF rfl (rfl) ?_
  refine WC.skip (WN.blk (WN.thn (WC.seq ?_)))
  refine WC.qreg (C := fun w_ => St W _ _ w_) mixed (by kernel_rfl) (h5.drew) ?_
  refine WQ.val (fun w_ hC_ => Runs.move rfl) rfl ?_
  refine WQ.val (fun w_ hC_ => Runs.nilCheckP rfl) rfl ?_
  refine WQ.val (fun w_ hC_ => Runs.fld fld161_2 rfl) rfl ?_
  refine WQ.val (fun w_ hC_ => Runs.load1 Tryz.underlying43 rfl rfl (hC_.ocell hi rfl)) rfl ?_
  refine WQ.val (fun w_ hC_ => Runs.move rfl) rfl ?_
  refine WQ.val (fun w_ hC_ => Runs.nilCheckP rfl) rfl ?_
  refine WQ.val (fun w_ hC_ => Runs.fld fld161_1 rfl) rfl ?_
  refine WQ.val (fun w_ hC_ => Runs.load1 Tryz.underlying3 rfl rfl (hC_.ocell hi rfl)) rfl ?_
  refine WQ.val (fun w_ hC_ => Runs.assign rfl) rfl ?_
  refine WQ.val (fun w_ hC_ => Runs.assign rfl) rfl ?_
  refine WQ.fin ?_
  intro w6 h6
  refine WN.thn (WC.ret ?_)
  refine ret2 rfl rfl rfl ⟨?_, h6⟩
  unfold rdEnd
  rw [if_neg (fun h => hx2 h.2)]
  rfl
theorem read_c {W : World} {F : Snap} {cs : List Res} (w : World) (l : List UInt8) (h : St W F cs w) : Calls Tryz.prog 81 #[.string (bs l)] w fun r w' => ∃ rb, r = .returned (.pointer (some ⟨rb, 0, none⟩)) ∧ St W F ([(rb, .cells #[.string (bs l), Vi (0 : Nat), Vi 0] 161 (0, 0))] :: cs) w'  := by
 refine enter (P := Tryz.prog) (args := [.string (bs l)]) Tryz.func81 rfl rfl rfl ?_
 refine WC.seq (WC.reg ?_)
 refine WL.e 1 rfl ?_
 refine WL.nil (WN.thn (WC.seq (WC.reg ?_)))
 refine WL.e 1 rfl ?_
 refine WL.v (Runs.build (vs := [(0, .string (bs l))]) (cells := #[.string (bs l), Vi 0, Vi 0]) rfl (by kernel_rfl)) rfl ?_
 refine WL.box rfl h rfl ?_
 intro b5 w1 h1
 refine WL.e 1 rfl ?_
 refine WL.nil (WN.thn (WC.ret ?_))
 exact ret1 rfl rfl ⟨b5, rfl, h1⟩
end Wir
end Go.Proofs.YtifdpllfbaogcaaGreat
namespace Go.Proofs.YtifdpllfbaogcaaGreat
open Go Go.RowKit B
namespace Wir
theorem inf5 : Inf Tryz.prog 5 (.int .u8 0) 1 1 := by unfold Inf; kernel_rfl
theorem can76 : B.Can Tryz.prog 76 := ⟨_, Tryz.func76, by kernel_rfl, rfl⟩
def hi (n : Nat) : List UInt8 := if n = 0 then [] else hi (n / 256) ++ [UInt8.ofNat n]
termination_by n
decreasing_by omega
theorem hi_0 : hi 0 = [] := by rw [hi, if_pos rfl]
theorem hi_s {n : Nat} (h : n ≠ 0) : hi n = hi (n / 256) ++ [UInt8.ofNat n] := by rw [hi, if_neg h]
theorem hi_lt (k : Nat) : ∀ n, k < (hi n).length ↔ 0 < n / 2 ^ (8 * k) := by
 induction k with
 |zero =>
  intro n
  by_cases h : n = 0
  ·subst h; rw [hi_0]; simp
  ·rw [hi_s h]; simp; omega
 |succ k ih =>
  intro n
  by_cases h : n = 0
  ·subst h; rw [hi_0]; simp
  ·rw [hi_s h, List.length_append, List.length_singleton, Nat.add_lt_add_iff_right, ih]
   rw [show 8 * (k + 1) = 8 + 8 * k by omega, Nat.pow_add, ← Nat.div_div_eq_div_mul]
theorem hi_six {n : Nat} (h : n ≤ 1099511627776) : (hi n).length ≤ 6 := by
 rcases Nat.lt_or_ge 6 (hi n).length with h1 | h1
 ·have := (hi_lt 6 n).1 h1
  have h2 : n / 2 ^ (8 * 6) = 0 := Nat.div_eq_of_lt (by omega)
  omega
 ·exact h1
def numN (n : Nat) : List UInt8 := UInt8.ofNat (hi n).length :: hi n
def mayN (n : Int) : Prop := 0 ≤ n ∧ n ≤ 1099511627776
instance (n : Int) : Decidable (mayN n) := inferInstanceAs (Decidable (_ ∧ _))
def numB (n : Int) : List UInt8 := if mayN n then numN n.toNat else []
theorem numB_len (n : Int) : (numB n).length ≤ 7 := by
 unfold numB numN
 split
 ·rename_i h
  have := hi_six (n := n.toNat) (by have := h.2; omega)
  simp; omega
 ·simp
def textB (l : List UInt8) : List UInt8 := if 4096 < l.length then [] else numB (l.length : Int) ++ l
theorem hi_step {n k : Nat} (h : k < (hi n).length) : hi (n / 2 ^ (8 * k)) = hi (n / 2 ^ (8 * (k + 1))) ++ [UInt8.ofNat (n / 2 ^ (8 * k))] := by
 have := (hi_lt k n).1 h
 rw [hi_s (by omega)]
 rw [show 8 * (k + 1) = 8 * k + 8 by omega, Nat.pow_add, ← Nat.div_div_eq_div_mul]
theorem hi_end (n : Nat) : hi (n / 2 ^ (8 * (hi n).length)) = [] := by
 rcases Nat.eq_zero_or_pos (n / 2 ^ (8 * (hi n).length)) with h | h
 ·rw [h, hi_0]
 ·have := (hi_lt (hi n).length n).2 h
  omega
theorem node_dec (n : Int) : decide (-1 ≤ n ∧ n < 16) = (decide (-1 ≤ n) && decide (n < 16)) := by
 by_cases h1 : -1 ≤ n <;> by_cases h2 : n < 16 <;> simp [h1, h2]
theorem wnum_no {W : World} {F : Snap} {cs : List Res} (w : World) (n : Int) (h : St W F cs w) (hn : ¬ mayN n) : Calls Tryz.prog 76 #[Vi n] w fun r w' => r = .returned (.string (bs (numB n))) ∧ St W F cs w'  := by
 refine enter (P := Tryz.prog) (args := [Vi n]) Tryz.func76 rfl rfl rfl ?_
 refine WC.seq (WC.reg ?_)
 refine WL.e 1 rfl ?_
 refine WL.nil (WN.thn (WC.seq (WC.seq (WC.reg ?_))))
 refine WL.e 1 rfl ?_
 refine WL.call can120 rfl rfl (may_n _ _ h hn) ?_
 rintro _ w1 ⟨rfl, h1⟩
 refine ⟨_, rfl, ?_⟩
 refine WL.e 1 rfl ?_
 refine WL.nil (WN.thn ?_)
 refine WC.condT rfl (rfl) ?_
 refine WC.seq (WC.reg ?_)
 refine WL.e 1 rfl ?_
 refine WL.nil (WN.thn (WC.ret ?_))
 refine ret1 rfl rfl ⟨?_, h1⟩
 rw [numB, if_neg hn]; rfl
theorem wnum_y {W : World} {F : Snap} {cs : List Res} (w : World) (m : Nat) (h : St W F cs w) (hm : m ≤ 1099511627776) : Calls Tryz.prog 76 #[Vi (m : Int)] w fun r w' => r = .returned (.string (bs (numN m))) ∧ St W F cs w'  := by
 refine enter (P := Tryz.prog) (args := [Vi (m : Int)]) Tryz.func76 rfl rfl rfl ?_
 have h6 := hi_six hm
 refine WC.seq (WC.reg ?_)
 refine WL.e 1 rfl ?_
 refine WL.nil (WN.thn (WC.seq (WC.seq (WC.reg ?_))))
 refine WL.e 1 rfl ?_
 refine WL.call can120 rfl rfl (may_y _ _ h ⟨by omega, by omega⟩) ?_
 rintro _ w1 ⟨rfl, h1⟩
 refine ⟨_, rfl, ?_⟩
 refine WL.e 1 rfl ?_
 refine WL.nil (WN.thn ?_)
 refine WC.condF rfl (rfl) ?_
 refine WC.skip (WN.thn (WC.seq (WC.reg ?_)))
 refine WL.e 1 rfl ?_
 refine WL.nil (WN.thn (WC.seq (WC.block ?_)))
 refine WC.loop (σ := Nat) (fun q_ => [(0, Vi (m : Int)), (3, .int .i64 (q_ : Int))]) (fun q_ w => q_ ≤ (hi m).length ∧ St W F cs w) (fun q_ => (hi m).length - q_) (0) (by repeat (first | exact trivial | refine ⟨rfl, ?_⟩)) (⟨by omega, h1⟩) ?_
 rintro k w2 ⟨hk, hL⟩
 try dsimp only at hk hL
 refine WC.sub (s := [(0, Vi (m : Int)), (3, .int .i64 (k : Int))]) (by repeat (first | exact trivial | refine ⟨rfl, ?_⟩)) ?_
 have hlt := hi_lt k m
 refine WC.seq (WC.seq (WC.reg ?_))
 refine WL.e 2 rfl ?_
 refine WL.v (Runs.muln rfl rfl (by omega)) rfl ?_
 refine WL.v (Runs.shrN (m := m) (n := 8 * k) rfl rfl (by omega) (by omega)) rfl ?_
 refine WL.v (Runs.gtr rfl rfl) rfl ?_
 refine WL.nil (WN.thn ?_)
 refine WC.cond rfl (fun c3 => ?_) (fun c3 => ?_)
 ·try simp only [dt, df, nt, nf, ba, il, ie] at c3
  first
  |(exfalso; omega)
  |skip
   refine WC.skip (WN.thn (WC.block (WC.reg ?_)))
   refine WL.e 1 rfl ?_
   refine WL.v (Runs.addn rfl rfl (by omega)) rfl ?_
   refine WL.e 1 rfl ?_
   refine WL.nil (WN.blk ?_)
   exact WN.again (k + 1) (by have := hlt.2 (by omega); omega) ⟨rfl, rfl, trivial⟩ ⟨by have := hlt.2 (by omega); omega, hL⟩
 ·try simp only [dt, df, nt, nf, ba, il, ie] at c3
  first
  |(exfalso; omega)
  |skip
   refine WC.exit (WX.thn (WX.cut (WX.hit (WN.thn (WC.seq ?_)))))
   refine WC.reg ?_
   refine WL.e 1 rfl ?_
   refine WL.v (Runs.ito8 Tryz.underlying3 Tryz.underlying5 (m := k) rfl rfl) rfl ?_
   refine WL.lit (vs := (([UInt8.ofNat k] : List UInt8)).map V8) hL rfl Tryz.underlying120 inf5 rfl rfl rfl rfl rfl ?_
   intro lit18 w4 h4
   refine WL.e 1 rfl ?_
   refine WL.nil (WN.thn (WC.seq (WC.seq (WC.reg ?_))))
   refine WL.e 1 rfl ?_
   refine WL.v (Runs.subn rfl rfl (by omega)) rfl ?_
   refine WL.e 1 rfl ?_
   refine WL.nil (WN.thn (WC.block ?_))
   have hk2 : k = (hi m).length := by
    rcases Nat.lt_or_ge k (hi m).length with h1 | h1
    ·have := hlt.1 h1; omega
    ·omega
   subst hk2
   refine WC.loop (σ := Nat × Res × Value) (fun q_ => [(0, Vi (m : Int)), (4, q_.2.2), (5, .int .i64 ((q_.1 : Int) - 1))]) (fun q_ w => q_.1 ≤ (hi m).length ∧ Row 5 V8 q_.2.1 q_.2.2 (UInt8.ofNat (hi m).length :: hi (m / 2 ^ (8 * q_.1))) ∧ St W F (q_.2.1 :: cs) w) (fun q_ => q_.1) (⟨(hi m).length, [(lit18, .cells #[V8 (UInt8.ofNat (hi m).length)] 5 (0, 0))], .slice (some ⟨lit18, 0, none⟩) 1 1⟩) (by repeat (first | exact trivial | refine ⟨rfl, ?_⟩)) (⟨Nat.le_refl _, by rw [hi_end]; exact Row.lit (f := V8) (xs := [UInt8.ofNat (hi m).length]) rfl, h4⟩) ?_
   rintro ⟨j, r, v⟩ w5 ⟨hj, hro, hL⟩
   try dsimp only at hj hro hL
   refine WC.sub (s := [(0, Vi (m : Int)), (4, v), (5, .int .i64 ((j : Int) - 1))]) (by repeat (first | exact trivial | refine ⟨rfl, ?_⟩)) ?_
   have hvf := hro.val
   have hll : (UInt8.ofNat (hi m).length :: hi (m / 2 ^ (8 * j))).length ≤ 100 := by
    have := hi_six (n := m / 2 ^ (8 * j)) (Nat.le_trans (Nat.div_le_self _ _) hm)
    rw [List.length_cons]; omega
   obtain ⟨A1, c1_, rfl, hcap⟩ := hvf
   refine WC.seq (WC.seq (WC.reg ?_))
   refine WL.e 1 rfl ?_
   refine WL.v (Runs.geq rfl rfl) rfl ?_
   refine WL.nil (WN.thn ?_)
   refine WC.cond rfl (fun c6 => ?_) (fun c6 => ?_)
   ·try simp only [dt, df, nt, nf, ba, il, ie] at c6
    first
    |(exfalso; omega)
    |skip
     refine WC.skip (WN.thn (WC.seq (WC.block (WC.reg ?_))))
     refine WL.e 3 rfl ?_
     refine WL.v (Runs.muln rfl rfl (by omega)) rfl ?_
     refine WL.v (Runs.shrN (m := m) (n := 8 * (j - 1)) rfl rfl (by omega) (by omega)) rfl ?_
     refine WL.v (Runs.ito8 Tryz.underlying3 Tryz.underlying5 (m := m / 2 ^ (8 * (j - 1))) rfl rfl) rfl ?_
     refine WL.lit (vs := (([UInt8.ofNat (m / 2 ^ (8 * (j - 1)))] : List UInt8)).map V8) hL rfl Tryz.underlying120 inf5 rfl rfl rfl rfl rfl ?_
     intro lit31 w7 h7
     refine WL.app (ys := ([UInt8.ofNat (m / 2 ^ (8 * (j - 1)))] : List UInt8)) 1 h7 rfl rfl rfl rfl Tryz.underlying120 Tryz.underlying120 (.inr ⟨_, rfl⟩) inf5 rfl hro (Src.lit h7 0 rfl rfl rfl) rfl rfl (by first | omega | (simp []; done) | (simp []; omega)) (by first | omega | (simp []; done) | (simp []; omega)) ?_
     intro r8 v8 w9 hr8 h9
     simp only [lz, ls] at h9
     replace h9 := h9.drop 0
     simp only [ez, es'] at h9
     refine WL.e 1 rfl ?_
     refine WL.nil (WN.blk (WN.thn (WC.reg ?_)))
     refine WL.e 1 rfl ?_
     refine WL.v (Runs.subn rfl rfl (by omega)) rfl ?_
     refine WL.e 1 rfl ?_
     refine WL.nil ?_
     refine WN.again (⟨j - 1, r8, v8⟩ : Nat × Res × Value) (by show j - 1 < j; omega) ⟨rfl, rfl, ?_, trivial⟩ ⟨by show j - 1 ≤ _; omega, ?_, h9⟩
     ·show _ = some (Value.int .i64 (((j - 1 : Nat) : Int) - 1))
      rw [show ((j - 1 : Nat) : Int) = (j : Int) - 1 by omega]; rfl
     ·have := hr8
      show Row _ _ _ _ (_ :: hi (m / 2 ^ (8 * (j - 1))))
      rw [hi_step (k := j - 1) (by omega), show j - 1 + 1 = j by omega]
      exact this
   ·try simp only [dt, df, nt, nf, ba, il, ie] at c6
    first
    |(exfalso; omega)
    |skip
     refine WC.exit (WX.thn (WX.cut (WX.hit (WN.thn (WC.seq ?_)))))
     obtain rfl : j = 0 := by omega
     rw [show m / 2 ^ (8 * 0) = m by simp] at hro
     refine WC.reg ?_
     refine WL.e 1 rfl ?_
     refine WL.v (Runs.valT (u := .string (bs (numN m))) (Runs.b2s Tryz.underlying120 Tryz.underlying5 Tryz.underlying9 rfl (by simp [numN]) (bs := numN m) (hro.wcell (i := 0) hL rfl rfl)) rfl) rfl ?_
     refine WL.e 1 rfl ?_
     refine WL.nil (WN.thn (WC.ret ?_))
     exact ret1 rfl rfl ⟨rfl, hL.drop 0⟩
theorem wnum_c {W : World} {F : Snap} {cs : List Res} (w : World) (n : Int) (h : St W F cs w) : Calls Tryz.prog 76 #[Vi n] w fun r w' => r = .returned (.string (bs (numB n))) ∧ St W F cs w' := by
 by_cases hn : mayN n
 ·have e : n = ((n.toNat : Nat) : Int) := by have := hn.1; omega
  have h2 := hn.2
  rw [numB, if_pos hn]
  have := wnum_y w n.toNat h (by omega)
  rwa [← e] at this
 ·exact wnum_no w n h hn
theorem wtext_c {W : World} {F : Snap} {cs : List Res} (w : World) (l : List UInt8) (h : St W F cs w) (hl : l.length ≤ 100000) : Calls Tryz.prog 78 #[.string (bs l)] w fun r w' => r = .returned (.string (bs (textB l))) ∧ St W F cs w'  := by
 refine enter (P := Tryz.prog) (args := [.string (bs l)]) Tryz.func78 rfl rfl rfl ?_
 refine WC.seq (WC.reg ?_)
 refine WL.e 1 rfl ?_
 refine WL.nil (WN.thn (WC.seq (WC.seq (WC.reg ?_))))
 refine WL.e 1 rfl ?_
 refine WL.v (Runs.intT (n := (l.length : Int)) (Runs.slen Tryz.underlying9 rfl rfl) rfl) rfl ?_
 refine WL.v (Runs.gtr rfl rfl) rfl ?_
 refine WL.nil (WN.thn ?_)
 refine WC.cond rfl (fun c1 => ?_) (fun c1 => ?_)
 ·try simp only [dt, df, nt, nf, ba, il, ie] at c1
  first
  |(exfalso; omega)
  |skip
   refine WC.seq (WC.reg ?_)
   refine WL.e 1 rfl ?_
   refine WL.nil (WN.thn (WC.ret ?_))
   refine ret1 rfl rfl ⟨?_, h⟩
   unfold textB
   rw [if_pos (by omega)]; rfl
 ·try simp only [dt, df, nt, nf, ba, il, ie] at c1
  first
  |(exfalso; omega)
  |skip
   refine WC.skip (WN.thn (WC.seq (WC.reg ?_)))
   refine WL.e 1 rfl ?_
   refine WL.v (Runs.intT (n := (l.length : Int)) (Runs.slen Tryz.underlying9 rfl rfl) rfl) rfl ?_
   refine WL.call can76 rfl rfl (wnum_c _ _ h) ?_
   rintro _ w2 ⟨rfl, h2⟩
   refine ⟨_, rfl, ?_⟩
   refine WL.e 1 rfl ?_
   refine WL.v (Runs.lsadd rfl rfl (by have := numB_len (l.length : Int); omega)) rfl ?_
   refine WL.e 1 rfl ?_
   refine WL.nil (WN.thn (WC.ret ?_))
   refine ret1 rfl rfl ⟨?_, h2⟩
   unfold textB
   rw [if_neg (by omega)]
theorem node_c {W : World} {F : Snap} {cs : List Res} (w : World) (n : Int) (h : St W F cs w) : Calls Tryz.prog 119 #[Vi n] w fun r w' => r = .returned (.bool (decide (-1 ≤ n ∧ n < 16))) ∧ St W F cs w'  := by
 refine enter (P := Tryz.prog) (args := [Vi n]) Tryz.func119 rfl rfl rfl ?_
 refine WC.seq (WC.reg ?_)
 refine WL.e 1 rfl ?_
 refine WL.nil (WN.thn (WC.seq ?_))
 by_cases h0 : -1 ≤ n
 ·skip
  refine WC.reg ?_
  refine WL.e 1 rfl ?_
  refine WL.v (Runs.boolT (c := true) (Runs.geq rfl rfl) (decide_eq_true h0)) rfl ?_
  refine WL.e 2 rfl ?_
  refine WL.gon rfl rfl rfl ?_
  refine WL.v (Runs.lss rfl rfl) rfl ?_
  refine WL.e 2 rfl ?_
  refine WL.nil (WN.thn (WC.ret ?_))
  refine ret1 rfl rfl ⟨?_, h⟩
  rw [node_dec, decide_eq_true h0]; rfl
 ·skip
  refine WC.reg ?_
  refine WL.e 1 rfl ?_
  refine WL.v (Runs.boolT (c := false) (Runs.geq rfl rfl) (decide_eq_false h0)) rfl ?_
  refine WL.e 5 rfl ?_
  refine WL.nil (WN.thn (WC.ret ?_))
  refine ret1 rfl rfl ⟨?_, h⟩
  rw [node_dec, decide_eq_false h0]; rfl
end Wir
end Go.Proofs.YtifdpllfbaogcaaGreat
namespace Go.Proofs.YtifdpllfbaogcaaGreat
open Go Go.RowKit B
namespace Cr
open Wir (Vi mayN)
theorem inf3 : Inf Tryz.prog 3 (.int .i64 0) 1 8 := by unfold Inf; kernel_rfl
theorem can182 : B.Can Tryz.prog 182 := ⟨_, Tryz.func182, by kernel_rfl, rfl⟩
theorem can183 : B.Can Tryz.prog 183 := ⟨_, Tryz.func183, by kernel_rfl, rfl⟩
theorem can184 : B.Can Tryz.prog 184 := ⟨_, Tryz.func184, by kernel_rfl, rfl⟩
structure C where
 jb : Int
 ep : Int
 st : Int
 fr : Int
 un : Int
 nd : List Int
 co : Int
def inB (n a b : Int) : Bool := decide (a ≤ n ∧ n ≤ b)
theorem in_dec (n a b : Int) : inB n a b = (decide (n ≥ a) && decide (n ≤ b)) := by
 unfold inB
 by_cases h1 : a ≤ n <;> by_cases h2 : n ≤ b <;> simp [h1, h2]
def epK (n : Int) : Prop := 0 ≤ n ∧ n ≤ 8
instance (n : Int) : Decidable (epK n) := inferInstanceAs (Decidable (_ ∧ _))
def coK (n : Int) : Prop := 1 ≤ n ∧ n ≤ 256
instance (n : Int) : Decidable (coK n) := inferInstanceAs (Decidable (_ ∧ _))
def lastOf (xs : List Int) (i : Nat) : Int := if i = 0 then -1 else xs.getD (i - 1) 0
def ndAt (xs : List Int) (i : Nat) : Prop := lastOf xs i < xs.getD i 0 ∧ xs.getD i 0 < 16
instance (xs : List Int) (i : Nat) : Decidable (ndAt xs i) := inferInstanceAs (Decidable (_ ∧ _))
def nodesOk (xs : List Int) : Prop := (∀ i, i < xs.length → ndAt xs i) ∧ 0 < xs.length
instance (xs : List Int) : Decidable (nodesOk xs) := inferInstanceAs (Decidable (_ ∧ _))
def okC (c : C) : Prop := mayN c.jb ∧ mayN c.st ∧ mayN c.fr ∧ mayN c.un ∧ epK c.ep ∧ coK c.co ∧ nodesOk c.nd
instance (c : C) : Decidable (okC c) := inferInstanceAs (Decidable (_ ∧ _ ∧ _ ∧ _ ∧ _ ∧ _ ∧ _))
def checkM (c : C) : Int := if okC c then 0 else 1
theorem ndCase (a b : Int) : b ≤ a ∨ (a < b ∧ 16 ≤ b) ∨ (a < b ∧ b < 16) := by omega
theorem first7 (P0 P1 P2 P3 P4 P5 P6 : Prop) : (¬ P0) ∨ (P0 ∧ ¬ P1) ∨ (P0 ∧ P1 ∧ ¬ P2) ∨ (P0 ∧ P1 ∧ P2 ∧ ¬ P3) ∨ (P0 ∧ P1 ∧ P2 ∧ P3 ∧ ¬ P4) ∨ (P0 ∧ P1 ∧ P2 ∧ P3 ∧ P4 ∧ ¬ P5) ∨ (P0 ∧ P1 ∧ P2 ∧ P3 ∧ P4 ∧ P5 ∧ ¬ P6) ∨ (P0 ∧ P1 ∧ P2 ∧ P3 ∧ P4 ∧ P5 ∧ P6) := by
 by_cases h0 : P0
 ·by_cases h1 : P1
  ·by_cases h2 : P2
   ·by_cases h3 : P3
    ·by_cases h4 : P4
     ·by_cases h5 : P5
      ·by_cases h6 : P6
       ·exact .inr (.inr (.inr (.inr (.inr (.inr (.inr (⟨h0, h1, h2, h3, h4, h5, h6⟩)))))))
       ·exact .inr (.inr (.inr (.inr (.inr (.inr (.inl ⟨h0, h1, h2, h3, h4, h5, h6⟩))))))
      ·exact .inr (.inr (.inr (.inr (.inr (.inl ⟨h0, h1, h2, h3, h4, h5⟩)))))
     ·exact .inr (.inr (.inr (.inr (.inl ⟨h0, h1, h2, h3, h4⟩))))
    ·exact .inr (.inr (.inr (.inl ⟨h0, h1, h2, h3⟩)))
   ·exact .inr (.inr (.inl ⟨h0, h1, h2⟩))
  ·exact .inr (.inl ⟨h0, h1⟩)
 ·exact .inl h0
theorem in_c {W : World} {F : Snap} {cs : List Res} (w : World) (n a b : Int) (h : St W F cs w) : Calls Tryz.prog 183 #[Vi n, Vi a, Vi b] w fun r w' => r = .returned (.bool (inB n a b)) ∧ St W F cs w'  := by
 refine enter (P := Tryz.prog) (args := [Vi n, Vi a, Vi b]) Tryz.func183 rfl rfl rfl ?_
 refine WC.seq (WC.reg ?_)
 refine WL.e 1 rfl ?_
 refine WL.nil (WN.thn (WC.seq ?_))
 by_cases h0 : n ≥ a
 ·skip
  refine WC.reg ?_
  refine WL.e 2 rfl ?_
  refine WL.v (Runs.boolT (c := true) (Runs.geq rfl rfl) (decide_eq_true h0)) rfl ?_
  refine WL.e 3 rfl ?_
  refine WL.gon rfl rfl rfl ?_
  refine WL.v (Runs.leq rfl rfl) rfl ?_
  refine WL.e 2 rfl ?_
  refine WL.nil (WN.thn (WC.ret ?_))
  refine ret1 rfl rfl ⟨?_, h⟩
  rw [in_dec, decide_eq_true h0]; rfl
 ·skip
  refine WC.reg ?_
  refine WL.e 2 rfl ?_
  refine WL.v (Runs.boolT (c := false) (Runs.geq rfl rfl) (decide_eq_false h0)) rfl ?_
  refine WL.e 6 rfl ?_
  refine WL.nil (WN.thn (WC.ret ?_))
  refine ret1 rfl rfl ⟨?_, h⟩
  rw [in_dec, decide_eq_false h0]; rfl
theorem check1_c {W : World} {F : Snap} {cs : List Res} (w : World) (n : Int) (h : St W F cs w) : Calls Tryz.prog 182 #[Vi n] w fun r w' => r = .returned (.bool (decide (mayN n))) ∧ St W F cs w'  := by
 refine enter (P := Tryz.prog) (args := [Vi n]) Tryz.func182 rfl rfl rfl ?_
 refine WC.seq (WC.reg ?_)
 refine WL.e 1 rfl ?_
 refine WL.nil (WN.thn (WC.seq (WC.reg ?_)))
 refine WL.e 1 rfl ?_
 refine WL.call can183 rfl rfl (in_c _ n 0 1099511627776 h) ?_
 rintro _ w1 ⟨rfl, h1⟩
 refine ⟨_, rfl, ?_⟩
 refine WL.e 1 rfl ?_
 refine WL.nil (WN.thn (WC.ret ?_))
 exact ret1 rfl rfl ⟨rfl, h1⟩
theorem nodes_c {W : World} {F : Snap} {cs : List Res} (w : World) {A : Option Addr} {cap : Nat} {xs : List Int} (h : St W F cs w) (hR : RdS (Kd.one Vi) F A xs) (hn : xs.length ≤ 9223372036854775807) : Calls Tryz.prog 184 #[.slice A xs.length cap] w fun r w' => r = .returned (.bool (decide (nodesOk xs))) ∧ St W F cs w'  := by
 refine enter (P := Tryz.prog) (args := [.slice A xs.length cap]) Tryz.func184 rfl rfl rfl ?_
 refine WC.seq (WC.reg ?_)
 refine WL.e 1 rfl ?_
 refine WL.nil (WN.thn (WC.seq (WC.reg ?_)))
 refine WL.e 1 rfl ?_
 refine WL.nil (WN.thn (WC.seq (WC.seq (WC.reg ?_))))
 refine WL.e 1 rfl ?_
 refine WL.v (Runs.intT (n := (xs.length : Int)) (Runs.llen Tryz.underlying33 rfl rfl) rfl) rfl ?_
 refine WL.e 1 rfl ?_
 refine WL.nil (WN.thn (WC.block ?_))
 refine WC.loop (σ := Nat) (fun q_ => [(0, .slice A xs.length cap), (3, Vi (lastOf xs q_)), (6, .slice A xs.length cap), (7, .int .i64 (xs.length : Int)), (8, .int .i64 (q_ : Int))]) (fun q_ w => q_ ≤ xs.length ∧ (∀ j, j < q_ → ndAt xs j) ∧ St W F cs w) (fun q_ => xs.length - q_) (0) (by repeat (first | exact trivial | refine ⟨rfl, ?_⟩)) (⟨Nat.zero_le _, fun j hj => absurd hj (Nat.not_lt_zero _), h⟩) ?_
 rintro i w1 ⟨hi, hall, hL⟩
 try dsimp only at hi hall hL
 refine WC.sub (s := [(0, .slice A xs.length cap), (3, Vi (lastOf xs i)), (6, .slice A xs.length cap), (7, .int .i64 (xs.length : Int)), (8, .int .i64 (i : Int))]) (by repeat (first | exact trivial | refine ⟨rfl, ?_⟩)) ?_
 refine WC.seq (WC.reg ?_)
 refine WL.v (Runs.lss rfl rfl) rfl ?_
 refine WL.nil (WN.thn (WC.seq ?_))
 refine WC.cond rfl (fun c2 => ?_) (fun c2 => ?_)
 ·try simp only [dt, df, nt, nf, ba, il, ie] at c2
  first
  |(exfalso; omega)
  |skip
   refine WC.skip (WN.thn (WC.seq (WC.block (WC.seq ?_))))
   obtain ⟨ad, rfl, hrd⟩ := rd1 hR (by omega)
   have hi2 : i < xs.length := by omega
   refine WC.reg ?_
   refine WL.v (Runs.lidxN Tryz.underlying33 inf3 rfl rfl (n := i) rfl (by omega)) rfl ?_
   refine WL.v (Runs.loadR (f := Vi) (0 : Int) hL hrd (n := i) (by omega) Tryz.underlying3 rfl rfl) rfl ?_
   refine WL.e 1 rfl ?_
   refine WL.nil (WN.thn (WC.seq (WC.seq ?_)))
   rcases ndCase (lastOf xs i) (xs.getD i 0) with hx | ⟨hx, hy⟩ | ⟨hx, hy⟩
   ·skip
    refine WC.reg ?_
    refine WL.e 2 rfl ?_
    refine WL.v (Runs.boolT (c := true) (Runs.leq rfl rfl) (by rw [decide_eq_true_eq]; omega)) rfl ?_
    refine WL.e 4 rfl ?_
    refine WL.nil (WN.thn ?_)
    refine WC.condT rfl (rfl) ?_
    refine WC.seq (WC.reg ?_)
    refine WL.e 1 rfl ?_
    refine WL.nil (WN.thn (WC.ret ?_))
    have hz : ¬ nodesOk xs := fun hh => by
     have h9 := hh.1 i hi2
     unfold ndAt at h9
     omega
    refine ret1 rfl rfl ⟨?_, hL⟩
    rw [decide_eq_false hz]
   ·skip
    refine WC.reg ?_
    refine WL.e 2 rfl ?_
    refine WL.v (Runs.boolT (c := false) (Runs.leq rfl rfl) (by rw [decide_eq_false_iff_not]; omega)) rfl ?_
    refine WL.e 2 rfl ?_
    refine WL.gon rfl rfl rfl ?_
    refine WL.v (Runs.boolT (c := true) (Runs.geq rfl rfl) (by rw [decide_eq_true_eq]; omega)) rfl ?_
    refine WL.e 1 rfl ?_
    refine WL.nil (WN.thn ?_)
    refine WC.condT rfl (rfl) ?_
    refine WC.seq (WC.reg ?_)
    refine WL.e 1 rfl ?_
    refine WL.nil (WN.thn (WC.ret ?_))
    have hz : ¬ nodesOk xs := fun hh => by
     have h9 := hh.1 i hi2
     unfold ndAt at h9
     omega
    refine ret1 rfl rfl ⟨?_, hL⟩
    rw [decide_eq_false hz]
   ·skip
    refine WC.reg ?_
    refine WL.e 2 rfl ?_
    refine WL.v (Runs.boolT (c := false) (Runs.leq rfl rfl) (by rw [decide_eq_false_iff_not]; omega)) rfl ?_
    refine WL.e 2 rfl ?_
    refine WL.gon rfl rfl rfl ?_
    refine WL.v (Runs.boolT (c := false) (Runs.geq rfl rfl) (by rw [decide_eq_false_iff_not]; omega)) rfl ?_
    refine WL.e 1 rfl ?_
    refine WL.nil (WN.thn ?_)
    refine WC.condF rfl (rfl) ?_
    refine WC.skip (WN.thn (WC.reg ?_))
    refine WL.e 2 rfl ?_
    refine WL.nil (WN.blk (WN.thn (WC.reg ?_)))
    refine WL.v (Runs.addn rfl rfl (by omega)) rfl ?_
    refine WL.e 1 rfl ?_
    refine WL.nil ?_
    exact WN.again (i + 1) (by omega) ⟨rfl, rfl, rfl, rfl, rfl, trivial⟩ ⟨by omega, fun j hj => (by
     by_cases e : j = i
     ·subst e; exact ⟨hx, hy⟩
     ·exact hall j (by omega)), hL⟩
 ·try simp only [dt, df, nt, nf, ba, il, ie] at c2
  first
  |(exfalso; omega)
  |skip
   refine WC.exit (WX.thn (WX.cut (WX.hit (WN.thn (WC.seq ?_)))))
   refine WC.reg ?_
   refine WL.e 1 rfl ?_
   refine WL.v (Runs.intT (n := (xs.length : Int)) (Runs.llen Tryz.underlying33 rfl rfl) rfl) rfl ?_
   refine WL.v (Runs.gtr rfl rfl) rfl ?_
   refine WL.e 1 rfl ?_
   refine WL.nil (WN.thn (WC.ret ?_))
   have he : decide (nodesOk xs) = decide ((0 : Int) < (xs.length : Int)) := decide_eq_decide.2 ⟨fun hh => by have := hh.2; omega, fun hh => ⟨fun j hj => hall j (by omega), by omega⟩⟩
   refine ret1 rfl rfl ⟨?_, hL⟩
   rw [he]
theorem check_c {W : World} {F : Snap} {cs : List Res} (w : World) {A : Option Addr} {cap : Nat} {c : C} (h : St W F cs w) (hR : RdS (Kd.one Vi) F A c.nd) (hn : c.nd.length ≤ 9223372036854775807) : Calls Tryz.prog 175 #[.agg #[Vi c.jb, Vi c.ep, Vi c.st, Vi c.fr, Vi c.un, .slice A c.nd.length cap, Vi c.co]] w fun r w' => r = .returned (Vi (checkM c)) ∧ St W F cs w'  := by
 refine enter (P := Tryz.prog) (args := [.agg #[Vi c.jb, Vi c.ep, Vi c.st, Vi c.fr, Vi c.un, .slice A c.nd.length cap, Vi c.co]]) Tryz.func175 rfl rfl rfl ?_
 refine WC.seq (WC.reg ?_)
 refine WL.box rfl h rfl ?_
 intro b1 w1 h1
 refine WL.e 1 rfl ?_
 refine WL.nil (WN.thn (WC.seq (WC.reg ?_)))
 refine WL.e 1 rfl ?_
 refine WL.nil (WN.thn (WC.seq (WC.seq ?_)))
 rcases first7 (mayN c.jb) (mayN c.st) (mayN c.fr) (mayN c.un) (epK c.ep) (coK c.co) (nodesOk c.nd) with q0 | ⟨q0, q1⟩ | ⟨q0, q1, q2⟩ | ⟨q0, q1, q2, q3⟩ | ⟨q0, q1, q2, q3, q4⟩ | ⟨q0, q1, q2, q3, q4, q5⟩ | ⟨q0, q1, q2, q3, q4, q5, q6⟩ | ⟨q0, q1, q2, q3, q4, q5, q6⟩
 ·skip
  refine WC.reg ?_
  refine WL.e 2 rfl ?_
  refine WL.v (Runs.load1 Tryz.underlying3 rfl rfl (h1.ocell (i := 0) rfl rfl)) rfl ?_
  refine WL.callv can182 rfl rfl rfl (check1_c _ c.jb h1) ?_
  rintro _ w2 ⟨rfl, h2⟩
  refine ⟨_, rfl, ?_⟩
  refine WL.v (Runs.boolT (c := true) (Runs.not rfl) (by rw [decide_eq_false q0]; rfl)) rfl ?_
  refine WL.e 39 rfl ?_
  refine WL.nil (WN.thn ?_)
  refine WC.condT rfl (rfl) ?_
  refine WC.seq (WC.reg ?_)
  refine WL.e 1 rfl ?_
  refine WL.nil (WN.thn (WC.ret ?_))
  refine ret1 rfl rfl ⟨?_, h2.drop 0⟩
  rw [show checkM c = 1 from if_neg (fun hh => q0 hh.1)]
 ·skip
  refine WC.reg ?_
  refine WL.e 2 rfl ?_
  refine WL.v (Runs.load1 Tryz.underlying3 rfl rfl (h1.ocell (i := 0) rfl rfl)) rfl ?_
  refine WL.callv can182 rfl rfl rfl (check1_c _ c.jb h1) ?_
  rintro _ w3 ⟨rfl, h3⟩
  refine ⟨_, rfl, ?_⟩
  refine WL.v (Runs.boolT (c := false) (Runs.not rfl) (by rw [decide_eq_true q0]; rfl)) rfl ?_
  refine WL.e 3 rfl ?_
  refine WL.gon rfl rfl rfl ?_
  refine WL.v (Runs.load1 Tryz.underlying3 rfl rfl (h3.ocell (i := 0) rfl rfl)) rfl ?_
  refine WL.gon rfl rfl rfl ?_
  refine WL.callv can182 rfl rfl rfl (check1_c _ c.st h3) ?_
  rintro _ w4 ⟨rfl, h4⟩
  refine ⟨_, rfl, ?_⟩
  refine WL.gon rfl rfl rfl ?_
  refine WL.v (Runs.boolT (c := true) (Runs.not rfl) (by rw [decide_eq_false q1]; rfl)) rfl ?_
  refine WL.e 33 rfl ?_
  refine WL.nil (WN.thn ?_)
  refine WC.condT rfl (rfl) ?_
  refine WC.seq (WC.reg ?_)
  refine WL.e 1 rfl ?_
  refine WL.nil (WN.thn (WC.ret ?_))
  refine ret1 rfl rfl ⟨?_, h4.drop 0⟩
  rw [show checkM c = 1 from if_neg (fun hh => q1 hh.2.1)]
 ·skip
  refine WC.reg ?_
  refine WL.e 2 rfl ?_
  refine WL.v (Runs.load1 Tryz.underlying3 rfl rfl (h1.ocell (i := 0) rfl rfl)) rfl ?_
  refine WL.callv can182 rfl rfl rfl (check1_c _ c.jb h1) ?_
  rintro _ w5 ⟨rfl, h5⟩
  refine ⟨_, rfl, ?_⟩
  refine WL.v (Runs.boolT (c := false) (Runs.not rfl) (by rw [decide_eq_true q0]; rfl)) rfl ?_
  refine WL.e 3 rfl ?_
  refine WL.gon rfl rfl rfl ?_
  refine WL.v (Runs.load1 Tryz.underlying3 rfl rfl (h5.ocell (i := 0) rfl rfl)) rfl ?_
  refine WL.gon rfl rfl rfl ?_
  refine WL.callv can182 rfl rfl rfl (check1_c _ c.st h5) ?_
  rintro _ w6 ⟨rfl, h6⟩
  refine ⟨_, rfl, ?_⟩
  refine WL.gon rfl rfl rfl ?_
  refine WL.v (Runs.boolT (c := false) (Runs.not rfl) (by rw [decide_eq_true q1]; rfl)) rfl ?_
  refine WL.e 4 rfl ?_
  refine WL.gon rfl rfl rfl ?_
  refine WL.v (Runs.load1 Tryz.underlying3 rfl rfl (h6.ocell (i := 0) rfl rfl)) rfl ?_
  refine WL.gon rfl rfl rfl ?_
  refine WL.callv can182 rfl rfl rfl (check1_c _ c.fr h6) ?_
  rintro _ w7 ⟨rfl, h7⟩
  refine ⟨_, rfl, ?_⟩
  refine WL.gon rfl rfl rfl ?_
  refine WL.v (Runs.boolT (c := true) (Runs.not rfl) (by rw [decide_eq_false q2]; rfl)) rfl ?_
  refine WL.e 26 rfl ?_
  refine WL.nil (WN.thn ?_)
  refine WC.condT rfl (rfl) ?_
  refine WC.seq (WC.reg ?_)
  refine WL.e 1 rfl ?_
  refine WL.nil (WN.thn (WC.ret ?_))
  refine ret1 rfl rfl ⟨?_, h7.drop 0⟩
  rw [show checkM c = 1 from if_neg (fun hh => q2 hh.2.2.1)]
 ·skip
  refine WC.reg ?_
  refine WL.e 2 rfl ?_
  refine WL.v (Runs.load1 Tryz.underlying3 rfl rfl (h1.ocell (i := 0) rfl rfl)) rfl ?_
  refine WL.callv can182 rfl rfl rfl (check1_c _ c.jb h1) ?_
  rintro _ w8 ⟨rfl, h8⟩
  refine ⟨_, rfl, ?_⟩
  refine WL.v (Runs.boolT (c := false) (Runs.not rfl) (by rw [decide_eq_true q0]; rfl)) rfl ?_
  refine WL.e 3 rfl ?_
  refine WL.gon rfl rfl rfl ?_
  refine WL.v (Runs.load1 Tryz.underlying3 rfl rfl (h8.ocell (i := 0) rfl rfl)) rfl ?_
  refine WL.gon rfl rfl rfl ?_
  refine WL.callv can182 rfl rfl rfl (check1_c _ c.st h8) ?_
  rintro _ w9 ⟨rfl, h9⟩
  refine ⟨_, rfl, ?_⟩
  refine WL.gon rfl rfl rfl ?_
  refine WL.v (Runs.boolT (c := false) (Runs.not rfl) (by rw [decide_eq_true q1]; rfl)) rfl ?_
  refine WL.e 4 rfl ?_
  refine WL.gon rfl rfl rfl ?_
  refine WL.v (Runs.load1 Tryz.underlying3 rfl rfl (h9.ocell (i := 0) rfl rfl)) rfl ?_
  refine WL.gon rfl rfl rfl ?_
  refine WL.callv can182 rfl rfl rfl (check1_c _ c.fr h9) ?_
  rintro _ w10 ⟨rfl, h10⟩
  refine ⟨_, rfl, ?_⟩
  refine WL.gon rfl rfl rfl ?_
  refine WL.v (Runs.boolT (c := false) (Runs.not rfl) (by rw [decide_eq_true q2]; rfl)) rfl ?_
  refine WL.e 4 rfl ?_
  refine WL.gon rfl rfl rfl ?_
  refine WL.v (Runs.load1 Tryz.underlying3 rfl rfl (h10.ocell (i := 0) rfl rfl)) rfl ?_
  refine WL.gon rfl rfl rfl ?_
  refine WL.callv can182 rfl rfl rfl (check1_c _ c.un h10) ?_
  rintro _ w11 ⟨rfl, h11⟩
  refine ⟨_, rfl, ?_⟩
  refine WL.gon rfl rfl rfl ?_
  refine WL.v (Runs.boolT (c := true) (Runs.not rfl) (by rw [decide_eq_false q3]; rfl)) rfl ?_
  refine WL.e 19 rfl ?_
  refine WL.nil (WN.thn ?_)
  refine WC.condT rfl (rfl) ?_
  refine WC.seq (WC.reg ?_)
  refine WL.e 1 rfl ?_
  refine WL.nil (WN.thn (WC.ret ?_))
  refine ret1 rfl rfl ⟨?_, h11.drop 0⟩
  rw [show checkM c = 1 from if_neg (fun hh => q3 hh.2.2.2.1)]
 ·skip
  refine WC.reg ?_
  refine WL.e 2 rfl ?_
  refine WL.v (Runs.load1 Tryz.underlying3 rfl rfl (h1.ocell (i := 0) rfl rfl)) rfl ?_
  refine WL.callv can182 rfl rfl rfl (check1_c _ c.jb h1) ?_
  rintro _ w12 ⟨rfl, h12⟩
  refine ⟨_, rfl, ?_⟩
  refine WL.v (Runs.boolT (c := false) (Runs.not rfl) (by rw [decide_eq_true q0]; rfl)) rfl ?_
  refine WL.e 3 rfl ?_
  refine WL.gon rfl rfl rfl ?_
  refine WL.v (Runs.load1 Tryz.underlying3 rfl rfl (h12.ocell (i := 0) rfl rfl)) rfl ?_
  refine WL.gon rfl rfl rfl ?_
  refine WL.callv can182 rfl rfl rfl (check1_c _ c.st h12) ?_
  rintro _ w13 ⟨rfl, h13⟩
  refine ⟨_, rfl, ?_⟩
  refine WL.gon rfl rfl rfl ?_
  refine WL.v (Runs.boolT (c := false) (Runs.not rfl) (by rw [decide_eq_true q1]; rfl)) rfl ?_
  refine WL.e 4 rfl ?_
  refine WL.gon rfl rfl rfl ?_
  refine WL.v (Runs.load1 Tryz.underlying3 rfl rfl (h13.ocell (i := 0) rfl rfl)) rfl ?_
  refine WL.gon rfl rfl rfl ?_
  refine WL.callv can182 rfl rfl rfl (check1_c _ c.fr h13) ?_
  rintro _ w14 ⟨rfl, h14⟩
  refine ⟨_, rfl, ?_⟩
  refine WL.gon rfl rfl rfl ?_
  refine WL.v (Runs.boolT (c := false) (Runs.not rfl) (by rw [decide_eq_true q2]; rfl)) rfl ?_
  refine WL.e 4 rfl ?_
  refine WL.gon rfl rfl rfl ?_
  refine WL.v (Runs.load1 Tryz.underlying3 rfl rfl (h14.ocell (i := 0) rfl rfl)) rfl ?_
  refine WL.gon rfl rfl rfl ?_
  refine WL.callv can182 rfl rfl rfl (check1_c _ c.un h14) ?_
  rintro _ w15 ⟨rfl, h15⟩
  refine ⟨_, rfl, ?_⟩
  refine WL.gon rfl rfl rfl ?_
  refine WL.v (Runs.boolT (c := false) (Runs.not rfl) (by rw [decide_eq_true q3]; rfl)) rfl ?_
  refine WL.e 3 rfl ?_
  refine WL.gon rfl rfl rfl ?_
  refine WL.v (Runs.load1 Tryz.underlying3 rfl rfl (h15.ocell (i := 0) rfl rfl)) rfl ?_
  refine WL.gon rfl rfl rfl ?_
  refine WL.call can183 rfl rfl ((show Calls _ _ _ _ (fun r w' => r = .returned (.bool (decide (epK c.ep))) ∧ St W F _ w') from in_c _ c.ep 0 8 h15)) ?_
  rintro _ w16 ⟨rfl, h16⟩
  refine ⟨_, rfl, ?_⟩
  refine WL.gon rfl rfl rfl ?_
  refine WL.v (Runs.boolT (c := true) (Runs.not rfl) (by rw [decide_eq_false q4]; rfl)) rfl ?_
  refine WL.e 13 rfl ?_
  refine WL.nil (WN.thn ?_)
  refine WC.condT rfl (rfl) ?_
  refine WC.seq (WC.reg ?_)
  refine WL.e 1 rfl ?_
  refine WL.nil (WN.thn (WC.ret ?_))
  refine ret1 rfl rfl ⟨?_, h16.drop 0⟩
  rw [show checkM c = 1 from if_neg (fun hh => q4 hh.2.2.2.2.1)]
 ·skip
  refine WC.reg ?_
  refine WL.e 2 rfl ?_
  refine WL.v (Runs.load1 Tryz.underlying3 rfl rfl (h1.ocell (i := 0) rfl rfl)) rfl ?_
  refine WL.callv can182 rfl rfl rfl (check1_c _ c.jb h1) ?_
  rintro _ w17 ⟨rfl, h17⟩
  refine ⟨_, rfl, ?_⟩
  refine WL.v (Runs.boolT (c := false) (Runs.not rfl) (by rw [decide_eq_true q0]; rfl)) rfl ?_
  refine WL.e 3 rfl ?_
  refine WL.gon rfl rfl rfl ?_
  refine WL.v (Runs.load1 Tryz.underlying3 rfl rfl (h17.ocell (i := 0) rfl rfl)) rfl ?_
  refine WL.gon rfl rfl rfl ?_
  refine WL.callv can182 rfl rfl rfl (check1_c _ c.st h17) ?_
  rintro _ w18 ⟨rfl, h18⟩
  refine ⟨_, rfl, ?_⟩
  refine WL.gon rfl rfl rfl ?_
  refine WL.v (Runs.boolT (c := false) (Runs.not rfl) (by rw [decide_eq_true q1]; rfl)) rfl ?_
  refine WL.e 4 rfl ?_
  refine WL.gon rfl rfl rfl ?_
  refine WL.v (Runs.load1 Tryz.underlying3 rfl rfl (h18.ocell (i := 0) rfl rfl)) rfl ?_
  refine WL.gon rfl rfl rfl ?_
  refine WL.callv can182 rfl rfl rfl (check1_c _ c.fr h18) ?_
  rintro _ w19 ⟨rfl, h19⟩
  refine ⟨_, rfl, ?_⟩
  refine WL.gon rfl rfl rfl ?_
  refine WL.v (Runs.boolT (c := false) (Runs.not rfl) (by rw [decide_eq_true q2]; rfl)) rfl ?_
  refine WL.e 4 rfl ?_
  refine WL.gon rfl rfl rfl ?_
  refine WL.v (Runs.load1 Tryz.underlying3 rfl rfl (h19.ocell (i := 0) rfl rfl)) rfl ?_
  refine WL.gon rfl rfl rfl ?_
  refine WL.callv can182 rfl rfl rfl (check1_c _ c.un h19) ?_
  rintro _ w20 ⟨rfl, h20⟩
  refine ⟨_, rfl, ?_⟩
  refine WL.gon rfl rfl rfl ?_
  refine WL.v (Runs.boolT (c := false) (Runs.not rfl) (by rw [decide_eq_true q3]; rfl)) rfl ?_
  refine WL.e 3 rfl ?_
  refine WL.gon rfl rfl rfl ?_
  refine WL.v (Runs.load1 Tryz.underlying3 rfl rfl (h20.ocell (i := 0) rfl rfl)) rfl ?_
  refine WL.gon rfl rfl rfl ?_
  refine WL.call can183 rfl rfl ((show Calls _ _ _ _ (fun r w' => r = .returned (.bool (decide (epK c.ep))) ∧ St W F _ w') from in_c _ c.ep 0 8 h20)) ?_
  rintro _ w21 ⟨rfl, h21⟩
  refine ⟨_, rfl, ?_⟩
  refine WL.gon rfl rfl rfl ?_
  refine WL.v (Runs.boolT (c := false) (Runs.not rfl) (by rw [decide_eq_true q4]; rfl)) rfl ?_
  refine WL.e 3 rfl ?_
  refine WL.gon rfl rfl rfl ?_
  refine WL.v (Runs.load1 Tryz.underlying3 rfl rfl (h21.ocell (i := 0) rfl rfl)) rfl ?_
  refine WL.gon rfl rfl rfl ?_
  refine WL.call can183 rfl rfl ((show Calls _ _ _ _ (fun r w' => r = .returned (.bool (decide (coK c.co))) ∧ St W F _ w') from in_c _ c.co 1 256 h21)) ?_
  rintro _ w22 ⟨rfl, h22⟩
  refine ⟨_, rfl, ?_⟩
  refine WL.gon rfl rfl rfl ?_
  refine WL.v (Runs.boolT (c := true) (Runs.not rfl) (by rw [decide_eq_false q5]; rfl)) rfl ?_
  refine WL.e 7 rfl ?_
  refine WL.nil (WN.thn ?_)
  refine WC.condT rfl (rfl) ?_
  refine WC.seq (WC.reg ?_)
  refine WL.e 1 rfl ?_
  refine WL.nil (WN.thn (WC.ret ?_))
  refine ret1 rfl rfl ⟨?_, h22.drop 0⟩
  rw [show checkM c = 1 from if_neg (fun hh => q5 hh.2.2.2.2.2.1)]
 ·skip
  refine WC.reg ?_
  refine WL.e 2 rfl ?_
  refine WL.v (Runs.load1 Tryz.underlying3 rfl rfl (h1.ocell (i := 0) rfl rfl)) rfl ?_
  refine WL.callv can182 rfl rfl rfl (check1_c _ c.jb h1) ?_
  rintro _ w23 ⟨rfl, h23⟩
  refine ⟨_, rfl, ?_⟩
  refine WL.v (Runs.boolT (c := false) (Runs.not rfl) (by rw [decide_eq_true q0]; rfl)) rfl ?_
  refine WL.e 3 rfl ?_
  refine WL.gon rfl rfl rfl ?_
  refine WL.v (Runs.load1 Tryz.underlying3 rfl rfl (h23.ocell (i := 0) rfl rfl)) rfl ?_
  refine WL.gon rfl rfl rfl ?_
  refine WL.callv can182 rfl rfl rfl (check1_c _ c.st h23) ?_
  rintro _ w24 ⟨rfl, h24⟩
  refine ⟨_, rfl, ?_⟩
  refine WL.gon rfl rfl rfl ?_
  refine WL.v (Runs.boolT (c := false) (Runs.not rfl) (by rw [decide_eq_true q1]; rfl)) rfl ?_
  refine WL.e 4 rfl ?_
  refine WL.gon rfl rfl rfl ?_
  refine WL.v (Runs.load1 Tryz.underlying3 rfl rfl (h24.ocell (i := 0) rfl rfl)) rfl ?_
  refine WL.gon rfl rfl rfl ?_
  refine WL.callv can182 rfl rfl rfl (check1_c _ c.fr h24) ?_
  rintro _ w25 ⟨rfl, h25⟩
  refine ⟨_, rfl, ?_⟩
  refine WL.gon rfl rfl rfl ?_
  refine WL.v (Runs.boolT (c := false) (Runs.not rfl) (by rw [decide_eq_true q2]; rfl)) rfl ?_
  refine WL.e 4 rfl ?_
  refine WL.gon rfl rfl rfl ?_
  refine WL.v (Runs.load1 Tryz.underlying3 rfl rfl (h25.ocell (i := 0) rfl rfl)) rfl ?_
  refine WL.gon rfl rfl rfl ?_
  refine WL.callv can182 rfl rfl rfl (check1_c _ c.un h25) ?_
  rintro _ w26 ⟨rfl, h26⟩
  refine ⟨_, rfl, ?_⟩
  refine WL.gon rfl rfl rfl ?_
  refine WL.v (Runs.boolT (c := false) (Runs.not rfl) (by rw [decide_eq_true q3]; rfl)) rfl ?_
  refine WL.e 3 rfl ?_
  refine WL.gon rfl rfl rfl ?_
  refine WL.v (Runs.load1 Tryz.underlying3 rfl rfl (h26.ocell (i := 0) rfl rfl)) rfl ?_
  refine WL.gon rfl rfl rfl ?_
  refine WL.call can183 rfl rfl ((show Calls _ _ _ _ (fun r w' => r = .returned (.bool (decide (epK c.ep))) ∧ St W F _ w') from in_c _ c.ep 0 8 h26)) ?_
  rintro _ w27 ⟨rfl, h27⟩
  refine ⟨_, rfl, ?_⟩
  refine WL.gon rfl rfl rfl ?_
  refine WL.v (Runs.boolT (c := false) (Runs.not rfl) (by rw [decide_eq_true q4]; rfl)) rfl ?_
  refine WL.e 3 rfl ?_
  refine WL.gon rfl rfl rfl ?_
  refine WL.v (Runs.load1 Tryz.underlying3 rfl rfl (h27.ocell (i := 0) rfl rfl)) rfl ?_
  refine WL.gon rfl rfl rfl ?_
  refine WL.call can183 rfl rfl ((show Calls _ _ _ _ (fun r w' => r = .returned (.bool (decide (coK c.co))) ∧ St W F _ w') from in_c _ c.co 1 256 h27)) ?_
  rintro _ w28 ⟨rfl, h28⟩
  refine ⟨_, rfl, ?_⟩
  refine WL.gon rfl rfl rfl ?_
  refine WL.v (Runs.boolT (c := false) (Runs.not rfl) (by rw [decide_eq_true q5]; rfl)) rfl ?_
  refine WL.e 3 rfl ?_
  refine WL.gon rfl rfl rfl ?_
  refine WL.v (Runs.load1 Tryz.underlying33 rfl rfl (h28.ocell (i := 0) rfl rfl)) rfl ?_
  refine WL.gon rfl rfl rfl ?_
  refine WL.call can184 rfl rfl (nodes_c _ h28 hR hn) ?_
  rintro _ w29 ⟨rfl, h29⟩
  refine ⟨_, rfl, ?_⟩
  refine WL.gon rfl rfl rfl ?_
  refine WL.v (Runs.boolT (c := true) (Runs.not rfl) (by rw [decide_eq_false q6]; rfl)) rfl ?_
  refine WL.e 1 rfl ?_
  refine WL.nil (WN.thn ?_)
  refine WC.condT rfl (rfl) ?_
  refine WC.seq (WC.reg ?_)
  refine WL.e 1 rfl ?_
  refine WL.nil (WN.thn (WC.ret ?_))
  refine ret1 rfl rfl ⟨?_, h29.drop 0⟩
  rw [show checkM c = 1 from if_neg (fun hh => q6 hh.2.2.2.2.2.2)]
 ·skip
  refine WC.reg ?_
  refine WL.e 2 rfl ?_
  refine WL.v (Runs.load1 Tryz.underlying3 rfl rfl (h1.ocell (i := 0) rfl rfl)) rfl ?_
  refine WL.callv can182 rfl rfl rfl (check1_c _ c.jb h1) ?_
  rintro _ w30 ⟨rfl, h30⟩
  refine ⟨_, rfl, ?_⟩
  refine WL.v (Runs.boolT (c := false) (Runs.not rfl) (by rw [decide_eq_true q0]; rfl)) rfl ?_
  refine WL.e 3 rfl ?_
  refine WL.gon rfl rfl rfl ?_
  refine WL.v (Runs.load1 Tryz.underlying3 rfl rfl (h30.ocell (i := 0) rfl rfl)) rfl ?_
  refine WL.gon rfl rfl rfl ?_
  refine WL.callv can182 rfl rfl rfl (check1_c _ c.st h30) ?_
  rintro _ w31 ⟨rfl, h31⟩
  refine ⟨_, rfl, ?_⟩
  refine WL.gon rfl rfl rfl ?_
  refine WL.v (Runs.boolT (c := false) (Runs.not rfl) (by rw [decide_eq_true q1]; rfl)) rfl ?_
  refine WL.e 4 rfl ?_
  refine WL.gon rfl rfl rfl ?_
  refine WL.v (Runs.load1 Tryz.underlying3 rfl rfl (h31.ocell (i := 0) rfl rfl)) rfl ?_
  refine WL.gon rfl rfl rfl ?_
  refine WL.callv can182 rfl rfl rfl (check1_c _ c.fr h31) ?_
  rintro _ w32 ⟨rfl, h32⟩
  refine ⟨_, rfl, ?_⟩
  refine WL.gon rfl rfl rfl ?_
  refine WL.v (Runs.boolT (c := false) (Runs.not rfl) (by rw [decide_eq_true q2]; rfl)) rfl ?_
  refine WL.e 4 rfl ?_
  refine WL.gon rfl rfl rfl ?_
  refine WL.v (Runs.load1 Tryz.underlying3 rfl rfl (h32.ocell (i := 0) rfl rfl)) rfl ?_
  refine WL.gon rfl rfl rfl ?_
  refine WL.callv can182 rfl rfl rfl (check1_c _ c.un h32) ?_
  rintro _ w33 ⟨rfl, h33⟩
  refine ⟨_, rfl, ?_⟩
  refine WL.gon rfl rfl rfl ?_
  refine WL.v (Runs.boolT (c := false) (Runs.not rfl) (by rw [decide_eq_true q3]; rfl)) rfl ?_
  refine WL.e 3 rfl ?_
  refine WL.gon rfl rfl rfl ?_
  refine WL.v (Runs.load1 Tryz.underlying3 rfl rfl (h33.ocell (i := 0) rfl rfl)) rfl ?_
  refine WL.gon rfl rfl rfl ?_
  refine WL.call can183 rfl rfl ((show Calls _ _ _ _ (fun r w' => r = .returned (.bool (decide (epK c.ep))) ∧ St W F _ w') from in_c _ c.ep 0 8 h33)) ?_
  rintro _ w34 ⟨rfl, h34⟩
  refine ⟨_, rfl, ?_⟩
  refine WL.gon rfl rfl rfl ?_
  refine WL.v (Runs.boolT (c := false) (Runs.not rfl) (by rw [decide_eq_true q4]; rfl)) rfl ?_
  refine WL.e 3 rfl ?_
  refine WL.gon rfl rfl rfl ?_
  refine WL.v (Runs.load1 Tryz.underlying3 rfl rfl (h34.ocell (i := 0) rfl rfl)) rfl ?_
  refine WL.gon rfl rfl rfl ?_
  refine WL.call can183 rfl rfl ((show Calls _ _ _ _ (fun r w' => r = .returned (.bool (decide (coK c.co))) ∧ St W F _ w') from in_c _ c.co 1 256 h34)) ?_
  rintro _ w35 ⟨rfl, h35⟩
  refine ⟨_, rfl, ?_⟩
  refine WL.gon rfl rfl rfl ?_
  refine WL.v (Runs.boolT (c := false) (Runs.not rfl) (by rw [decide_eq_true q5]; rfl)) rfl ?_
  refine WL.e 3 rfl ?_
  refine WL.gon rfl rfl rfl ?_
  refine WL.v (Runs.load1 Tryz.underlying33 rfl rfl (h35.ocell (i := 0) rfl rfl)) rfl ?_
  refine WL.gon rfl rfl rfl ?_
  refine WL.call can184 rfl rfl (nodes_c _ h35 hR hn) ?_
  rintro _ w36 ⟨rfl, h36⟩
  refine ⟨_, rfl, ?_⟩
  refine WL.gon rfl rfl rfl ?_
  refine WL.v (Runs.boolT (c := false) (Runs.not rfl) (by rw [decide_eq_true q6]; rfl)) rfl ?_
  refine WL.e 1 rfl ?_
  refine WL.nil (WN.thn ?_)
  refine WC.condF rfl (rfl) ?_
  refine WC.skip (WN.thn (WC.seq (WC.reg ?_)))
  refine WL.e 1 rfl ?_
  refine WL.nil (WN.thn (WC.ret ?_))
  refine ret1 rfl rfl ⟨?_, h36.drop 0⟩
  rw [show checkM c = 0 from if_pos ⟨q0, q1, q2, q3, q4, q5, q6⟩]
end Cr
end Go.Proofs.YtifdpllfbaogcaaGreat
namespace Go.Proofs.YtifdpllfbaogcaaGreat
open Go Go.RowKit B
namespace Wir
theorem inf119 : Inf Tryz.prog 119 (.pointer none) 1 8 := by unfold Inf; kernel_rfl
theorem inf120 : Inf Tryz.prog 120 (.slice none 0 0) 1 24 := by unfold Inf; kernel_rfl
theorem inf122 : Inf Tryz.prog 122 (.agg #[.pointer none, .slice none 0 0]) 2 32 := by unfold Inf; kernel_rfl
theorem fld42_0 : fldB Tryz.prog 42 0 0 = true := by kernel_rfl
theorem fld42_1 : fldB Tryz.prog 42 1 1 = true := by kernel_rfl
theorem fld42_2 : fldB Tryz.prog 42 2 2 = true := by kernel_rfl
theorem fld42_3 : fldB Tryz.prog 42 3 3 = true := by kernel_rfl
theorem fld42_4 : fldB Tryz.prog 42 4 4 = true := by kernel_rfl
theorem fld42_5 : fldB Tryz.prog 42 5 5 = true := by kernel_rfl
theorem fld42_6 : fldB Tryz.prog 42 6 6 = true := by kernel_rfl
theorem fld42_7 : fldB Tryz.prog 42 7 7 = true := by kernel_rfl
theorem fld122_1 : fldB Tryz.prog 122 1 1 = true := by kernel_rfl
theorem can119 : B.Can Tryz.prog 119 := ⟨_, Tryz.func119, by kernel_rfl, rfl⟩
theorem can121 : B.Can Tryz.prog 121 := ⟨_, Tryz.func121, by kernel_rfl, rfl⟩
theorem conj9 (P0 P1 P2 P3 P4 P5 P6 P7 P8 : Prop) : (¬ P0) ∨ (P0 ∧ ¬ P1) ∨ (P0 ∧ P1 ∧ ¬ P2) ∨ (P0 ∧ P1 ∧ P2 ∧ ¬ P3) ∨ (P0 ∧ P1 ∧ P2 ∧ P3 ∧ ¬ P4) ∨ (P0 ∧ P1 ∧ P2 ∧ P3 ∧ P4 ∧ ¬ P5) ∨ (P0 ∧ P1 ∧ P2 ∧ P3 ∧ P4 ∧ P5 ∧ ¬ P6) ∨ (P0 ∧ P1 ∧ P2 ∧ P3 ∧ P4 ∧ P5 ∧ P6 ∧ ¬ P7) ∨ (P0 ∧ P1 ∧ P2 ∧ P3 ∧ P4 ∧ P5 ∧ P6 ∧ P7 ∧ ¬ P8) ∨ (P0 ∧ P1 ∧ P2 ∧ P3 ∧ P4 ∧ P5 ∧ P6 ∧ P7 ∧ P8) := by
 by_cases h0 : P0
 rotate_left
 ·exact .inl h0
 by_cases h1 : P1
 rotate_left
 ·exact .inr (.inl ⟨h0, h1⟩)
 by_cases h2 : P2
 rotate_left
 ·exact .inr (.inr (.inl ⟨h0, h1, h2⟩))
 by_cases h3 : P3
 rotate_left
 ·exact .inr (.inr (.inr (.inl ⟨h0, h1, h2, h3⟩)))
 by_cases h4 : P4
 rotate_left
 ·exact .inr (.inr (.inr (.inr (.inl ⟨h0, h1, h2, h3, h4⟩))))
 by_cases h5 : P5
 rotate_left
 ·exact .inr (.inr (.inr (.inr (.inr (.inl ⟨h0, h1, h2, h3, h4, h5⟩)))))
 by_cases h6 : P6
 rotate_left
 ·exact .inr (.inr (.inr (.inr (.inr (.inr (.inl ⟨h0, h1, h2, h3, h4, h5, h6⟩))))))
 by_cases h7 : P7
 rotate_left
 ·exact .inr (.inr (.inr (.inr (.inr (.inr (.inr (.inl ⟨h0, h1, h2, h3, h4, h5, h6, h7⟩)))))))
 by_cases h8 : P8
 rotate_left
 ·exact .inr (.inr (.inr (.inr (.inr (.inr (.inr (.inr (.inl ⟨h0, h1, h2, h3, h4, h5, h6, h7, h8⟩))))))))
 exact .inr (.inr (.inr (.inr (.inr (.inr (.inr (.inr (.inr ⟨h0, h1, h2, h3, h4, h5, h6, h7, h8⟩))))))))
structure M where
 k : Int
 f : Int
 t : Int
 j : Int
 ep : Int
 st : Int
 ar : Int
 tx : List UInt8
def M.val (m : M) : Value := .agg #[Vi m.k, Vi m.f, Vi m.t, Vi m.j, Vi m.ep, Vi m.st, Vi m.ar, .string (bs m.tx)]
def mayM (m : M) : Prop := 0 ≤ m.k ∧ m.k < 10 ∧ (-1 ≤ m.f ∧ m.f < 16) ∧ (-1 ≤ m.t ∧ m.t < 16) ∧ mayN m.j ∧ mayN m.ep ∧ mayN m.st ∧ mayN m.ar ∧ (m.tx.length : Int) ≤ 4096
instance (m : M) : Decidable (mayM m) := inferInstanceAs (Decidable (_ ∧ _))
theorem node_y {W : World} {F : Snap} {cs : List Res} (w : World) (n : Int) (h : St W F cs w) (hn : -1 ≤ n ∧ n < 16) : Calls Tryz.prog 119 #[Vi n] w fun r w' => r = .returned (.bool true) ∧ St W F cs w' := (node_c w n h).mono fun r w' ⟨h1, h2⟩ => ⟨by rw [h1, decide_eq_true hn], h2⟩
theorem node_n {W : World} {F : Snap} {cs : List Res} (w : World) (n : Int) (h : St W F cs w) (hn : ¬ (-1 ≤ n ∧ n < 16)) : Calls Tryz.prog 119 #[Vi n] w fun r w' => r = .returned (.bool false) ∧ St W F cs w' := (node_c w n h).mono fun r w' ⟨h1, h2⟩ => ⟨by rw [h1, decide_eq_false hn], h2⟩
theorem message_c {W : World} {F : Snap} {cs : List Res} (w : World) (m : M) (h : St W F cs w) : Calls Tryz.prog 74 #[m.val] w fun r w' => r = .returned (.bool (decide (mayM m))) ∧ St W F cs w'  := by
 refine enter (P := Tryz.prog) (args := [.agg #[Vi m.k, Vi m.f, Vi m.t, Vi m.j, Vi m.ep, Vi m.st, Vi m.ar, .string (bs m.tx)]]) Tryz.func74 rfl rfl rfl ?_
 refine WC.seq (WC.reg ?_)
 refine WL.box rfl h rfl ?_
 intro b1 w1 h1
 refine WL.e 1 rfl ?_
 refine WL.nil (WN.thn (WC.seq ?_))
 rcases conj9 (0 ≤ m.k) (m.k < 10) ((-1 ≤ m.f ∧ m.f < 16)) ((-1 ≤ m.t ∧ m.t < 16)) (mayN m.j) (mayN m.ep) (mayN m.st) (mayN m.ar) ((m.tx.length : Int) ≤ 4096) with q0 | ⟨q0, q1⟩ | ⟨q0, q1, q2⟩ | ⟨q0, q1, q2, q3⟩ | ⟨q0, q1, q2, q3, q4⟩ | ⟨q0, q1, q2, q3, q4, q5⟩ | ⟨q0, q1, q2, q3, q4, q5, q6⟩ | ⟨q0, q1, q2, q3, q4, q5, q6, q7⟩ | ⟨q0, q1, q2, q3, q4, q5, q6, q7, q8⟩ | ⟨q0, q1, q2, q3, q4, q5, q6, q7, q8⟩
 ·skip
  refine WC.reg ?_
  refine WL.e 1 rfl ?_
  refine WL.v (Runs.load1 Tryz.underlying3 rfl rfl (h1.ocell (i := 0) rfl rfl)) rfl ?_
  refine WL.v (Runs.boolT (c := false) (Runs.geq rfl rfl) (decide_eq_false q0)) rfl ?_
  refine WL.e 42 rfl ?_
  refine WL.nil (WN.thn (WC.ret ?_))
  refine ret1 rfl rfl ⟨?_, h1.drop 0⟩
  rw [decide_eq_false (show ¬ mayM m from fun hh => q0 hh.1)]; rfl
 ·skip
  refine WC.reg ?_
  refine WL.e 1 rfl ?_
  refine WL.v (Runs.load1 Tryz.underlying3 rfl rfl (h1.ocell (i := 0) rfl rfl)) rfl ?_
  refine WL.v (Runs.boolT (c := true) (Runs.geq rfl rfl) (decide_eq_true q0)) rfl ?_
  refine WL.e 2 rfl ?_
  refine WL.gon rfl rfl rfl ?_
  refine WL.v (Runs.load1 Tryz.underlying3 rfl rfl (h1.ocell (i := 0) rfl rfl)) rfl ?_
  refine WL.gon rfl rfl rfl ?_
  refine WL.v (Runs.boolT (c := false) (Runs.lss rfl rfl) (decide_eq_false q1)) rfl ?_
  refine WL.e 38 rfl ?_
  refine WL.nil (WN.thn (WC.ret ?_))
  refine ret1 rfl rfl ⟨?_, h1.drop 0⟩
  rw [decide_eq_false (show ¬ mayM m from fun hh => q1 hh.2.1)]; rfl
 ·skip
  refine WC.reg ?_
  refine WL.e 1 rfl ?_
  refine WL.v (Runs.load1 Tryz.underlying3 rfl rfl (h1.ocell (i := 0) rfl rfl)) rfl ?_
  refine WL.v (Runs.boolT (c := true) (Runs.geq rfl rfl) (decide_eq_true q0)) rfl ?_
  refine WL.e 2 rfl ?_
  refine WL.gon rfl rfl rfl ?_
  refine WL.v (Runs.load1 Tryz.underlying3 rfl rfl (h1.ocell (i := 0) rfl rfl)) rfl ?_
  refine WL.gon rfl rfl rfl ?_
  refine WL.v (Runs.boolT (c := true) (Runs.lss rfl rfl) (decide_eq_true q1)) rfl ?_
  refine WL.e 3 rfl ?_
  refine WL.gon rfl rfl rfl ?_
  refine WL.v (Runs.load1 Tryz.underlying3 rfl rfl (h1.ocell (i := 0) rfl rfl)) rfl ?_
  refine WL.gon rfl rfl rfl ?_
  refine WL.call can119 rfl rfl (node_n _ _ h1 q2) ?_
  rintro _ w2 ⟨rfl, h2⟩
  refine ⟨_, rfl, ?_⟩
  refine WL.e 33 rfl ?_
  refine WL.nil (WN.thn (WC.ret ?_))
  refine ret1 rfl rfl ⟨?_, h2.drop 0⟩
  rw [decide_eq_false (show ¬ mayM m from fun hh => q2 hh.2.2.1)]; rfl
 ·skip
  refine WC.reg ?_
  refine WL.e 1 rfl ?_
  refine WL.v (Runs.load1 Tryz.underlying3 rfl rfl (h1.ocell (i := 0) rfl rfl)) rfl ?_
  refine WL.v (Runs.boolT (c := true) (Runs.geq rfl rfl) (decide_eq_true q0)) rfl ?_
  refine WL.e 2 rfl ?_
  refine WL.gon rfl rfl rfl ?_
  refine WL.v (Runs.load1 Tryz.underlying3 rfl rfl (h1.ocell (i := 0) rfl rfl)) rfl ?_
  refine WL.gon rfl rfl rfl ?_
  refine WL.v (Runs.boolT (c := true) (Runs.lss rfl rfl) (decide_eq_true q1)) rfl ?_
  refine WL.e 3 rfl ?_
  refine WL.gon rfl rfl rfl ?_
  refine WL.v (Runs.load1 Tryz.underlying3 rfl rfl (h1.ocell (i := 0) rfl rfl)) rfl ?_
  refine WL.gon rfl rfl rfl ?_
  refine WL.call can119 rfl rfl (node_y _ _ h1 q2) ?_
  rintro _ w3 ⟨rfl, h3⟩
  refine ⟨_, rfl, ?_⟩
  refine WL.e 3 rfl ?_
  refine WL.gon rfl rfl rfl ?_
  refine WL.v (Runs.load1 Tryz.underlying3 rfl rfl (h3.ocell (i := 0) rfl rfl)) rfl ?_
  refine WL.gon rfl rfl rfl ?_
  refine WL.call can119 rfl rfl (node_n _ _ h3 q3) ?_
  rintro _ w4 ⟨rfl, h4⟩
  refine ⟨_, rfl, ?_⟩
  refine WL.e 28 rfl ?_
  refine WL.nil (WN.thn (WC.ret ?_))
  refine ret1 rfl rfl ⟨?_, h4.drop 0⟩
  rw [decide_eq_false (show ¬ mayM m from fun hh => q3 hh.2.2.2.1)]; rfl
 ·skip
  refine WC.reg ?_
  refine WL.e 1 rfl ?_
  refine WL.v (Runs.load1 Tryz.underlying3 rfl rfl (h1.ocell (i := 0) rfl rfl)) rfl ?_
  refine WL.v (Runs.boolT (c := true) (Runs.geq rfl rfl) (decide_eq_true q0)) rfl ?_
  refine WL.e 2 rfl ?_
  refine WL.gon rfl rfl rfl ?_
  refine WL.v (Runs.load1 Tryz.underlying3 rfl rfl (h1.ocell (i := 0) rfl rfl)) rfl ?_
  refine WL.gon rfl rfl rfl ?_
  refine WL.v (Runs.boolT (c := true) (Runs.lss rfl rfl) (decide_eq_true q1)) rfl ?_
  refine WL.e 3 rfl ?_
  refine WL.gon rfl rfl rfl ?_
  refine WL.v (Runs.load1 Tryz.underlying3 rfl rfl (h1.ocell (i := 0) rfl rfl)) rfl ?_
  refine WL.gon rfl rfl rfl ?_
  refine WL.call can119 rfl rfl (node_y _ _ h1 q2) ?_
  rintro _ w5 ⟨rfl, h5⟩
  refine ⟨_, rfl, ?_⟩
  refine WL.e 3 rfl ?_
  refine WL.gon rfl rfl rfl ?_
  refine WL.v (Runs.load1 Tryz.underlying3 rfl rfl (h5.ocell (i := 0) rfl rfl)) rfl ?_
  refine WL.gon rfl rfl rfl ?_
  refine WL.call can119 rfl rfl (node_y _ _ h5 q3) ?_
  rintro _ w6 ⟨rfl, h6⟩
  refine ⟨_, rfl, ?_⟩
  refine WL.e 3 rfl ?_
  refine WL.gon rfl rfl rfl ?_
  refine WL.v (Runs.load1 Tryz.underlying3 rfl rfl (h6.ocell (i := 0) rfl rfl)) rfl ?_
  refine WL.gon rfl rfl rfl ?_
  refine WL.call can120 rfl rfl (may_n _ _ h6 q4) ?_
  rintro _ w7 ⟨rfl, h7⟩
  refine ⟨_, rfl, ?_⟩
  refine WL.e 23 rfl ?_
  refine WL.nil (WN.thn (WC.ret ?_))
  refine ret1 rfl rfl ⟨?_, h7.drop 0⟩
  rw [decide_eq_false (show ¬ mayM m from fun hh => q4 hh.2.2.2.2.1)]; rfl
 ·skip
  refine WC.reg ?_
  refine WL.e 1 rfl ?_
  refine WL.v (Runs.load1 Tryz.underlying3 rfl rfl (h1.ocell (i := 0) rfl rfl)) rfl ?_
  refine WL.v (Runs.boolT (c := true) (Runs.geq rfl rfl) (decide_eq_true q0)) rfl ?_
  refine WL.e 2 rfl ?_
  refine WL.gon rfl rfl rfl ?_
  refine WL.v (Runs.load1 Tryz.underlying3 rfl rfl (h1.ocell (i := 0) rfl rfl)) rfl ?_
  refine WL.gon rfl rfl rfl ?_
  refine WL.v (Runs.boolT (c := true) (Runs.lss rfl rfl) (decide_eq_true q1)) rfl ?_
  refine WL.e 3 rfl ?_
  refine WL.gon rfl rfl rfl ?_
  refine WL.v (Runs.load1 Tryz.underlying3 rfl rfl (h1.ocell (i := 0) rfl rfl)) rfl ?_
  refine WL.gon rfl rfl rfl ?_
  refine WL.call can119 rfl rfl (node_y _ _ h1 q2) ?_
  rintro _ w8 ⟨rfl, h8⟩
  refine ⟨_, rfl, ?_⟩
  refine WL.e 3 rfl ?_
  refine WL.gon rfl rfl rfl ?_
  refine WL.v (Runs.load1 Tryz.underlying3 rfl rfl (h8.ocell (i := 0) rfl rfl)) rfl ?_
  refine WL.gon rfl rfl rfl ?_
  refine WL.call can119 rfl rfl (node_y _ _ h8 q3) ?_
  rintro _ w9 ⟨rfl, h9⟩
  refine ⟨_, rfl, ?_⟩
  refine WL.e 3 rfl ?_
  refine WL.gon rfl rfl rfl ?_
  refine WL.v (Runs.load1 Tryz.underlying3 rfl rfl (h9.ocell (i := 0) rfl rfl)) rfl ?_
  refine WL.gon rfl rfl rfl ?_
  refine WL.call can120 rfl rfl (may_y _ _ h9 q4) ?_
  rintro _ w10 ⟨rfl, h10⟩
  refine ⟨_, rfl, ?_⟩
  refine WL.e 3 rfl ?_
  refine WL.gon rfl rfl rfl ?_
  refine WL.v (Runs.load1 Tryz.underlying3 rfl rfl (h10.ocell (i := 0) rfl rfl)) rfl ?_
  refine WL.gon rfl rfl rfl ?_
  refine WL.call can120 rfl rfl (may_n _ _ h10 q5) ?_
  rintro _ w11 ⟨rfl, h11⟩
  refine ⟨_, rfl, ?_⟩
  refine WL.e 18 rfl ?_
  refine WL.nil (WN.thn (WC.ret ?_))
  refine ret1 rfl rfl ⟨?_, h11.drop 0⟩
  rw [decide_eq_false (show ¬ mayM m from fun hh => q5 hh.2.2.2.2.2.1)]; rfl
 ·skip
  refine WC.reg ?_
  refine WL.e 1 rfl ?_
  refine WL.v (Runs.load1 Tryz.underlying3 rfl rfl (h1.ocell (i := 0) rfl rfl)) rfl ?_
  refine WL.v (Runs.boolT (c := true) (Runs.geq rfl rfl) (decide_eq_true q0)) rfl ?_
  refine WL.e 2 rfl ?_
  refine WL.gon rfl rfl rfl ?_
  refine WL.v (Runs.load1 Tryz.underlying3 rfl rfl (h1.ocell (i := 0) rfl rfl)) rfl ?_
  refine WL.gon rfl rfl rfl ?_
  refine WL.v (Runs.boolT (c := true) (Runs.lss rfl rfl) (decide_eq_true q1)) rfl ?_
  refine WL.e 3 rfl ?_
  refine WL.gon rfl rfl rfl ?_
  refine WL.v (Runs.load1 Tryz.underlying3 rfl rfl (h1.ocell (i := 0) rfl rfl)) rfl ?_
  refine WL.gon rfl rfl rfl ?_
  refine WL.call can119 rfl rfl (node_y _ _ h1 q2) ?_
  rintro _ w12 ⟨rfl, h12⟩
  refine ⟨_, rfl, ?_⟩
  refine WL.e 3 rfl ?_
  refine WL.gon rfl rfl rfl ?_
  refine WL.v (Runs.load1 Tryz.underlying3 rfl rfl (h12.ocell (i := 0) rfl rfl)) rfl ?_
  refine WL.gon rfl rfl rfl ?_
  refine WL.call can119 rfl rfl (node_y _ _ h12 q3) ?_
  rintro _ w13 ⟨rfl, h13⟩
  refine ⟨_, rfl, ?_⟩
  refine WL.e 3 rfl ?_
  refine WL.gon rfl rfl rfl ?_
  refine WL.v (Runs.load1 Tryz.underlying3 rfl rfl (h13.ocell (i := 0) rfl rfl)) rfl ?_
  refine WL.gon rfl rfl rfl ?_
  refine WL.call can120 rfl rfl (may_y _ _ h13 q4) ?_
  rintro _ w14 ⟨rfl, h14⟩
  refine ⟨_, rfl, ?_⟩
  refine WL.e 3 rfl ?_
  refine WL.gon rfl rfl rfl ?_
  refine WL.v (Runs.load1 Tryz.underlying3 rfl rfl (h14.ocell (i := 0) rfl rfl)) rfl ?_
  refine WL.gon rfl rfl rfl ?_
  refine WL.call can120 rfl rfl (may_y _ _ h14 q5) ?_
  rintro _ w15 ⟨rfl, h15⟩
  refine ⟨_, rfl, ?_⟩
  refine WL.e 3 rfl ?_
  refine WL.gon rfl rfl rfl ?_
  refine WL.v (Runs.load1 Tryz.underlying3 rfl rfl (h15.ocell (i := 0) rfl rfl)) rfl ?_
  refine WL.gon rfl rfl rfl ?_
  refine WL.call can120 rfl rfl (may_n _ _ h15 q6) ?_
  rintro _ w16 ⟨rfl, h16⟩
  refine ⟨_, rfl, ?_⟩
  refine WL.e 13 rfl ?_
  refine WL.nil (WN.thn (WC.ret ?_))
  refine ret1 rfl rfl ⟨?_, h16.drop 0⟩
  rw [decide_eq_false (show ¬ mayM m from fun hh => q6 hh.2.2.2.2.2.2.1)]; rfl
 ·skip
  refine WC.reg ?_
  refine WL.e 1 rfl ?_
  refine WL.v (Runs.load1 Tryz.underlying3 rfl rfl (h1.ocell (i := 0) rfl rfl)) rfl ?_
  refine WL.v (Runs.boolT (c := true) (Runs.geq rfl rfl) (decide_eq_true q0)) rfl ?_
  refine WL.e 2 rfl ?_
  refine WL.gon rfl rfl rfl ?_
  refine WL.v (Runs.load1 Tryz.underlying3 rfl rfl (h1.ocell (i := 0) rfl rfl)) rfl ?_
  refine WL.gon rfl rfl rfl ?_
  refine WL.v (Runs.boolT (c := true) (Runs.lss rfl rfl) (decide_eq_true q1)) rfl ?_
  refine WL.e 3 rfl ?_
  refine WL.gon rfl rfl rfl ?_
  refine WL.v (Runs.load1 Tryz.underlying3 rfl rfl (h1.ocell (i := 0) rfl rfl)) rfl ?_
  refine WL.gon rfl rfl rfl ?_
  refine WL.call can119 rfl rfl (node_y _ _ h1 q2) ?_
  rintro _ w17 ⟨rfl, h17⟩
  refine ⟨_, rfl, ?_⟩
  refine WL.e 3 rfl ?_
  refine WL.gon rfl rfl rfl ?_
  refine WL.v (Runs.load1 Tryz.underlying3 rfl rfl (h17.ocell (i := 0) rfl rfl)) rfl ?_
  refine WL.gon rfl rfl rfl ?_
  refine WL.call can119 rfl rfl (node_y _ _ h17 q3) ?_
  rintro _ w18 ⟨rfl, h18⟩
  refine ⟨_, rfl, ?_⟩
  refine WL.e 3 rfl ?_
  refine WL.gon rfl rfl rfl ?_
  refine WL.v (Runs.load1 Tryz.underlying3 rfl rfl (h18.ocell (i := 0) rfl rfl)) rfl ?_
  refine WL.gon rfl rfl rfl ?_
  refine WL.call can120 rfl rfl (may_y _ _ h18 q4) ?_
  rintro _ w19 ⟨rfl, h19⟩
  refine ⟨_, rfl, ?_⟩
  refine WL.e 3 rfl ?_
  refine WL.gon rfl rfl rfl ?_
  refine WL.v (Runs.load1 Tryz.underlying3 rfl rfl (h19.ocell (i := 0) rfl rfl)) rfl ?_
  refine WL.gon rfl rfl rfl ?_
  refine WL.call can120 rfl rfl (may_y _ _ h19 q5) ?_
  rintro _ w20 ⟨rfl, h20⟩
  refine ⟨_, rfl, ?_⟩
  refine WL.e 3 rfl ?_
  refine WL.gon rfl rfl rfl ?_
  refine WL.v (Runs.load1 Tryz.underlying3 rfl rfl (h20.ocell (i := 0) rfl rfl)) rfl ?_
  refine WL.gon rfl rfl rfl ?_
  refine WL.call can120 rfl rfl (may_y _ _ h20 q6) ?_
  rintro _ w21 ⟨rfl, h21⟩
  refine ⟨_, rfl, ?_⟩
  refine WL.e 3 rfl ?_
  refine WL.gon rfl rfl rfl ?_
  refine WL.v (Runs.load1 Tryz.underlying3 rfl rfl (h21.ocell (i := 0) rfl rfl)) rfl ?_
  refine WL.gon rfl rfl rfl ?_
  refine WL.call can120 rfl rfl (may_n _ _ h21 q7) ?_
  rintro _ w22 ⟨rfl, h22⟩
  refine ⟨_, rfl, ?_⟩
  refine WL.e 8 rfl ?_
  refine WL.nil (WN.thn (WC.ret ?_))
  refine ret1 rfl rfl ⟨?_, h22.drop 0⟩
  rw [decide_eq_false (show ¬ mayM m from fun hh => q7 hh.2.2.2.2.2.2.2.1)]; rfl
 ·skip
  refine WC.reg ?_
  refine WL.e 1 rfl ?_
  refine WL.v (Runs.load1 Tryz.underlying3 rfl rfl (h1.ocell (i := 0) rfl rfl)) rfl ?_
  refine WL.v (Runs.boolT (c := true) (Runs.geq rfl rfl) (decide_eq_true q0)) rfl ?_
  refine WL.e 2 rfl ?_
  refine WL.gon rfl rfl rfl ?_
  refine WL.v (Runs.load1 Tryz.underlying3 rfl rfl (h1.ocell (i := 0) rfl rfl)) rfl ?_
  refine WL.gon rfl rfl rfl ?_
  refine WL.v (Runs.boolT (c := true) (Runs.lss rfl rfl) (decide_eq_true q1)) rfl ?_
  refine WL.e 3 rfl ?_
  refine WL.gon rfl rfl rfl ?_
  refine WL.v (Runs.load1 Tryz.underlying3 rfl rfl (h1.ocell (i := 0) rfl rfl)) rfl ?_
  refine WL.gon rfl rfl rfl ?_
  refine WL.call can119 rfl rfl (node_y _ _ h1 q2) ?_
  rintro _ w23 ⟨rfl, h23⟩
  refine ⟨_, rfl, ?_⟩
  refine WL.e 3 rfl ?_
  refine WL.gon rfl rfl rfl ?_
  refine WL.v (Runs.load1 Tryz.underlying3 rfl rfl (h23.ocell (i := 0) rfl rfl)) rfl ?_
  refine WL.gon rfl rfl rfl ?_
  refine WL.call can119 rfl rfl (node_y _ _ h23 q3) ?_
  rintro _ w24 ⟨rfl, h24⟩
  refine ⟨_, rfl, ?_⟩
  refine WL.e 3 rfl ?_
  refine WL.gon rfl rfl rfl ?_
  refine WL.v (Runs.load1 Tryz.underlying3 rfl rfl (h24.ocell (i := 0) rfl rfl)) rfl ?_
  refine WL.gon rfl rfl rfl ?_
  refine WL.call can120 rfl rfl (may_y _ _ h24 q4) ?_
  rintro _ w25 ⟨rfl, h25⟩
  refine ⟨_, rfl, ?_⟩
  refine WL.e 3 rfl ?_
  refine WL.gon rfl rfl rfl ?_
  refine WL.v (Runs.load1 Tryz.underlying3 rfl rfl (h25.ocell (i := 0) rfl rfl)) rfl ?_
  refine WL.gon rfl rfl rfl ?_
  refine WL.call can120 rfl rfl (may_y _ _ h25 q5) ?_
  rintro _ w26 ⟨rfl, h26⟩
  refine ⟨_, rfl, ?_⟩
  refine WL.e 3 rfl ?_
  refine WL.gon rfl rfl rfl ?_
  refine WL.v (Runs.load1 Tryz.underlying3 rfl rfl (h26.ocell (i := 0) rfl rfl)) rfl ?_
  refine WL.gon rfl rfl rfl ?_
  refine WL.call can120 rfl rfl (may_y _ _ h26 q6) ?_
  rintro _ w27 ⟨rfl, h27⟩
  refine ⟨_, rfl, ?_⟩
  refine WL.e 3 rfl ?_
  refine WL.gon rfl rfl rfl ?_
  refine WL.v (Runs.load1 Tryz.underlying3 rfl rfl (h27.ocell (i := 0) rfl rfl)) rfl ?_
  refine WL.gon rfl rfl rfl ?_
  refine WL.call can120 rfl rfl (may_y _ _ h27 q7) ?_
  rintro _ w28 ⟨rfl, h28⟩
  refine ⟨_, rfl, ?_⟩
  refine WL.e 3 rfl ?_
  refine WL.gon rfl rfl rfl ?_
  refine WL.v (Runs.load1 Tryz.underlying9 rfl rfl (h28.ocell (i := 0) rfl rfl)) rfl ?_
  refine WL.gon rfl rfl rfl ?_
  refine WL.v (Runs.intT (n := (m.tx.length : Int)) (Runs.slen Tryz.underlying9 rfl rfl) rfl) rfl ?_
  refine WL.gon rfl rfl rfl ?_
  refine WL.v (Runs.boolT (c := false) (Runs.leq rfl rfl) (decide_eq_false q8)) rfl ?_
  refine WL.e 2 rfl ?_
  refine WL.nil (WN.thn (WC.ret ?_))
  refine ret1 rfl rfl ⟨?_, h28.drop 0⟩
  rw [decide_eq_false (show ¬ mayM m from fun hh => q8 hh.2.2.2.2.2.2.2.2)]; rfl
 ·skip
  refine WC.reg ?_
  refine WL.e 1 rfl ?_
  refine WL.v (Runs.load1 Tryz.underlying3 rfl rfl (h1.ocell (i := 0) rfl rfl)) rfl ?_
  refine WL.v (Runs.boolT (c := true) (Runs.geq rfl rfl) (decide_eq_true q0)) rfl ?_
  refine WL.e 2 rfl ?_
  refine WL.gon rfl rfl rfl ?_
  refine WL.v (Runs.load1 Tryz.underlying3 rfl rfl (h1.ocell (i := 0) rfl rfl)) rfl ?_
  refine WL.gon rfl rfl rfl ?_
  refine WL.v (Runs.boolT (c := true) (Runs.lss rfl rfl) (decide_eq_true q1)) rfl ?_
  refine WL.e 3 rfl ?_
  refine WL.gon rfl rfl rfl ?_
  refine WL.v (Runs.load1 Tryz.underlying3 rfl rfl (h1.ocell (i := 0) rfl rfl)) rfl ?_
  refine WL.gon rfl rfl rfl ?_
  refine WL.call can119 rfl rfl (node_y _ _ h1 q2) ?_
  rintro _ w29 ⟨rfl, h29⟩
  refine ⟨_, rfl, ?_⟩
  refine WL.e 3 rfl ?_
  refine WL.gon rfl rfl rfl ?_
  refine WL.v (Runs.load1 Tryz.underlying3 rfl rfl (h29.ocell (i := 0) rfl rfl)) rfl ?_
  refine WL.gon rfl rfl rfl ?_
  refine WL.call can119 rfl rfl (node_y _ _ h29 q3) ?_
  rintro _ w30 ⟨rfl, h30⟩
  refine ⟨_, rfl, ?_⟩
  refine WL.e 3 rfl ?_
  refine WL.gon rfl rfl rfl ?_
  refine WL.v (Runs.load1 Tryz.underlying3 rfl rfl (h30.ocell (i := 0) rfl rfl)) rfl ?_
  refine WL.gon rfl rfl rfl ?_
  refine WL.call can120 rfl rfl (may_y _ _ h30 q4) ?_
  rintro _ w31 ⟨rfl, h31⟩
  refine ⟨_, rfl, ?_⟩
  refine WL.e 3 rfl ?_
  refine WL.gon rfl rfl rfl ?_
  refine WL.v (Runs.load1 Tryz.underlying3 rfl rfl (h31.ocell (i := 0) rfl rfl)) rfl ?_
  refine WL.gon rfl rfl rfl ?_
  refine WL.call can120 rfl rfl (may_y _ _ h31 q5) ?_
  rintro _ w32 ⟨rfl, h32⟩
  refine ⟨_, rfl, ?_⟩
  refine WL.e 3 rfl ?_
  refine WL.gon rfl rfl rfl ?_
  refine WL.v (Runs.load1 Tryz.underlying3 rfl rfl (h32.ocell (i := 0) rfl rfl)) rfl ?_
  refine WL.gon rfl rfl rfl ?_
  refine WL.call can120 rfl rfl (may_y _ _ h32 q6) ?_
  rintro _ w33 ⟨rfl, h33⟩
  refine ⟨_, rfl, ?_⟩
  refine WL.e 3 rfl ?_
  refine WL.gon rfl rfl rfl ?_
  refine WL.v (Runs.load1 Tryz.underlying3 rfl rfl (h33.ocell (i := 0) rfl rfl)) rfl ?_
  refine WL.gon rfl rfl rfl ?_
  refine WL.call can120 rfl rfl (may_y _ _ h33 q7) ?_
  rintro _ w34 ⟨rfl, h34⟩
  refine ⟨_, rfl, ?_⟩
  refine WL.e 3 rfl ?_
  refine WL.gon rfl rfl rfl ?_
  refine WL.v (Runs.load1 Tryz.underlying9 rfl rfl (h34.ocell (i := 0) rfl rfl)) rfl ?_
  refine WL.gon rfl rfl rfl ?_
  refine WL.v (Runs.intT (n := (m.tx.length : Int)) (Runs.slen Tryz.underlying9 rfl rfl) rfl) rfl ?_
  refine WL.gon rfl rfl rfl ?_
  refine WL.v (Runs.boolT (c := true) (Runs.leq rfl rfl) (decide_eq_true q8)) rfl ?_
  refine WL.e 2 rfl ?_
  refine WL.nil (WN.thn (WC.ret ?_))
  refine ret1 rfl rfl ⟨?_, h34.drop 0⟩
  rw [decide_eq_true (show mayM m from ⟨q0, q1, q2, q3, q4, q5, q6, q7, q8⟩)]; rfl
theorem cc_c {W : World} {F : Snap} {cs : List Res} (w : World) {bb : Nat} {pp v : Value} (h : St W F ([(bb, .cells #[pp, v] 122 (0, 0))] :: cs) w) (hpp : pp = .pointer none) : Calls Tryz.prog 121 #[.pointer (some ⟨bb, 0, none⟩)] w fun r w' => r = .returned (.tuple #[]) ∧ St W F ([(bb, .cells #[.pointer (some ⟨bb, 0, none⟩), v] 122 (0, 0))] :: cs) w'  := by
 refine enter (P := Tryz.prog) (args := [.pointer (some ⟨bb, 0, none⟩)]) Tryz.func121 rfl rfl rfl ?_
 subst hpp
 refine WC.seq (WC.reg ?_)
 refine WL.e 3 rfl ?_
 refine WL.v (Runs.load1 Tryz.underlying119 rfl rfl (h.ocell (i := 0) rfl rfl)) rfl ?_
 refine WL.v (Runs.peql Tryz.underlying119 rfl rfl) rfl ?_
 refine WL.nil (WN.thn ?_)
 refine WC.condT rfl (rfl) ?_
 refine WC.reg ?_
 refine WL.e 2 rfl ?_
 refine WL.v (Runs.toUnsafe h (i := 0) rfl Tryz.underlying119 Tryz.underlying188 inf122 rfl (by show 0 < 2; decide) rfl) rfl ?_
 refine WL.v (Runs.same Tryz.func153 (by kernel_rfl) (by kernel_rfl) (by kernel_rfl) (by kernel_rfl) rfl) rfl ?_
 refine WL.v (Runs.fromUnsafe h (i := 0) rfl Tryz.underlying188 Tryz.underlying119 inf122 (cells := 2) rfl (by kernel_rfl) rfl) rfl ?_
 refine WL.e 2 rfl ?_
 refine WL.store' h 0 rfl rfl rfl inf119 rfl rfl (Free.zero _) (Nat.le_of_ble_eq_true rfl) ?_
 intro  w1 h1
 try simp only [lz, ls, ez, es'] at h1
 refine WL.nil ?_
 exact end0 rfl ⟨rfl, h1⟩
theorem cc_s {W : World} {F : Snap} {cs : List Res} (w : World) {bb : Nat} {pp v : Value} (h : St W F ([(bb, .cells #[pp, v] 122 (0, 0))] :: cs) w) (hpp : pp = .pointer (some ⟨bb, 0, none⟩)) : Calls Tryz.prog 121 #[.pointer (some ⟨bb, 0, none⟩)] w fun r w' => r = .returned (.tuple #[]) ∧ St W F ([(bb, .cells #[.pointer (some ⟨bb, 0, none⟩), v] 122 (0, 0))] :: cs) w'  := by
 refine enter (P := Tryz.prog) (args := [.pointer (some ⟨bb, 0, none⟩)]) Tryz.func121 rfl rfl rfl ?_
 subst hpp
 refine WC.seq (WC.reg ?_)
 refine WL.e 3 rfl ?_
 refine WL.v (Runs.load1 Tryz.underlying119 rfl rfl (h.ocell (i := 0) rfl rfl)) rfl ?_
 refine WL.v (Runs.peql Tryz.underlying119 rfl rfl) rfl ?_
 refine WL.nil (WN.thn ?_)
 refine WC.condF rfl (rfl) ?_
 refine WC.seq (WC.reg ?_)
 refine WL.e 3 rfl ?_
 refine WL.v (Runs.load1 Tryz.underlying119 rfl rfl (h.ocell (i := 0) rfl rfl)) rfl ?_
 refine WL.e 1 rfl ?_
 refine WL.v (Runs.pneqS Tryz.underlying119 inf122 rfl rfl) rfl ?_
 refine WL.nil (WN.thn ?_)
 refine WC.condF rfl (rfl) ?_
 refine WC.skip ?_
 exact end0 rfl ⟨rfl, h⟩
theorem wstr_c {W : World} {F : Snap} {cs : List Res} (w : World) {bb : Nat} {pp v : Value} {r0 : Res} {xs : List UInt8} (l : List UInt8) (h : St W F ([(bb, .cells #[pp, v] 122 (0, 0))] :: r0 :: cs) w) (hpp : pp = .pointer none ∨ pp = .pointer (some ⟨bb, 0, none⟩)) (hr : Row 5 V8 r0 v xs) (hb : xs.length + l.length ≤ 10000000) : Calls Tryz.prog 75 #[.pointer (some ⟨bb, 0, none⟩), .string (bs l)] w fun r w' => ∃ r1 v1, r = .returned (.tuple #[Vi l.length, .nilIface]) ∧ Row 5 V8 r1 v1 (xs ++ l) ∧ St W F ([(bb, .cells #[.pointer (some ⟨bb, 0, none⟩), v1] 122 (0, 0))] :: r1 :: cs) w'  := by
 refine enter (P := Tryz.prog) (args := [.pointer (some ⟨bb, 0, none⟩), .string (bs l)]) Tryz.func75 rfl rfl rfl ?_
 obtain ⟨Ao, co, rfl, hcap⟩ := hr.val
 refine WC.seq (WC.reg ?_)
 refine WL.e 2 rfl ?_
 refine WL.nil (WN.thn (WC.seq (WC.reg ?_)))
 refine WL.e 1 rfl ?_
 refine WL.call can121 rfl rfl ((hpp.elim (cc_c _ h) (cc_s _ h))) ?_
 rintro _ w1 ⟨rfl, h1⟩
 refine ⟨_, rfl, ?_⟩
 refine WL.nil (WN.thn (WC.seq (WC.reg ?_)))
 refine WL.e 4 rfl ?_
 refine WL.v (Runs.load1 Tryz.underlying120 rfl rfl (h1.ocell (i := 0) rfl rfl)) rfl ?_
 refine WL.e 1 rfl ?_
 refine WL.app (ys := l) 1 h1 rfl rfl rfl rfl Tryz.underlying120 Tryz.underlying9 (.inl rfl) inf5 rfl hr (Src.str) rfl rfl (by first | omega | (simp [bs_size]; done) | (simp [bs_size]; omega)) (by first | omega | (simp [bs_size]; done) | (simp [bs_size]; omega)) ?_
 intro r2 v2 w3 hr2 h3
 simp only [lz, ls] at h3
 obtain ⟨A2, c2, hv2, hcap2⟩ := (hr2).val
 subst hv2
 refine WL.e 2 rfl ?_
 refine WL.store' h3 0 rfl rfl rfl inf120 rfl rfl (Free.zero _) (Nat.le_of_ble_eq_true rfl) ?_
 intro  w4 h4
 try simp only [lz, ls, ez, es'] at h4
 refine WL.nil (WN.thn (WC.seq (WC.reg ?_)))
 refine WL.e 1 rfl ?_
 refine WL.v (Runs.intT (n := (l.length : Int)) (Runs.slen Tryz.underlying9 rfl rfl) rfl) rfl ?_
 refine WL.e 2 rfl ?_
 refine WL.nil (WN.thn (WC.ret ?_))
 exact ret2 rfl rfl rfl ⟨_, _, rfl, hr2, h4⟩
theorem str_c {W : World} {F : Snap} {cs : List Res} (w : World) {bb : Nat} {pp v : Value} {r0 : Res} {xs : List UInt8} (h : St W F ([(bb, .cells #[pp, v] 122 (0, 0))] :: r0 :: cs) w) (hr : Row 5 V8 r0 v xs) (h0 : xs ≠ []) (hb : xs.length ≤ 10000000) : Calls Tryz.prog 77 #[.pointer (some ⟨bb, 0, none⟩)] w fun r w' => r = .returned (.string (bs xs)) ∧ St W F cs w'  := by
 refine enter (P := Tryz.prog) (args := [.pointer (some ⟨bb, 0, none⟩)]) Tryz.func77 rfl rfl rfl ?_
 have hpos : 0 < xs.length := List.length_pos_iff.2 h0
 obtain ⟨b, zs, fz, rfl, rfl, hfr⟩ := Row.blk hr hpos
 refine WC.seq (WC.reg ?_)
 refine WL.e 1 rfl ?_
 refine WL.nil (WN.thn (WC.seq ?_))
 refine WC.eregO h (fun s_ => ([10] : List Nat).any (Nat.beq s_)) mixed (by kernel_rfl) (fun hx => ?_)
 intro w1 h1
 refine WE.p0 hx 0 (by rfl) (fun w_ => Runs.move rfl) rfl ?_
 refine WE.p0 hx 1 (by rfl) (fun w_ => Runs.nilCheckP rfl) rfl ?_
 refine WE.p0 hx 2 (by rfl) (fun w_ => Runs.fld fld122_1 rfl) rfl ?_
 refine WE.p0 hx 5 (by rfl) (fun w_ => Runs.move rfl) rfl ?_
 refine WE.p0 hx 6 (by rfl) (fun w_ => Runs.nilCheckP rfl) rfl ?_
 refine WE.p0 hx 7 (by rfl) (fun w_ => Runs.fld fld122_1 rfl) rfl ?_
 refine WE.v0 12 hx 3 (by rfl) (fun w_ hE_ => Runs.load1 Tryz.underlying120 rfl rfl (hE_.ocell (i := 0) rfl rfl)) rfl ?_
 refine WE.v0 12 hx 8 (by rfl) (fun w_ hE_ => Runs.load1 Tryz.underlying120 rfl rfl (hE_.ocell (i := 0) rfl rfl)) rfl ?_
 refine WE.p0 hx 9 (by rfl) (fun w_ => Runs.llen Tryz.underlying120 rfl rfl) rfl ?_
 refine WE.op (.inr h1) (i := 4) (by rfl) (by kernel_rfl) ?_
 refine WL.v (Runs.usd rfl (by omega)) rfl ?_
 refine WL.nil (WE.next ?_)
 refine WE.op (.inr h1) (i := 10) (by rfl) (by kernel_rfl) ?_
 refine WL.ustr h1 1 rfl Tryz.underlying159 (by kernel_rfl) h0 (by omega) rfl rfl rfl ?_
 intro fz2 w2 h2
 try simp only [lz, ls, ez, es'] at h2
 refine WL.nil (WE.next ?_)
 refine WE.p0 hx 11 (by rfl) (fun w_ => Runs.assign rfl) rfl ?_
 refine WE.fin (.inl ⟨10, rfl, by kernel_rfl⟩) (by kernel_rfl) ?_
 refine WN.thn (WC.ret ?_)
 exact ret1 rfl rfl ⟨rfl, (h2.drop 0).drop 0⟩
end Wir
end Go.Proofs.YtifdpllfbaogcaaGreat
