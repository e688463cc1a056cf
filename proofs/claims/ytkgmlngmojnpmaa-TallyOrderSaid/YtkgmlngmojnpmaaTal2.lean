/- Walks of package tally: who is silent, what is said. -/
import Derived.Test.YtkgmlngmojnpmaaProg
import Derived.Test.YtkgmlngmojnpmaaTal1
namespace Go.Proofs.Ytkgmlngmojnpmaa
open Go Go.RowKit B
set_option linter.unusedVariables false
set_option linter.unusedSimpArgs false
namespace Tal

theorem can24 : B.Can Try.prog 24 := ⟨_, Try.func24, by kernel_rfl, rfl⟩   -- slices.Clone[[]int,int]
theorem can36 : B.Can Try.prog 36 := ⟨_, Try.func36, by kernel_rfl, rfl⟩   -- slices.DeleteFunc[[]int,int]
theorem can37 : B.Can Try.prog 37 := ⟨_, Try.func37, by kernel_rfl, rfl⟩   -- roundhouse/tally.silent[bool]$1
theorem can38 : B.Can Try.prog 38 := ⟨_, Try.func38, by kernel_rfl, rfl⟩   -- roundhouse/tally.silent[int]$1
theorem nodup_take {ns : List Int} (hd : ns.Nodup) {i : Nat} (hi : i < ns.length) : ns.getD i 0 ∉ ns.take i := by
  have h1 : ns.take i ++ ns.drop i = ns := List.take_append_drop i ns
  rw [← h1, List.nodup_append] at hd
  intro hm
  refine hd.2.2 _ hm (ns.getD i 0) ?_ rfl
  have e : ns.drop i = ns.getD i 0 :: ns.drop (i + 1) := by
    rw [List.drop_eq_getElem_cons hi, List.getD_eq_getElem?_getD, List.getElem?_eq_getElem hi]; rfl
  rw [e]
  exact List.mem_cons_self
theorem set_self {α : Type} {cs : List α} {i : Nat} {a : α} (h : cs[i]? = some a) : cs.set i a = cs := by
  apply List.ext_getElem?
  intro j
  rw [List.getElem?_set]
  split
  · rename_i e
    subst e
    rw [h]; simp [(List.getElem?_eq_some_iff.1 h).1]
  · rfl
set_option maxRecDepth 100000 in
set_option maxHeartbeats 1000000 in
theorem silent_bool {W : World} {F : Snap} {cs : List Res} (w : World) (i : Nat) {A : Option Addr} {cap m : Nat} {l : List (Int × Value)} {ns : List Int} {os : List (Option Bool)} (h : St W F cs w) (hi : cs[i]? = some [(m, mobj l)]) (hm : MR .bool F ns os l) (hR : RdS (Kd.one Vi) F A ns) (h0 : 0 < ns.length) (hd : ns.Nodup) (hn : ns.length ≤ 100000) : Calls Try.prog 29 #[.slice A ns.length cap, .map (some m)] w (Gives W F cs Vi (miss ns os))  := by
  refine enter (P := Try.prog) (args := [.slice A ns.length cap, .map (some m)]) Try.func29 rfl rfl rfl ?_
  refine WC.seq ?_
  refine WC.reg ?_
  refine WL.box rfl h rfl ?_
  intro b3 w1 h1
  refine WL.v (Runs.assign rfl) rfl ?_
  refine WL.nil ?_
  refine WN.thn ?_
  refine WC.seq ?_
  refine WC.reg ?_
  refine WL.v (Runs.move rfl) rfl ?_
  refine WL.call can24 rfl rfl (clone_c _ h1 hR h0 hn) ?_
  rintro _ w2 ⟨r2, v2, rfl, hr2, h2⟩
  refine ⟨_, rfl, ?_⟩
  obtain ⟨bc, zs, fz, rfl, rfl, hfz⟩ := hr2.blk h0
  refine WL.v (Runs.makeFunc rfl rfl) rfl ?_
  refine WL.call can36 rfl rfl (del_c _ 37 (.pointer (some ⟨b3, 0, none⟩)) (fun n => ((look n ns os).getD none).isSome) can37 h2 hfz hn (fun r w n hnn hS => by
      obtain ⟨o, ho⟩ := look_mem n hm.len.1 hnn
      have := clos_bool w n (i + 2) 1 hS rfl hi hm ho
      simp only [ho, Option.getD_some]
      exact this)) ?_
  rintro _ w3 ⟨r3, v3, rfl, hr3, h3⟩
  refine ⟨_, rfl, ?_⟩
  refine WL.v (Runs.assign rfl) rfl ?_
  refine WL.nil ?_
  refine WN.thn ?_
  refine WC.ret ?_
  have hr := hr3
  rw [miss_filter hm.len.1 hd] at hr
  exact ret1 rfl rfl (Row.gives hr (h3.drop 1))
set_option maxRecDepth 100000 in
set_option maxHeartbeats 1000000 in
theorem silent_int {W : World} {F : Snap} {cs : List Res} (w : World) (i : Nat) {A : Option Addr} {cap m : Nat} {l : List (Int × Value)} {ns : List Int} {os : List (Option Int)} (h : St W F cs w) (hi : cs[i]? = some [(m, mobj l)]) (hm : MR Vi F ns os l) (hR : RdS (Kd.one Vi) F A ns) (h0 : 0 < ns.length) (hd : ns.Nodup) (hn : ns.length ≤ 100000) : Calls Try.prog 30 #[.slice A ns.length cap, .map (some m)] w (Gives W F cs Vi (miss ns os))  := by
  refine enter (P := Try.prog) (args := [.slice A ns.length cap, .map (some m)]) Try.func30 rfl rfl rfl ?_
  refine WC.seq ?_
  refine WC.reg ?_
  refine WL.box rfl h rfl ?_
  intro b3 w1 h1
  refine WL.v (Runs.assign rfl) rfl ?_
  refine WL.nil ?_
  refine WN.thn ?_
  refine WC.seq ?_
  refine WC.reg ?_
  refine WL.v (Runs.move rfl) rfl ?_
  refine WL.call can24 rfl rfl (clone_c _ h1 hR h0 hn) ?_
  rintro _ w2 ⟨r2, v2, rfl, hr2, h2⟩
  refine ⟨_, rfl, ?_⟩
  obtain ⟨bc, zs, fz, rfl, rfl, hfz⟩ := hr2.blk h0
  refine WL.v (Runs.makeFunc rfl rfl) rfl ?_
  refine WL.call can36 rfl rfl (del_c _ 38 (.pointer (some ⟨b3, 0, none⟩)) (fun n => ((look n ns os).getD none).isSome) can38 h2 hfz hn (fun r w n hnn hS => by
      obtain ⟨o, ho⟩ := look_mem n hm.len.1 hnn
      have := clos_int w n (i + 2) 1 hS rfl hi hm ho
      simp only [ho, Option.getD_some]
      exact this)) ?_
  rintro _ w3 ⟨r3, v3, rfl, hr3, h3⟩
  refine ⟨_, rfl, ?_⟩
  refine WL.v (Runs.assign rfl) rfl ?_
  refine WL.nil ?_
  refine WN.thn ?_
  refine WC.ret ?_
  have hr := hr3
  rw [miss_filter hm.len.1 hd] at hr
  exact ret1 rfl rfl (Row.gives hr (h3.drop 1))
set_option maxRecDepth 100000 in
set_option maxHeartbeats 1000000 in
theorem empty_bool {W : World} {F : Snap} {cs : List Res} (w : World) {A : Option Addr} {cap : Nat} {ns : List Int} (h : St W F cs w) (hR : RdS (Kd.one Vi) F A ns) (h0 : 0 < ns.length) (hd : ns.Nodup) (hn : ns.length ≤ 100000) : Calls Try.prog 25 #[.slice A ns.length cap] w fun e w' => ∃ m l, e = .returned (.map (some m)) ∧ MR (.bool : Bool → Value) F ns (ns.map fun _ => none) l ∧ St W F ([(m, mobj l)] :: cs) w'  := by
  refine enter (P := Try.prog) (args := [.slice A ns.length cap]) Try.func25 rfl rfl rfl ?_
  obtain ⟨ad, rfl, hrd⟩ := rd1 hR h0
  refine WC.seq ?_
  refine WC.reg ?_
  refine WL.v (Runs.assign rfl) rfl ?_
  refine WL.nil ?_
  refine WN.thn ?_
  refine WC.seq ?_
  refine WC.reg ?_
  refine WL.makeMap rfl h ?_
  intro m6 w1 h1
  refine WL.v (Runs.assign rfl) rfl ?_
  refine WL.nil ?_
  refine WN.thn ?_
  refine WC.seq ?_
  refine WC.seq ?_
  refine WC.reg ?_
  refine WL.v (Runs.move rfl) rfl ?_
  refine WL.v (Runs.llen Try.underlying22 rfl rfl) rfl ?_
  refine WL.v (Runs.move rfl) rfl ?_
  refine WL.nil ?_
  refine WN.thn ?_
  refine WC.block ?_
  refine WC.loop (σ := Nat × List (Int × Value)) (fun q_ => [(3, .map (some m6)), (7, .slice (some ad) ns.length cap), (8, .int .i64 (ns.length : Int)), (9, .int .i64 (q_.1 : Int))]) (fun q_ w => q_.1 ≤ ns.length ∧ MR (.bool : Bool → Value) F (ns.take q_.1) ((ns.take q_.1).map fun _ => none) q_.2 ∧ St W F ([(m6, mobj q_.2)] :: cs) w) (fun q_ => ns.length - q_.1) (⟨0, []⟩) (by repeat (first | exact trivial | refine ⟨rfl, ?_⟩)) (⟨by omega, trivial, h1⟩) ?_
  rintro ⟨i, l⟩ w2 ⟨hi, hm, hL⟩
  try dsimp only at hi hm hL
  refine WC.sub (s := [(3, .map (some m6)), (7, .slice (some ad) ns.length cap), (8, .int .i64 (ns.length : Int)), (9, .int .i64 (i : Int))]) (by repeat (first | exact trivial | refine ⟨rfl, ?_⟩)) ?_
  refine WC.seq ?_
  refine WC.reg ?_
  refine WL.v (Runs.lss rfl rfl) rfl ?_
  refine WL.nil ?_
  refine WN.thn ?_
  refine WC.seq ?_
  refine WC.cond rfl (fun c3 => ?_) (fun c3 => ?_)
  · try simp only [decide_eq_true_eq, decide_eq_false_iff_not, Bool.not_eq_true', Bool.not_eq_false', Bool.and_eq_true, Int.not_lt, Int.not_le] at c3
    first
    | (exfalso; omega)
    | skip
      refine WC.skip ?_
      refine WN.thn ?_
      refine WC.seq ?_
      refine WC.block ?_
      refine WC.seq ?_
      refine WC.reg ?_
      refine WL.v (Runs.lidxN Try.underlying22 inf3 rfl rfl (n := i) rfl (by omega)) rfl ?_
      refine WL.v (Runs.loadR (f := Vi) (0 : Int) hL hrd (n := i) (by omega) Try.underlying3 rfl rfl) rfl ?_
      refine WL.v (Runs.assign rfl) rfl ?_
      refine WL.nil ?_
      refine WN.thn ?_
      refine WC.reg ?_
      refine WL.v (Runs.move rfl) rfl ?_
      refine WL.v (Runs.move rfl) rfl ?_
      refine WL.mapSet hL 0 rfl Try.underlying44 Try.underlying3 rfl rfl rfl ?_
      intro  w4 h4
      try simp only [List.set_cons_zero, List.set_cons_succ, List.eraseIdx_cons_zero, List.eraseIdx_cons_succ] at h4
      refine WL.nil ?_
      refine WN.blk ?_
      refine WN.thn ?_
      refine WC.reg ?_
      refine WL.v (Runs.addn rfl rfl (by omega)) rfl ?_
      refine WL.v (Runs.move rfl) rfl ?_
      refine WL.nil ?_
      refine WN.again (⟨i + 1, _⟩ : Nat × List (Int × Value)) (by show ns.length - (i + 1) < ns.length - i; omega) ⟨rfl, rfl, rfl, rfl, trivial⟩ ⟨by show i + 1 ≤ _; omega, ?_, h4⟩
      have := hm.snoc (n := ns.getD i 0) (o := none) (v := .pointer none) rfl (nodup_take hd (by omega))
      show MR _ _ (ns.take (i + 1)) ((ns.take (i + 1)).map fun _ => none) _
      rw [take_nx (by omega), List.map_append]
      exact this
  · try simp only [decide_eq_true_eq, decide_eq_false_iff_not, Bool.not_eq_true', Bool.not_eq_false', Bool.and_eq_true, Int.not_lt, Int.not_le] at c3
    first
    | (exfalso; omega)
    | skip
      refine WC.exit ?_
      refine WX.thn ?_
      refine WX.cut ?_
      refine WX.hit ?_
      refine WN.thn ?_
      refine WC.seq ?_
      refine WC.reg ?_
      refine WL.v (Runs.move rfl) rfl ?_
      refine WL.v (Runs.assign rfl) rfl ?_
      refine WL.nil ?_
      refine WN.thn ?_
      refine WC.ret ?_
      obtain rfl : i = ns.length := by omega
      rw [List.take_of_length_le (Nat.le_refl _)] at hm
      exact ret1 rfl rfl ⟨_, _, rfl, hm, hL⟩
set_option maxRecDepth 100000 in
set_option maxHeartbeats 1000000 in
theorem empty_int {W : World} {F : Snap} {cs : List Res} (w : World) {A : Option Addr} {cap : Nat} {ns : List Int} (h : St W F cs w) (hR : RdS (Kd.one Vi) F A ns) (h0 : 0 < ns.length) (hd : ns.Nodup) (hn : ns.length ≤ 100000) : Calls Try.prog 26 #[.slice A ns.length cap] w fun e w' => ∃ m l, e = .returned (.map (some m)) ∧ MR (Vi : Int → Value) F ns (ns.map fun _ => none) l ∧ St W F ([(m, mobj l)] :: cs) w'  := by
  refine enter (P := Try.prog) (args := [.slice A ns.length cap]) Try.func26 rfl rfl rfl ?_
  obtain ⟨ad, rfl, hrd⟩ := rd1 hR h0
  refine WC.seq ?_
  refine WC.reg ?_
  refine WL.v (Runs.assign rfl) rfl ?_
  refine WL.nil ?_
  refine WN.thn ?_
  refine WC.seq ?_
  refine WC.reg ?_
  refine WL.makeMap rfl h ?_
  intro m6 w1 h1
  refine WL.v (Runs.assign rfl) rfl ?_
  refine WL.nil ?_
  refine WN.thn ?_
  refine WC.seq ?_
  refine WC.seq ?_
  refine WC.reg ?_
  refine WL.v (Runs.move rfl) rfl ?_
  refine WL.v (Runs.llen Try.underlying22 rfl rfl) rfl ?_
  refine WL.v (Runs.move rfl) rfl ?_
  refine WL.nil ?_
  refine WN.thn ?_
  refine WC.block ?_
  refine WC.loop (σ := Nat × List (Int × Value)) (fun q_ => [(3, .map (some m6)), (7, .slice (some ad) ns.length cap), (8, .int .i64 (ns.length : Int)), (9, .int .i64 (q_.1 : Int))]) (fun q_ w => q_.1 ≤ ns.length ∧ MR (Vi : Int → Value) F (ns.take q_.1) ((ns.take q_.1).map fun _ => none) q_.2 ∧ St W F ([(m6, mobj q_.2)] :: cs) w) (fun q_ => ns.length - q_.1) (⟨0, []⟩) (by repeat (first | exact trivial | refine ⟨rfl, ?_⟩)) (⟨by omega, trivial, h1⟩) ?_
  rintro ⟨i, l⟩ w2 ⟨hi, hm, hL⟩
  try dsimp only at hi hm hL
  refine WC.sub (s := [(3, .map (some m6)), (7, .slice (some ad) ns.length cap), (8, .int .i64 (ns.length : Int)), (9, .int .i64 (i : Int))]) (by repeat (first | exact trivial | refine ⟨rfl, ?_⟩)) ?_
  refine WC.seq ?_
  refine WC.reg ?_
  refine WL.v (Runs.lss rfl rfl) rfl ?_
  refine WL.nil ?_
  refine WN.thn ?_
  refine WC.seq ?_
  refine WC.cond rfl (fun c3 => ?_) (fun c3 => ?_)
  · try simp only [decide_eq_true_eq, decide_eq_false_iff_not, Bool.not_eq_true', Bool.not_eq_false', Bool.and_eq_true, Int.not_lt, Int.not_le] at c3
    first
    | (exfalso; omega)
    | skip
      refine WC.skip ?_
      refine WN.thn ?_
      refine WC.seq ?_
      refine WC.block ?_
      refine WC.seq ?_
      refine WC.reg ?_
      refine WL.v (Runs.lidxN Try.underlying22 inf3 rfl rfl (n := i) rfl (by omega)) rfl ?_
      refine WL.v (Runs.loadR (f := Vi) (0 : Int) hL hrd (n := i) (by omega) Try.underlying3 rfl rfl) rfl ?_
      refine WL.v (Runs.assign rfl) rfl ?_
      refine WL.nil ?_
      refine WN.thn ?_
      refine WC.reg ?_
      refine WL.v (Runs.move rfl) rfl ?_
      refine WL.v (Runs.move rfl) rfl ?_
      refine WL.mapSet hL 0 rfl Try.underlying46 Try.underlying3 rfl rfl rfl ?_
      intro  w4 h4
      try simp only [List.set_cons_zero, List.set_cons_succ, List.eraseIdx_cons_zero, List.eraseIdx_cons_succ] at h4
      refine WL.nil ?_
      refine WN.blk ?_
      refine WN.thn ?_
      refine WC.reg ?_
      refine WL.v (Runs.addn rfl rfl (by omega)) rfl ?_
      refine WL.v (Runs.move rfl) rfl ?_
      refine WL.nil ?_
      refine WN.again (⟨i + 1, _⟩ : Nat × List (Int × Value)) (by show ns.length - (i + 1) < ns.length - i; omega) ⟨rfl, rfl, rfl, rfl, trivial⟩ ⟨by show i + 1 ≤ _; omega, ?_, h4⟩
      have := hm.snoc (n := ns.getD i 0) (o := none) (v := .pointer none) rfl (nodup_take hd (by omega))
      show MR _ _ (ns.take (i + 1)) ((ns.take (i + 1)).map fun _ => none) _
      rw [take_nx (by omega), List.map_append]
      exact this
  · try simp only [decide_eq_true_eq, decide_eq_false_iff_not, Bool.not_eq_true', Bool.not_eq_false', Bool.and_eq_true, Int.not_lt, Int.not_le] at c3
    first
    | (exfalso; omega)
    | skip
      refine WC.exit ?_
      refine WX.thn ?_
      refine WX.cut ?_
      refine WX.hit ?_
      refine WN.thn ?_
      refine WC.seq ?_
      refine WC.reg ?_
      refine WL.v (Runs.move rfl) rfl ?_
      refine WL.v (Runs.assign rfl) rfl ?_
      refine WL.nil ?_
      refine WN.thn ?_
      refine WC.ret ?_
      obtain rfl : i = ns.length := by omega
      rw [List.take_of_length_le (Nat.le_refl _)] at hm
      exact ret1 rfl rfl ⟨_, _, rfl, hm, hL⟩
set_option maxRecDepth 100000 in
set_option maxHeartbeats 1000000 in
theorem say_bool_A {W : World} {F : Snap} {cs : List Res} (w : World) (i : Nat) {m : Nat} {l : List (Int × Value)} {ns : List Int} {os : List (Option Bool)} (n : Int) (x y : Bool) (may : Bool) (h : St W F cs w) (hi : cs[i]? = some [(m, mobj l)]) (hm : MR .bool F ns os l) (hl : look n ns os = none) : Calls Try.prog 33 #[.map (some m), Vi n, .bool x, .bool may] w fun e w' => ∃ G l', Le F G ∧ e = .returned (Vi (say ns os n x may).1) ∧ MR .bool G ns (say ns os n x may).2 l' ∧ St W G (cs.set i [(m, mobj l')]) w'  := by
  refine enter (P := Try.prog) (args := [.map (some m), Vi n, .bool x, .bool may]) Try.func33 rfl rfl rfl ?_
  have hf := hm.find n 0
  rw [hl] at hf
  have hlk : (Value.tuple #[((mfind n l 0).map (·.2)).getD (.pointer none), .bool (mfind n l 0).isSome]) = .tuple #[.pointer none, .bool false] := by
    rcases hf with ⟨_, h2⟩ | ⟨_, _, _, h1, _⟩
    · rw [h2]; rfl
    · cases h1
  refine WC.seq ?_
  refine WC.reg ?_
  refine WL.box rfl h rfl ?_
  intro b6 w1 h1
  refine WL.v (Runs.assign rfl) rfl ?_
  refine WL.nil ?_
  refine WN.thn ?_
  refine WC.seq ?_
  refine WC.reg ?_
  refine WL.v (Runs.move rfl) rfl ?_
  refine WL.v (Runs.move rfl) rfl ?_
  refine WL.v (Runs.valT (u := .tuple #[.pointer none, .bool false]) (Runs.lookup2 h1 (i + 1) hi Try.underlying44 Try.underlying3 inf52 rfl rfl) hlk) rfl ?_
  refine WL.v (Runs.move rfl) rfl ?_
  refine WL.v (Runs.extract rfl rfl) rfl ?_
  refine WL.v (Runs.extract rfl rfl) rfl ?_
  refine WL.v (Runs.assign rfl) rfl ?_
  refine WL.v (Runs.assign rfl) rfl ?_
  refine WL.nil ?_
  refine WN.thn ?_
  refine WC.seq ?_
  refine WC.block ?_
  refine WC.seq ?_
  refine WC.reg ?_
  refine WL.v (Runs.move rfl) rfl ?_
  refine WL.v (Runs.not rfl) rfl ?_
  refine WL.v (Runs.assign rfl) rfl ?_
  refine WL.nil ?_
  refine WN.thn ?_
  refine WC.condT rfl (rfl) ?_
  refine WC.seq ?_
  refine WC.reg ?_
  refine WL.v (Runs.assign rfl) rfl ?_
  refine WL.nil ?_
  refine WN.thn ?_
  refine WC.ret ?_
  refine ret1 rfl rfl ⟨F, l, Le.refl _, ?_, ?_, by rw [set_self hi]; exact h1.drop 0⟩
  · simp [say, hl]
  · simp only [say, hl]; exact hm
set_option maxRecDepth 100000 in
set_option maxHeartbeats 1000000 in
theorem say_bool_B {W : World} {F : Snap} {cs : List Res} (w : World) (i : Nat) {m : Nat} {l : List (Int × Value)} {ns : List Int} {os : List (Option Bool)} (n : Int) (x y : Bool) (may : Bool) (h : St W F cs w) (hi : cs[i]? = some [(m, mobj l)]) (hm : MR .bool F ns os l) (hl : look n ns os = some (some y)) (hy : y = x) : Calls Try.prog 33 #[.map (some m), Vi n, .bool x, .bool may] w fun e w' => ∃ G l', Le F G ∧ e = .returned (Vi (say ns os n x may).1) ∧ MR .bool G ns (say ns os n x may).2 l' ∧ St W G (cs.set i [(m, mobj l')]) w'  := by
  refine enter (P := Try.prog) (args := [.map (some m), Vi n, .bool x, .bool may]) Try.func33 rfl rfl rfl ?_
  have hf := hm.find n 0
  rw [hl] at hf
  obtain ⟨ay, hlk, hay⟩ : ∃ a, (Value.tuple #[((mfind n l 0).map (·.2)).getD (.pointer none), .bool (mfind n l 0).isSome]) = .tuple #[.pointer (some a), .bool true] ∧ cellF F a = some (.bool y) := by
    rcases hf with ⟨h1, _⟩ | ⟨_, _, _, h1, h2, h3⟩
    · cases h1
    · cases h1
      obtain ⟨a, rfl, h5⟩ := h3
      exact ⟨a, by rw [h2]; rfl, h5⟩
  subst hy
  refine WC.seq ?_
  refine WC.reg ?_
  refine WL.box rfl h rfl ?_
  intro b6 w1 h1
  refine WL.v (Runs.assign rfl) rfl ?_
  refine WL.nil ?_
  refine WN.thn ?_
  refine WC.seq ?_
  refine WC.reg ?_
  refine WL.v (Runs.move rfl) rfl ?_
  refine WL.v (Runs.move rfl) rfl ?_
  refine WL.v (Runs.valT (u := .tuple #[.pointer (some ay), .bool true]) (Runs.lookup2 h1 (i + 1) hi Try.underlying44 Try.underlying3 inf52 rfl rfl) hlk) rfl ?_
  refine WL.v (Runs.move rfl) rfl ?_
  refine WL.v (Runs.extract rfl rfl) rfl ?_
  refine WL.v (Runs.extract rfl rfl) rfl ?_
  refine WL.v (Runs.assign rfl) rfl ?_
  refine WL.v (Runs.assign rfl) rfl ?_
  refine WL.nil ?_
  refine WN.thn ?_
  refine WC.seq ?_
  refine WC.block ?_
  refine WC.seq ?_
  refine WC.reg ?_
  refine WL.v (Runs.move rfl) rfl ?_
  refine WL.v (Runs.not rfl) rfl ?_
  refine WL.v (Runs.assign rfl) rfl ?_
  refine WL.nil ?_
  refine WN.thn ?_
  refine WC.condF rfl (rfl) ?_
  refine WC.seq ?_
  refine WC.qreg (C := fun w_ => St W F _ w_) mixed (by kernel_rfl) (h1.drew) ?_
  refine WQ.val (fun w_ hC_ => Runs.move rfl) rfl ?_
  refine WQ.val (fun w_ hC_ => Runs.pneq Try.underlying52 rfl rfl) rfl ?_
  refine WQ.val (fun w_ hC_ => Runs.move rfl) rfl ?_
  refine WQ.gon rfl rfl rfl ?_
  refine WQ.val (fun w_ hC_ => Runs.move rfl) rfl ?_
  refine WQ.gon rfl rfl rfl ?_
  refine WQ.val (fun w_ hC_ => Runs.nilCheckP rfl) rfl ?_
  refine WQ.gon rfl rfl rfl ?_
  refine WQ.val (fun w_ hC_ => Runs.load1 Try.underlying4 rfl rfl (hC_.cell hay)) rfl ?_
  refine WQ.gon rfl rfl rfl ?_
  refine WQ.val (fun w_ hC_ => Runs.load1 Try.underlying4 rfl rfl (hC_.ocell (i := 0) rfl rfl)) rfl ?_
  refine WQ.gon rfl rfl rfl ?_
  refine WQ.val (fun w_ hC_ => Runs.boolT (c := true) (Runs.eqlb Try.underlying4 rfl rfl) (by simp)) rfl ?_
  refine WQ.val (fun w_ hC_ => Runs.pick rfl rfl rfl) rfl ?_
  refine WQ.val (fun w_ hC_ => Runs.assign rfl) rfl ?_
  refine WQ.fin ?_
  intro w2 h2
  refine WN.thn ?_
  refine WC.condT rfl (rfl) ?_
  refine WC.seq ?_
  refine WC.reg ?_
  refine WL.v (Runs.assign rfl) rfl ?_
  refine WL.nil ?_
  refine WN.thn ?_
  refine WC.ret ?_
  refine ret1 rfl rfl ⟨F, l, Le.refl _, ?_, ?_, by rw [set_self hi]; exact h2.drop 0⟩
  · simp [say, hl, if_true]
  · simp only [say, hl, if_true]; exact hm
set_option maxRecDepth 100000 in
set_option maxHeartbeats 1000000 in
theorem say_bool_C {W : World} {F : Snap} {cs : List Res} (w : World) (i : Nat) {m : Nat} {l : List (Int × Value)} {ns : List Int} {os : List (Option Bool)} (n : Int) (x y : Bool) (may : Bool) (h : St W F cs w) (hi : cs[i]? = some [(m, mobj l)]) (hm : MR .bool F ns os l) (hl : look n ns os = some (some y)) (hy : y ≠ x) : Calls Try.prog 33 #[.map (some m), Vi n, .bool x, .bool may] w fun e w' => ∃ G l', Le F G ∧ e = .returned (Vi (say ns os n x may).1) ∧ MR .bool G ns (say ns os n x may).2 l' ∧ St W G (cs.set i [(m, mobj l')]) w'  := by
  refine enter (P := Try.prog) (args := [.map (some m), Vi n, .bool x, .bool may]) Try.func33 rfl rfl rfl ?_
  have hf := hm.find n 0
  rw [hl] at hf
  obtain ⟨ay, hlk, hay⟩ : ∃ a, (Value.tuple #[((mfind n l 0).map (·.2)).getD (.pointer none), .bool (mfind n l 0).isSome]) = .tuple #[.pointer (some a), .bool true] ∧ cellF F a = some (.bool y) := by
    rcases hf with ⟨h1, _⟩ | ⟨_, _, _, h1, h2, h3⟩
    · cases h1
    · cases h1
      obtain ⟨a, rfl, h5⟩ := h3
      exact ⟨a, by rw [h2]; rfl, h5⟩
  refine WC.seq ?_
  refine WC.reg ?_
  refine WL.box rfl h rfl ?_
  intro b6 w1 h1
  refine WL.v (Runs.assign rfl) rfl ?_
  refine WL.nil ?_
  refine WN.thn ?_
  refine WC.seq ?_
  refine WC.reg ?_
  refine WL.v (Runs.move rfl) rfl ?_
  refine WL.v (Runs.move rfl) rfl ?_
  refine WL.v (Runs.valT (u := .tuple #[.pointer (some ay), .bool true]) (Runs.lookup2 h1 (i + 1) hi Try.underlying44 Try.underlying3 inf52 rfl rfl) hlk) rfl ?_
  refine WL.v (Runs.move rfl) rfl ?_
  refine WL.v (Runs.extract rfl rfl) rfl ?_
  refine WL.v (Runs.extract rfl rfl) rfl ?_
  refine WL.v (Runs.assign rfl) rfl ?_
  refine WL.v (Runs.assign rfl) rfl ?_
  refine WL.nil ?_
  refine WN.thn ?_
  refine WC.seq ?_
  refine WC.block ?_
  refine WC.seq ?_
  refine WC.reg ?_
  refine WL.v (Runs.move rfl) rfl ?_
  refine WL.v (Runs.not rfl) rfl ?_
  refine WL.v (Runs.assign rfl) rfl ?_
  refine WL.nil ?_
  refine WN.thn ?_
  refine WC.condF rfl (rfl) ?_
  refine WC.seq ?_
  refine WC.qreg (C := fun w_ => St W F _ w_) mixed (by kernel_rfl) (h1.drew) ?_
  refine WQ.val (fun w_ hC_ => Runs.move rfl) rfl ?_
  refine WQ.val (fun w_ hC_ => Runs.pneq Try.underlying52 rfl rfl) rfl ?_
  refine WQ.val (fun w_ hC_ => Runs.move rfl) rfl ?_
  refine WQ.gon rfl rfl rfl ?_
  refine WQ.val (fun w_ hC_ => Runs.move rfl) rfl ?_
  refine WQ.gon rfl rfl rfl ?_
  refine WQ.val (fun w_ hC_ => Runs.nilCheckP rfl) rfl ?_
  refine WQ.gon rfl rfl rfl ?_
  refine WQ.val (fun w_ hC_ => Runs.load1 Try.underlying4 rfl rfl (hC_.cell hay)) rfl ?_
  refine WQ.gon rfl rfl rfl ?_
  refine WQ.val (fun w_ hC_ => Runs.load1 Try.underlying4 rfl rfl (hC_.ocell (i := 0) rfl rfl)) rfl ?_
  refine WQ.gon rfl rfl rfl ?_
  refine WQ.val (fun w_ hC_ => Runs.boolT (c := false) (Runs.eqlb Try.underlying4 rfl rfl) (by simp [hy])) rfl ?_
  refine WQ.val (fun w_ hC_ => Runs.pick rfl rfl rfl) rfl ?_
  refine WQ.val (fun w_ hC_ => Runs.assign rfl) rfl ?_
  refine WQ.fin ?_
  intro w2 h2
  refine WN.thn ?_
  refine WC.condF rfl (rfl) ?_
  refine WC.seq ?_
  refine WC.reg ?_
  refine WL.v (Runs.move rfl) rfl ?_
  refine WL.v (Runs.pneq Try.underlying52 rfl rfl) rfl ?_
  refine WL.v (Runs.move rfl) rfl ?_
  refine WL.goff rfl rfl rfl rfl ?_
  refine WL.goff rfl rfl rfl rfl ?_
  refine WL.v (Runs.pick rfl rfl rfl) rfl ?_
  refine WL.v (Runs.assign rfl) rfl ?_
  refine WL.nil ?_
  refine WN.thn ?_
  refine WC.condT rfl (rfl) ?_
  refine WC.seq ?_
  refine WC.reg ?_
  refine WL.v (Runs.assign rfl) rfl ?_
  refine WL.nil ?_
  refine WN.thn ?_
  refine WC.ret ?_
  refine ret1 rfl rfl ⟨F, l, Le.refl _, ?_, ?_, by rw [set_self hi]; exact h2.drop 0⟩
  · simp [say, hl, hy]
  · simp only [say, hl, hy, if_false]; exact hm
set_option maxRecDepth 100000 in
set_option maxHeartbeats 1000000 in
theorem say_bool_D {W : World} {F : Snap} {cs : List Res} (w : World) (i : Nat) {m : Nat} {l : List (Int × Value)} {ns : List Int} {os : List (Option Bool)} (n : Int) (x y : Bool) (may : Bool) (h : St W F cs w) (hi : cs[i]? = some [(m, mobj l)]) (hm : MR .bool F ns os l) (hl : look n ns os = some none) (hmay : may = false) : Calls Try.prog 33 #[.map (some m), Vi n, .bool x, .bool may] w fun e w' => ∃ G l', Le F G ∧ e = .returned (Vi (say ns os n x may).1) ∧ MR .bool G ns (say ns os n x may).2 l' ∧ St W G (cs.set i [(m, mobj l')]) w'  := by
  refine enter (P := Try.prog) (args := [.map (some m), Vi n, .bool x, .bool may]) Try.func33 rfl rfl rfl ?_
  have hf := hm.find n 0
  rw [hl] at hf
  obtain ⟨hlk, _⟩ : (Value.tuple #[((mfind n l 0).map (·.2)).getD (.pointer none), .bool (mfind n l 0).isSome]) = .tuple #[.pointer none, .bool true] ∧ True := by
    rcases hf with ⟨h1, _⟩ | ⟨_, _, _, h1, h2, h3⟩
    · cases h1
    · cases h1
      exact ⟨by rw [h2]; cases h3; rfl, trivial⟩
  subst hmay
  refine WC.seq ?_
  refine WC.reg ?_
  refine WL.box rfl h rfl ?_
  intro b6 w1 h1
  refine WL.v (Runs.assign rfl) rfl ?_
  refine WL.nil ?_
  refine WN.thn ?_
  refine WC.seq ?_
  refine WC.reg ?_
  refine WL.v (Runs.move rfl) rfl ?_
  refine WL.v (Runs.move rfl) rfl ?_
  refine WL.v (Runs.valT (u := .tuple #[.pointer none, .bool true]) (Runs.lookup2 h1 (i + 1) hi Try.underlying44 Try.underlying3 inf52 rfl rfl) hlk) rfl ?_
  refine WL.v (Runs.move rfl) rfl ?_
  refine WL.v (Runs.extract rfl rfl) rfl ?_
  refine WL.v (Runs.extract rfl rfl) rfl ?_
  refine WL.v (Runs.assign rfl) rfl ?_
  refine WL.v (Runs.assign rfl) rfl ?_
  refine WL.nil ?_
  refine WN.thn ?_
  refine WC.seq ?_
  refine WC.block ?_
  refine WC.seq ?_
  refine WC.reg ?_
  refine WL.v (Runs.move rfl) rfl ?_
  refine WL.v (Runs.not rfl) rfl ?_
  refine WL.v (Runs.assign rfl) rfl ?_
  refine WL.nil ?_
  refine WN.thn ?_
  refine WC.condF rfl (rfl) ?_
  refine WC.seq ?_
  refine WC.qreg (C := fun w_ => St W F _ w_) mixed (by kernel_rfl) (h1.drew) ?_
  refine WQ.val (fun w_ hC_ => Runs.move rfl) rfl ?_
  refine WQ.val (fun w_ hC_ => Runs.pneq Try.underlying52 rfl rfl) rfl ?_
  refine WQ.val (fun w_ hC_ => Runs.move rfl) rfl ?_
  refine WQ.goff rfl rfl rfl rfl ?_
  refine WQ.goff rfl rfl rfl rfl ?_
  refine WQ.goff rfl rfl rfl rfl ?_
  refine WQ.goff rfl rfl rfl rfl ?_
  refine WQ.goff rfl rfl rfl rfl ?_
  refine WQ.val (fun w_ hC_ => Runs.pick rfl rfl rfl) rfl ?_
  refine WQ.val (fun w_ hC_ => Runs.assign rfl) rfl ?_
  refine WQ.fin ?_
  intro w2 h2
  refine WN.thn ?_
  refine WC.condF rfl (rfl) ?_
  refine WC.seq ?_
  refine WC.reg ?_
  refine WL.v (Runs.move rfl) rfl ?_
  refine WL.v (Runs.pneq Try.underlying52 rfl rfl) rfl ?_
  refine WL.v (Runs.move rfl) rfl ?_
  refine WL.gon rfl rfl rfl ?_
  refine WL.v (Runs.move rfl) rfl ?_
  refine WL.gon rfl rfl rfl ?_
  refine WL.v (Runs.not rfl) rfl ?_
  refine WL.v (Runs.pick rfl rfl rfl) rfl ?_
  refine WL.v (Runs.assign rfl) rfl ?_
  refine WL.nil ?_
  refine WN.thn ?_
  refine WC.condT rfl (rfl) ?_
  refine WC.seq ?_
  refine WC.reg ?_
  refine WL.v (Runs.assign rfl) rfl ?_
  refine WL.nil ?_
  refine WN.thn ?_
  refine WC.ret ?_
  refine ret1 rfl rfl ⟨F, l, Le.refl _, ?_, ?_, by rw [set_self hi]; exact h2.drop 0⟩
  · simp [say, hl]
  · simp only [say, hl, Bool.false_eq_true, if_false]; exact hm
set_option maxRecDepth 100000 in
set_option maxHeartbeats 1000000 in
theorem say_bool_E {W : World} {F : Snap} {cs : List Res} (w : World) (i : Nat) {m : Nat} {l : List (Int × Value)} {ns : List Int} {os : List (Option Bool)} (n : Int) (x y : Bool) (may : Bool) (h : St W F cs w) (hi : cs[i]? = some [(m, mobj l)]) (hm : MR .bool F ns os l) (hl : look n ns os = some none) (hmay : may = true) : Calls Try.prog 33 #[.map (some m), Vi n, .bool x, .bool may] w fun e w' => ∃ G l', Le F G ∧ e = .returned (Vi (say ns os n x may).1) ∧ MR .bool G ns (say ns os n x may).2 l' ∧ St W G (cs.set i [(m, mobj l')]) w'  := by
  refine enter (P := Try.prog) (args := [.map (some m), Vi n, .bool x, .bool may]) Try.func33 rfl rfl rfl ?_
  have hf := hm.find n 0
  rw [hl] at hf
  obtain ⟨hlk, _⟩ : (Value.tuple #[((mfind n l 0).map (·.2)).getD (.pointer none), .bool (mfind n l 0).isSome]) = .tuple #[.pointer none, .bool true] ∧ True := by
    rcases hf with ⟨h1, _⟩ | ⟨_, _, _, h1, h2, h3⟩
    · cases h1
    · cases h1
      exact ⟨by rw [h2]; cases h3; rfl, trivial⟩
  subst hmay
  refine WC.seq ?_
  refine WC.reg ?_
  refine WL.box rfl h rfl ?_
  intro b6 w1 h1
  refine WL.v (Runs.assign rfl) rfl ?_
  refine WL.nil ?_
  refine WN.thn ?_
  refine WC.seq ?_
  refine WC.reg ?_
  refine WL.v (Runs.move rfl) rfl ?_
  refine WL.v (Runs.move rfl) rfl ?_
  refine WL.v (Runs.valT (u := .tuple #[.pointer none, .bool true]) (Runs.lookup2 h1 (i + 1) hi Try.underlying44 Try.underlying3 inf52 rfl rfl) hlk) rfl ?_
  refine WL.v (Runs.move rfl) rfl ?_
  refine WL.v (Runs.extract rfl rfl) rfl ?_
  refine WL.v (Runs.extract rfl rfl) rfl ?_
  refine WL.v (Runs.assign rfl) rfl ?_
  refine WL.v (Runs.assign rfl) rfl ?_
  refine WL.nil ?_
  refine WN.thn ?_
  refine WC.seq ?_
  refine WC.block ?_
  refine WC.seq ?_
  refine WC.reg ?_
  refine WL.v (Runs.move rfl) rfl ?_
  refine WL.v (Runs.not rfl) rfl ?_
  refine WL.v (Runs.assign rfl) rfl ?_
  refine WL.nil ?_
  refine WN.thn ?_
  refine WC.condF rfl (rfl) ?_
  refine WC.seq ?_
  refine WC.qreg (C := fun w_ => St W F _ w_) mixed (by kernel_rfl) (h1.drew) ?_
  refine WQ.val (fun w_ hC_ => Runs.move rfl) rfl ?_
  refine WQ.val (fun w_ hC_ => Runs.pneq Try.underlying52 rfl rfl) rfl ?_
  refine WQ.val (fun w_ hC_ => Runs.move rfl) rfl ?_
  refine WQ.goff rfl rfl rfl rfl ?_
  refine WQ.goff rfl rfl rfl rfl ?_
  refine WQ.goff rfl rfl rfl rfl ?_
  refine WQ.goff rfl rfl rfl rfl ?_
  refine WQ.goff rfl rfl rfl rfl ?_
  refine WQ.val (fun w_ hC_ => Runs.pick rfl rfl rfl) rfl ?_
  refine WQ.val (fun w_ hC_ => Runs.assign rfl) rfl ?_
  refine WQ.fin ?_
  intro w2 h2
  refine WN.thn ?_
  refine WC.condF rfl (rfl) ?_
  refine WC.seq ?_
  refine WC.reg ?_
  refine WL.v (Runs.move rfl) rfl ?_
  refine WL.v (Runs.pneq Try.underlying52 rfl rfl) rfl ?_
  refine WL.v (Runs.move rfl) rfl ?_
  refine WL.gon rfl rfl rfl ?_
  refine WL.v (Runs.move rfl) rfl ?_
  refine WL.gon rfl rfl rfl ?_
  refine WL.v (Runs.not rfl) rfl ?_
  refine WL.v (Runs.pick rfl rfl rfl) rfl ?_
  refine WL.v (Runs.assign rfl) rfl ?_
  refine WL.nil ?_
  refine WN.thn ?_
  refine WC.condF rfl (rfl) ?_
  refine WC.skip ?_
  refine WN.blk ?_
  refine WN.thn ?_
  refine WC.seq ?_
  refine WC.reg ?_
  refine WL.v (Runs.move rfl) rfl ?_
  refine WL.v (Runs.move rfl) rfl ?_
  refine WL.mapSet h2 (i + 1) hi Try.underlying44 Try.underlying3 rfl rfl rfl ?_
  intro  w3 h3
  try simp only [List.set_cons_zero, List.set_cons_succ, List.eraseIdx_cons_zero, List.eraseIdx_cons_succ] at h3
  refine WL.nil ?_
  refine WN.thn ?_
  refine WC.seq ?_
  refine WC.reg ?_
  refine WL.v (Runs.assign rfl) rfl ?_
  refine WL.nil ?_
  refine WN.thn ?_
  refine WC.ret ?_
  obtain ⟨G, g1, g2, g3⟩ := h3.freeze (i := 0) rfl
  have hc : cellF G ⟨b6, 0, none⟩ = some (.bool x) := by
    have := g2 _ (List.mem_cons_self)
    unfold cellF
    simp only [this]
    rfl
  refine ret1 rfl rfl ⟨G, _, g1, ?_, ?_, g3⟩
  · simp [say, hl]
  · simp only [say, hl, if_true]
    exact (hm.mono g1).put ⟨_, rfl, hc⟩ (by rw [hl]; rfl)
theorem say_bool {W : World} {F : Snap} {cs : List Res} (w : World) (i : Nat) {m : Nat} {l : List (Int × Value)} {ns : List Int} {os : List (Option Bool)} (n : Int) (x : Bool) (may : Bool) (h : St W F cs w) (hi : cs[i]? = some [(m, mobj l)]) (hm : MR .bool F ns os l) : Calls Try.prog 33 #[.map (some m), Vi n, .bool x, .bool may] w fun e w' => ∃ G l', Le F G ∧ e = .returned (Vi (say ns os n x may).1) ∧ MR .bool G ns (say ns os n x may).2 l' ∧ St W G (cs.set i [(m, mobj l')]) w' := by
  cases hl : look n ns os with
  | none => exact say_bool_A w i n x x may h hi hm hl
  | some o =>
    cases o with
    | none =>
      cases may
      · exact say_bool_D w i n x x false h hi hm hl rfl
      · exact say_bool_E w i n x x true h hi hm hl rfl
    | some y =>
      by_cases hy : y = x
      · exact say_bool_B w i n x y may h hi hm hl hy
      · exact say_bool_C w i n x y may h hi hm hl hy
set_option maxRecDepth 100000 in
set_option maxHeartbeats 1000000 in
theorem say_int_A {W : World} {F : Snap} {cs : List Res} (w : World) (i : Nat) {m : Nat} {l : List (Int × Value)} {ns : List Int} {os : List (Option Int)} (n : Int) (x y : Int) (may : Bool) (h : St W F cs w) (hi : cs[i]? = some [(m, mobj l)]) (hm : MR Vi F ns os l) (hl : look n ns os = none) : Calls Try.prog 34 #[.map (some m), Vi n, Vi x, .bool may] w fun e w' => ∃ G l', Le F G ∧ e = .returned (Vi (say ns os n x may).1) ∧ MR Vi G ns (say ns os n x may).2 l' ∧ St W G (cs.set i [(m, mobj l')]) w'  := by
  refine enter (P := Try.prog) (args := [.map (some m), Vi n, Vi x, .bool may]) Try.func34 rfl rfl rfl ?_
  have hf := hm.find n 0
  rw [hl] at hf
  have hlk : (Value.tuple #[((mfind n l 0).map (·.2)).getD (.pointer none), .bool (mfind n l 0).isSome]) = .tuple #[.pointer none, .bool false] := by
    rcases hf with ⟨_, h2⟩ | ⟨_, _, _, h1, _⟩
    · rw [h2]; rfl
    · cases h1
  refine WC.seq ?_
  refine WC.reg ?_
  refine WL.box rfl h rfl ?_
  intro b6 w1 h1
  refine WL.v (Runs.assign rfl) rfl ?_
  refine WL.nil ?_
  refine WN.thn ?_
  refine WC.seq ?_
  refine WC.reg ?_
  refine WL.v (Runs.move rfl) rfl ?_
  refine WL.v (Runs.move rfl) rfl ?_
  refine WL.v (Runs.valT (u := .tuple #[.pointer none, .bool false]) (Runs.lookup2 h1 (i + 1) hi Try.underlying46 Try.underlying3 inf56 rfl rfl) hlk) rfl ?_
  refine WL.v (Runs.move rfl) rfl ?_
  refine WL.v (Runs.extract rfl rfl) rfl ?_
  refine WL.v (Runs.extract rfl rfl) rfl ?_
  refine WL.v (Runs.assign rfl) rfl ?_
  refine WL.v (Runs.assign rfl) rfl ?_
  refine WL.nil ?_
  refine WN.thn ?_
  refine WC.seq ?_
  refine WC.block ?_
  refine WC.seq ?_
  refine WC.reg ?_
  refine WL.v (Runs.move rfl) rfl ?_
  refine WL.v (Runs.not rfl) rfl ?_
  refine WL.v (Runs.assign rfl) rfl ?_
  refine WL.nil ?_
  refine WN.thn ?_
  refine WC.condT rfl (rfl) ?_
  refine WC.seq ?_
  refine WC.reg ?_
  refine WL.v (Runs.assign rfl) rfl ?_
  refine WL.nil ?_
  refine WN.thn ?_
  refine WC.ret ?_
  refine ret1 rfl rfl ⟨F, l, Le.refl _, ?_, ?_, by rw [set_self hi]; exact h1.drop 0⟩
  · simp [say, hl]
  · simp only [say, hl]; exact hm
set_option maxRecDepth 100000 in
set_option maxHeartbeats 1000000 in
theorem say_int_B {W : World} {F : Snap} {cs : List Res} (w : World) (i : Nat) {m : Nat} {l : List (Int × Value)} {ns : List Int} {os : List (Option Int)} (n : Int) (x y : Int) (may : Bool) (h : St W F cs w) (hi : cs[i]? = some [(m, mobj l)]) (hm : MR Vi F ns os l) (hl : look n ns os = some (some y)) (hy : y = x) : Calls Try.prog 34 #[.map (some m), Vi n, Vi x, .bool may] w fun e w' => ∃ G l', Le F G ∧ e = .returned (Vi (say ns os n x may).1) ∧ MR Vi G ns (say ns os n x may).2 l' ∧ St W G (cs.set i [(m, mobj l')]) w'  := by
  refine enter (P := Try.prog) (args := [.map (some m), Vi n, Vi x, .bool may]) Try.func34 rfl rfl rfl ?_
  have hf := hm.find n 0
  rw [hl] at hf
  obtain ⟨ay, hlk, hay⟩ : ∃ a, (Value.tuple #[((mfind n l 0).map (·.2)).getD (.pointer none), .bool (mfind n l 0).isSome]) = .tuple #[.pointer (some a), .bool true] ∧ cellF F a = some (Vi y) := by
    rcases hf with ⟨h1, _⟩ | ⟨_, _, _, h1, h2, h3⟩
    · cases h1
    · cases h1
      obtain ⟨a, rfl, h5⟩ := h3
      exact ⟨a, by rw [h2]; rfl, h5⟩
  subst hy
  refine WC.seq ?_
  refine WC.reg ?_
  refine WL.box rfl h rfl ?_
  intro b6 w1 h1
  refine WL.v (Runs.assign rfl) rfl ?_
  refine WL.nil ?_
  refine WN.thn ?_
  refine WC.seq ?_
  refine WC.reg ?_
  refine WL.v (Runs.move rfl) rfl ?_
  refine WL.v (Runs.move rfl) rfl ?_
  refine WL.v (Runs.valT (u := .tuple #[.pointer (some ay), .bool true]) (Runs.lookup2 h1 (i + 1) hi Try.underlying46 Try.underlying3 inf56 rfl rfl) hlk) rfl ?_
  refine WL.v (Runs.move rfl) rfl ?_
  refine WL.v (Runs.extract rfl rfl) rfl ?_
  refine WL.v (Runs.extract rfl rfl) rfl ?_
  refine WL.v (Runs.assign rfl) rfl ?_
  refine WL.v (Runs.assign rfl) rfl ?_
  refine WL.nil ?_
  refine WN.thn ?_
  refine WC.seq ?_
  refine WC.block ?_
  refine WC.seq ?_
  refine WC.reg ?_
  refine WL.v (Runs.move rfl) rfl ?_
  refine WL.v (Runs.not rfl) rfl ?_
  refine WL.v (Runs.assign rfl) rfl ?_
  refine WL.nil ?_
  refine WN.thn ?_
  refine WC.condF rfl (rfl) ?_
  refine WC.seq ?_
  refine WC.qreg (C := fun w_ => St W F _ w_) mixed (by kernel_rfl) (h1.drew) ?_
  refine WQ.val (fun w_ hC_ => Runs.move rfl) rfl ?_
  refine WQ.val (fun w_ hC_ => Runs.pneq Try.underlying56 rfl rfl) rfl ?_
  refine WQ.val (fun w_ hC_ => Runs.move rfl) rfl ?_
  refine WQ.gon rfl rfl rfl ?_
  refine WQ.val (fun w_ hC_ => Runs.move rfl) rfl ?_
  refine WQ.gon rfl rfl rfl ?_
  refine WQ.val (fun w_ hC_ => Runs.nilCheckP rfl) rfl ?_
  refine WQ.gon rfl rfl rfl ?_
  refine WQ.val (fun w_ hC_ => Runs.load1 Try.underlying3 rfl rfl (hC_.cell hay)) rfl ?_
  refine WQ.gon rfl rfl rfl ?_
  refine WQ.val (fun w_ hC_ => Runs.load1 Try.underlying3 rfl rfl (hC_.ocell (i := 0) rfl rfl)) rfl ?_
  refine WQ.gon rfl rfl rfl ?_
  refine WQ.val (fun w_ hC_ => Runs.boolT (c := true) (Runs.eql rfl rfl) (by simp)) rfl ?_
  refine WQ.val (fun w_ hC_ => Runs.pick rfl rfl rfl) rfl ?_
  refine WQ.val (fun w_ hC_ => Runs.assign rfl) rfl ?_
  refine WQ.fin ?_
  intro w2 h2
  refine WN.thn ?_
  refine WC.condT rfl (rfl) ?_
  refine WC.seq ?_
  refine WC.reg ?_
  refine WL.v (Runs.assign rfl) rfl ?_
  refine WL.nil ?_
  refine WN.thn ?_
  refine WC.ret ?_
  refine ret1 rfl rfl ⟨F, l, Le.refl _, ?_, ?_, by rw [set_self hi]; exact h2.drop 0⟩
  · simp [say, hl, if_true]
  · simp only [say, hl, if_true]; exact hm
set_option maxRecDepth 100000 in
set_option maxHeartbeats 1000000 in
theorem say_int_C {W : World} {F : Snap} {cs : List Res} (w : World) (i : Nat) {m : Nat} {l : List (Int × Value)} {ns : List Int} {os : List (Option Int)} (n : Int) (x y : Int) (may : Bool) (h : St W F cs w) (hi : cs[i]? = some [(m, mobj l)]) (hm : MR Vi F ns os l) (hl : look n ns os = some (some y)) (hy : y ≠ x) : Calls Try.prog 34 #[.map (some m), Vi n, Vi x, .bool may] w fun e w' => ∃ G l', Le F G ∧ e = .returned (Vi (say ns os n x may).1) ∧ MR Vi G ns (say ns os n x may).2 l' ∧ St W G (cs.set i [(m, mobj l')]) w'  := by
  refine enter (P := Try.prog) (args := [.map (some m), Vi n, Vi x, .bool may]) Try.func34 rfl rfl rfl ?_
  have hf := hm.find n 0
  rw [hl] at hf
  obtain ⟨ay, hlk, hay⟩ : ∃ a, (Value.tuple #[((mfind n l 0).map (·.2)).getD (.pointer none), .bool (mfind n l 0).isSome]) = .tuple #[.pointer (some a), .bool true] ∧ cellF F a = some (Vi y) := by
    rcases hf with ⟨h1, _⟩ | ⟨_, _, _, h1, h2, h3⟩
    · cases h1
    · cases h1
      obtain ⟨a, rfl, h5⟩ := h3
      exact ⟨a, by rw [h2]; rfl, h5⟩
  refine WC.seq ?_
  refine WC.reg ?_
  refine WL.box rfl h rfl ?_
  intro b6 w1 h1
  refine WL.v (Runs.assign rfl) rfl ?_
  refine WL.nil ?_
  refine WN.thn ?_
  refine WC.seq ?_
  refine WC.reg ?_
  refine WL.v (Runs.move rfl) rfl ?_
  refine WL.v (Runs.move rfl) rfl ?_
  refine WL.v (Runs.valT (u := .tuple #[.pointer (some ay), .bool true]) (Runs.lookup2 h1 (i + 1) hi Try.underlying46 Try.underlying3 inf56 rfl rfl) hlk) rfl ?_
  refine WL.v (Runs.move rfl) rfl ?_
  refine WL.v (Runs.extract rfl rfl) rfl ?_
  refine WL.v (Runs.extract rfl rfl) rfl ?_
  refine WL.v (Runs.assign rfl) rfl ?_
  refine WL.v (Runs.assign rfl) rfl ?_
  refine WL.nil ?_
  refine WN.thn ?_
  refine WC.seq ?_
  refine WC.block ?_
  refine WC.seq ?_
  refine WC.reg ?_
  refine WL.v (Runs.move rfl) rfl ?_
  refine WL.v (Runs.not rfl) rfl ?_
  refine WL.v (Runs.assign rfl) rfl ?_
  refine WL.nil ?_
  refine WN.thn ?_
  refine WC.condF rfl (rfl) ?_
  refine WC.seq ?_
  refine WC.qreg (C := fun w_ => St W F _ w_) mixed (by kernel_rfl) (h1.drew) ?_
  refine WQ.val (fun w_ hC_ => Runs.move rfl) rfl ?_
  refine WQ.val (fun w_ hC_ => Runs.pneq Try.underlying56 rfl rfl) rfl ?_
  refine WQ.val (fun w_ hC_ => Runs.move rfl) rfl ?_
  refine WQ.gon rfl rfl rfl ?_
  refine WQ.val (fun w_ hC_ => Runs.move rfl) rfl ?_
  refine WQ.gon rfl rfl rfl ?_
  refine WQ.val (fun w_ hC_ => Runs.nilCheckP rfl) rfl ?_
  refine WQ.gon rfl rfl rfl ?_
  refine WQ.val (fun w_ hC_ => Runs.load1 Try.underlying3 rfl rfl (hC_.cell hay)) rfl ?_
  refine WQ.gon rfl rfl rfl ?_
  refine WQ.val (fun w_ hC_ => Runs.load1 Try.underlying3 rfl rfl (hC_.ocell (i := 0) rfl rfl)) rfl ?_
  refine WQ.gon rfl rfl rfl ?_
  refine WQ.val (fun w_ hC_ => Runs.boolT (c := false) (Runs.eql rfl rfl) (by simp [hy])) rfl ?_
  refine WQ.val (fun w_ hC_ => Runs.pick rfl rfl rfl) rfl ?_
  refine WQ.val (fun w_ hC_ => Runs.assign rfl) rfl ?_
  refine WQ.fin ?_
  intro w2 h2
  refine WN.thn ?_
  refine WC.condF rfl (rfl) ?_
  refine WC.seq ?_
  refine WC.reg ?_
  refine WL.v (Runs.move rfl) rfl ?_
  refine WL.v (Runs.pneq Try.underlying56 rfl rfl) rfl ?_
  refine WL.v (Runs.move rfl) rfl ?_
  refine WL.goff rfl rfl rfl rfl ?_
  refine WL.goff rfl rfl rfl rfl ?_
  refine WL.v (Runs.pick rfl rfl rfl) rfl ?_
  refine WL.v (Runs.assign rfl) rfl ?_
  refine WL.nil ?_
  refine WN.thn ?_
  refine WC.condT rfl (rfl) ?_
  refine WC.seq ?_
  refine WC.reg ?_
  refine WL.v (Runs.assign rfl) rfl ?_
  refine WL.nil ?_
  refine WN.thn ?_
  refine WC.ret ?_
  refine ret1 rfl rfl ⟨F, l, Le.refl _, ?_, ?_, by rw [set_self hi]; exact h2.drop 0⟩
  · simp [say, hl, hy]
  · simp only [say, hl, hy, if_false]; exact hm
set_option maxRecDepth 100000 in
set_option maxHeartbeats 1000000 in
theorem say_int_D {W : World} {F : Snap} {cs : List Res} (w : World) (i : Nat) {m : Nat} {l : List (Int × Value)} {ns : List Int} {os : List (Option Int)} (n : Int) (x y : Int) (may : Bool) (h : St W F cs w) (hi : cs[i]? = some [(m, mobj l)]) (hm : MR Vi F ns os l) (hl : look n ns os = some none) (hmay : may = false) : Calls Try.prog 34 #[.map (some m), Vi n, Vi x, .bool may] w fun e w' => ∃ G l', Le F G ∧ e = .returned (Vi (say ns os n x may).1) ∧ MR Vi G ns (say ns os n x may).2 l' ∧ St W G (cs.set i [(m, mobj l')]) w'  := by
  refine enter (P := Try.prog) (args := [.map (some m), Vi n, Vi x, .bool may]) Try.func34 rfl rfl rfl ?_
  have hf := hm.find n 0
  rw [hl] at hf
  obtain ⟨hlk, _⟩ : (Value.tuple #[((mfind n l 0).map (·.2)).getD (.pointer none), .bool (mfind n l 0).isSome]) = .tuple #[.pointer none, .bool true] ∧ True := by
    rcases hf with ⟨h1, _⟩ | ⟨_, _, _, h1, h2, h3⟩
    · cases h1
    · cases h1
      exact ⟨by rw [h2]; cases h3; rfl, trivial⟩
  subst hmay
  refine WC.seq ?_
  refine WC.reg ?_
  refine WL.box rfl h rfl ?_
  intro b6 w1 h1
  refine WL.v (Runs.assign rfl) rfl ?_
  refine WL.nil ?_
  refine WN.thn ?_
  refine WC.seq ?_
  refine WC.reg ?_
  refine WL.v (Runs.move rfl) rfl ?_
  refine WL.v (Runs.move rfl) rfl ?_
  refine WL.v (Runs.valT (u := .tuple #[.pointer none, .bool true]) (Runs.lookup2 h1 (i + 1) hi Try.underlying46 Try.underlying3 inf56 rfl rfl) hlk) rfl ?_
  refine WL.v (Runs.move rfl) rfl ?_
  refine WL.v (Runs.extract rfl rfl) rfl ?_
  refine WL.v (Runs.extract rfl rfl) rfl ?_
  refine WL.v (Runs.assign rfl) rfl ?_
  refine WL.v (Runs.assign rfl) rfl ?_
  refine WL.nil ?_
  refine WN.thn ?_
  refine WC.seq ?_
  refine WC.block ?_
  refine WC.seq ?_
  refine WC.reg ?_
  refine WL.v (Runs.move rfl) rfl ?_
  refine WL.v (Runs.not rfl) rfl ?_
  refine WL.v (Runs.assign rfl) rfl ?_
  refine WL.nil ?_
  refine WN.thn ?_
  refine WC.condF rfl (rfl) ?_
  refine WC.seq ?_
  refine WC.qreg (C := fun w_ => St W F _ w_) mixed (by kernel_rfl) (h1.drew) ?_
  refine WQ.val (fun w_ hC_ => Runs.move rfl) rfl ?_
  refine WQ.val (fun w_ hC_ => Runs.pneq Try.underlying56 rfl rfl) rfl ?_
  refine WQ.val (fun w_ hC_ => Runs.move rfl) rfl ?_
  refine WQ.goff rfl rfl rfl rfl ?_
  refine WQ.goff rfl rfl rfl rfl ?_
  refine WQ.goff rfl rfl rfl rfl ?_
  refine WQ.goff rfl rfl rfl rfl ?_
  refine WQ.goff rfl rfl rfl rfl ?_
  refine WQ.val (fun w_ hC_ => Runs.pick rfl rfl rfl) rfl ?_
  refine WQ.val (fun w_ hC_ => Runs.assign rfl) rfl ?_
  refine WQ.fin ?_
  intro w2 h2
  refine WN.thn ?_
  refine WC.condF rfl (rfl) ?_
  refine WC.seq ?_
  refine WC.reg ?_
  refine WL.v (Runs.move rfl) rfl ?_
  refine WL.v (Runs.pneq Try.underlying56 rfl rfl) rfl ?_
  refine WL.v (Runs.move rfl) rfl ?_
  refine WL.gon rfl rfl rfl ?_
  refine WL.v (Runs.move rfl) rfl ?_
  refine WL.gon rfl rfl rfl ?_
  refine WL.v (Runs.not rfl) rfl ?_
  refine WL.v (Runs.pick rfl rfl rfl) rfl ?_
  refine WL.v (Runs.assign rfl) rfl ?_
  refine WL.nil ?_
  refine WN.thn ?_
  refine WC.condT rfl (rfl) ?_
  refine WC.seq ?_
  refine WC.reg ?_
  refine WL.v (Runs.assign rfl) rfl ?_
  refine WL.nil ?_
  refine WN.thn ?_
  refine WC.ret ?_
  refine ret1 rfl rfl ⟨F, l, Le.refl _, ?_, ?_, by rw [set_self hi]; exact h2.drop 0⟩
  · simp [say, hl]
  · simp only [say, hl, Bool.false_eq_true, if_false]; exact hm
set_option maxRecDepth 100000 in
set_option maxHeartbeats 1000000 in
theorem say_int_E {W : World} {F : Snap} {cs : List Res} (w : World) (i : Nat) {m : Nat} {l : List (Int × Value)} {ns : List Int} {os : List (Option Int)} (n : Int) (x y : Int) (may : Bool) (h : St W F cs w) (hi : cs[i]? = some [(m, mobj l)]) (hm : MR Vi F ns os l) (hl : look n ns os = some none) (hmay : may = true) : Calls Try.prog 34 #[.map (some m), Vi n, Vi x, .bool may] w fun e w' => ∃ G l', Le F G ∧ e = .returned (Vi (say ns os n x may).1) ∧ MR Vi G ns (say ns os n x may).2 l' ∧ St W G (cs.set i [(m, mobj l')]) w'  := by
  refine enter (P := Try.prog) (args := [.map (some m), Vi n, Vi x, .bool may]) Try.func34 rfl rfl rfl ?_
  have hf := hm.find n 0
  rw [hl] at hf
  obtain ⟨hlk, _⟩ : (Value.tuple #[((mfind n l 0).map (·.2)).getD (.pointer none), .bool (mfind n l 0).isSome]) = .tuple #[.pointer none, .bool true] ∧ True := by
    rcases hf with ⟨h1, _⟩ | ⟨_, _, _, h1, h2, h3⟩
    · cases h1
    · cases h1
      exact ⟨by rw [h2]; cases h3; rfl, trivial⟩
  subst hmay
  refine WC.seq ?_
  refine WC.reg ?_
  refine WL.box rfl h rfl ?_
  intro b6 w1 h1
  refine WL.v (Runs.assign rfl) rfl ?_
  refine WL.nil ?_
  refine WN.thn ?_
  refine WC.seq ?_
  refine WC.reg ?_
  refine WL.v (Runs.move rfl) rfl ?_
  refine WL.v (Runs.move rfl) rfl ?_
  refine WL.v (Runs.valT (u := .tuple #[.pointer none, .bool true]) (Runs.lookup2 h1 (i + 1) hi Try.underlying46 Try.underlying3 inf56 rfl rfl) hlk) rfl ?_
  refine WL.v (Runs.move rfl) rfl ?_
  refine WL.v (Runs.extract rfl rfl) rfl ?_
  refine WL.v (Runs.extract rfl rfl) rfl ?_
  refine WL.v (Runs.assign rfl) rfl ?_
  refine WL.v (Runs.assign rfl) rfl ?_
  refine WL.nil ?_
  refine WN.thn ?_
  refine WC.seq ?_
  refine WC.block ?_
  refine WC.seq ?_
  refine WC.reg ?_
  refine WL.v (Runs.move rfl) rfl ?_
  refine WL.v (Runs.not rfl) rfl ?_
  refine WL.v (Runs.assign rfl) rfl ?_
  refine WL.nil ?_
  refine WN.thn ?_
  refine WC.condF rfl (rfl) ?_
  refine WC.seq ?_
  refine WC.qreg (C := fun w_ => St W F _ w_) mixed (by kernel_rfl) (h1.drew) ?_
  refine WQ.val (fun w_ hC_ => Runs.move rfl) rfl ?_
  refine WQ.val (fun w_ hC_ => Runs.pneq Try.underlying56 rfl rfl) rfl ?_
  refine WQ.val (fun w_ hC_ => Runs.move rfl) rfl ?_
  refine WQ.goff rfl rfl rfl rfl ?_
  refine WQ.goff rfl rfl rfl rfl ?_
  refine WQ.goff rfl rfl rfl rfl ?_
  refine WQ.goff rfl rfl rfl rfl ?_
  refine WQ.goff rfl rfl rfl rfl ?_
  refine WQ.val (fun w_ hC_ => Runs.pick rfl rfl rfl) rfl ?_
  refine WQ.val (fun w_ hC_ => Runs.assign rfl) rfl ?_
  refine WQ.fin ?_
  intro w2 h2
  refine WN.thn ?_
  refine WC.condF rfl (rfl) ?_
  refine WC.seq ?_
  refine WC.reg ?_
  refine WL.v (Runs.move rfl) rfl ?_
  refine WL.v (Runs.pneq Try.underlying56 rfl rfl) rfl ?_
  refine WL.v (Runs.move rfl) rfl ?_
  refine WL.gon rfl rfl rfl ?_
  refine WL.v (Runs.move rfl) rfl ?_
  refine WL.gon rfl rfl rfl ?_
  refine WL.v (Runs.not rfl) rfl ?_
  refine WL.v (Runs.pick rfl rfl rfl) rfl ?_
  refine WL.v (Runs.assign rfl) rfl ?_
  refine WL.nil ?_
  refine WN.thn ?_
  refine WC.condF rfl (rfl) ?_
  refine WC.skip ?_
  refine WN.blk ?_
  refine WN.thn ?_
  refine WC.seq ?_
  refine WC.reg ?_
  refine WL.v (Runs.move rfl) rfl ?_
  refine WL.v (Runs.move rfl) rfl ?_
  refine WL.mapSet h2 (i + 1) hi Try.underlying46 Try.underlying3 rfl rfl rfl ?_
  intro  w3 h3
  try simp only [List.set_cons_zero, List.set_cons_succ, List.eraseIdx_cons_zero, List.eraseIdx_cons_succ] at h3
  refine WL.nil ?_
  refine WN.thn ?_
  refine WC.seq ?_
  refine WC.reg ?_
  refine WL.v (Runs.assign rfl) rfl ?_
  refine WL.nil ?_
  refine WN.thn ?_
  refine WC.ret ?_
  obtain ⟨G, g1, g2, g3⟩ := h3.freeze (i := 0) rfl
  have hc : cellF G ⟨b6, 0, none⟩ = some (Vi x) := by
    have := g2 _ (List.mem_cons_self)
    unfold cellF
    simp only [this]
    rfl
  refine ret1 rfl rfl ⟨G, _, g1, ?_, ?_, g3⟩
  · simp [say, hl]
  · simp only [say, hl, if_true]
    exact (hm.mono g1).put ⟨_, rfl, hc⟩ (by rw [hl]; rfl)
theorem say_int {W : World} {F : Snap} {cs : List Res} (w : World) (i : Nat) {m : Nat} {l : List (Int × Value)} {ns : List Int} {os : List (Option Int)} (n : Int) (x : Int) (may : Bool) (h : St W F cs w) (hi : cs[i]? = some [(m, mobj l)]) (hm : MR Vi F ns os l) : Calls Try.prog 34 #[.map (some m), Vi n, Vi x, .bool may] w fun e w' => ∃ G l', Le F G ∧ e = .returned (Vi (say ns os n x may).1) ∧ MR Vi G ns (say ns os n x may).2 l' ∧ St W G (cs.set i [(m, mobj l')]) w' := by
  cases hl : look n ns os with
  | none => exact say_int_A w i n x x may h hi hm hl
  | some o =>
    cases o with
    | none =>
      cases may
      · exact say_int_D w i n x x false h hi hm hl rfl
      · exact say_int_E w i n x x true h hi hm hl rfl
    | some y =>
      by_cases hy : y = x
      · exact say_int_B w i n x y may h hi hm hl hy
      · exact say_int_C w i n x y may h hi hm hl hy
end Tal
end Go.Proofs.Ytkgmlngmojnpmaa
