/- Walks of package tally: states. -/
import Derived.Test.YtkgmlngmojnpmaaProg
import Derived.Test.YtkgmlngmojnpmaaTal2
namespace Go.Proofs.Ytkgmlngmojnpmaa
open Go Go.RowKit B
set_option linter.unusedVariables false
set_option linter.unusedSimpArgs false
namespace Tal

theorem fld49_0 : fldB Try.prog 49 0 0 = true := by kernel_rfl
theorem fld49_1 : fldB Try.prog 49 1 1 = true := by kernel_rfl
theorem fld49_2 : fldB Try.prog 49 2 2 = true := by kernel_rfl
theorem can29 : B.Can Try.prog 29 := ⟨_, Try.func29, by kernel_rfl, rfl⟩   -- roundhouse/tally.silent[bool]
theorem can30 : B.Can Try.prog 30 := ⟨_, Try.func30, by kernel_rfl, rfl⟩   -- roundhouse/tally.silent[int]
theorem can32 : B.Can Try.prog 32 := ⟨_, Try.func32, by kernel_rfl, rfl⟩   -- slices.Max[[]int,int]
structure TR (F : Snap) (cs : List Res) (bt i j mv mc : Nat) (lv lc : List (Int × Value)) (t : T) : Prop where
  s0 : ∃ A cap, cellF F ⟨bt, 0, none⟩ = some (.slice A t.ns.length cap) ∧ RdS (Kd.one Vi) F A t.ns
  s1 : cellF F ⟨bt, 1, none⟩ = some (.map (some mv))
  s2 : cellF F ⟨bt, 2, none⟩ = some (.map (some mc))
  iv : cs[i]? = some [(mv, mobj lv)]
  ic : cs[j]? = some [(mc, mobj lc)]
  rv : MR Value.bool F t.ns t.vs lv
  rc : MR Vi F t.ns t.cs lc
  pos : 0 < t.ns.length
  small : t.ns.length ≤ 16
  nd : t.ns.Nodup
  ne : i ≠ j
theorem max_step (l : List Int) (i : Nat) (a : Int) (hi : i < l.length) : (l.take (i + 1)).foldl max a = (if (l.take i).foldl max a < l.getD i 0 then l.getD i 0 else (l.take i).foldl max a) := by
  rw [take_nx hi, List.foldl_append]
  show max _ _ = _
  rw [Int.max_def]
  split <;> split <;> omega
theorem not_false {t : T} {lv : List (Int × Value)} {F : Snap} (h : MR Value.bool F t.ns t.vs lv) {seen : Array Nat} (hs : ∀ p, p ∈ seen → t.vs[p]? ≠ some (some false)) (ha : ∀ p, p < lv.length → p ∈ seen) : some false ∉ t.vs := by
  intro hm
  obtain ⟨p, hp⟩ := List.getElem?_of_mem hm
  have hl := h.len
  have : p < t.vs.length := (List.getElem?_eq_some_iff.1 hp).1
  exact hs p (ha p (by omega)) hp
set_option maxRecDepth 100000 in
set_option maxHeartbeats 1000000 in
theorem max_c {W : World} {F : Snap} {cs : List Res} (w : World) {ad : Addr} {cap : Nat} (a : Int) (l : List Int) (h : St W F cs w) (hrd : ∀ i x, (a :: l)[i]? = some x → cellF F (ad.add i) = some (Vi x)) (hn : (a :: l).length ≤ 100000) : Calls Try.prog 32 #[.slice (some ad) (a :: l).length cap] w fun e w' => e = .returned (Vi (l.foldl max a)) ∧ St W F cs w'  := by
  refine enter (P := Try.prog) (args := [.slice (some ad) (a :: l).length cap]) Try.func32 rfl rfl rfl ?_
  refine WC.seq ?_
  refine WC.reg ?_
  refine WL.v (Runs.assign rfl) rfl ?_
  refine WL.nil ?_
  refine WN.thn ?_
  refine WC.seq ?_
  refine WC.seq ?_
  refine WC.reg ?_
  refine WL.v (Runs.move rfl) rfl ?_
  refine WL.v (Runs.llen Try.underlying22 rfl rfl) rfl ?_
  refine WL.v (Runs.boolT (c := false) (Runs.lss rfl rfl) (by rw [decide_eq_false_iff_not, List.length_cons]; omega)) rfl ?_
  refine WL.nil ?_
  refine WN.thn ?_
  refine WC.condF rfl (rfl) ?_
  refine WC.skip ?_
  refine WN.thn ?_
  refine WC.seq ?_
  refine WC.reg ?_
  refine WL.v (Runs.move rfl) rfl ?_
  refine WL.v (Runs.lidxN Try.underlying22 inf3 rfl rfl (n := 0) rfl (by rw [List.length_cons]; omega)) rfl ?_
  refine WL.v (Runs.intT (n := a) (Runs.loadR (f := Vi) (0 : Int) h hrd (n := 0) (by rw [List.length_cons]; omega) Try.underlying3 rfl rfl) rfl) rfl ?_
  refine WL.v (Runs.assign rfl) rfl ?_
  refine WL.nil ?_
  refine WN.thn ?_
  refine WC.seq ?_
  refine WC.seq ?_
  refine WC.reg ?_
  refine WL.v (Runs.assign rfl) rfl ?_
  refine WL.nil ?_
  refine WN.thn ?_
  refine WC.block ?_
  refine WC.loop (σ := Nat) (fun q_ => [(0, .slice (some ad) (a :: l).length cap), (3, Vi ((l.take q_).foldl max a)), (4, .int .i64 ((q_ + 1 : Nat) : Int))]) (fun q_ w => q_ ≤ l.length ∧ St W F cs w) (fun q_ => l.length - q_) (0) (by repeat (first | exact trivial | refine ⟨rfl, ?_⟩)) (⟨by omega, h⟩) ?_
  rintro i w1 ⟨hi, hL⟩
  try dsimp only at hi hL
  refine WC.sub (s := [(0, .slice (some ad) (a :: l).length cap), (3, Vi ((l.take i).foldl max a)), (4, .int .i64 ((i + 1 : Nat) : Int))]) (by repeat (first | exact trivial | refine ⟨rfl, ?_⟩)) ?_
  have hll : (a :: l).length = l.length + 1 := rfl
  refine WC.seq ?_
  refine WC.seq ?_
  refine WC.reg ?_
  refine WL.v (Runs.move rfl) rfl ?_
  refine WL.v (Runs.move rfl) rfl ?_
  refine WL.v (Runs.llen Try.underlying22 rfl rfl) rfl ?_
  refine WL.v (Runs.lss rfl rfl) rfl ?_
  refine WL.nil ?_
  refine WN.thn ?_
  refine WC.cond rfl (fun c2 => ?_) (fun c2 => ?_)
  · try simp only [decide_eq_true_eq, decide_eq_false_iff_not, Bool.not_eq_true', Bool.not_eq_false', Bool.and_eq_true, Int.not_lt, Int.not_le] at c2
    first
    | (exfalso; omega)
    | skip
      refine WC.skip ?_
      refine WN.thn ?_
      refine WC.seq ?_
      refine WC.block ?_
      refine WC.reg ?_
      refine WL.v (Runs.move rfl) rfl ?_
      refine WL.v (Runs.move rfl) rfl ?_
      refine WL.v (Runs.move rfl) rfl ?_
      refine WL.v (Runs.lidxN Try.underlying22 inf3 rfl rfl (n := i + 1) rfl (by omega)) rfl ?_
      refine WL.v (Runs.intT (n := l.getD i 0) (Runs.loadR (f := Vi) (0 : Int) hL hrd (n := i + 1) (by omega) Try.underlying3 rfl rfl) (by simp)) rfl ?_
      refine WL.v (Runs.max rfl rfl) rfl ?_
      refine WL.v (Runs.assign rfl) rfl ?_
      refine WL.nil ?_
      refine WN.blk ?_
      refine WN.thn ?_
      refine WC.reg ?_
      refine WL.v (Runs.move rfl) rfl ?_
      refine WL.v (Runs.addn rfl rfl (by omega)) rfl ?_
      refine WL.v (Runs.assign rfl) rfl ?_
      refine WL.nil ?_
      refine WN.again (i + 1) (by omega) ⟨rfl, ?_, rfl, trivial⟩ ⟨by omega, hL⟩
      show _ = some (Vi ((l.take (i + 1)).foldl max a))
      rw [max_step _ _ _ (by omega)]
      rfl
  · try simp only [decide_eq_true_eq, decide_eq_false_iff_not, Bool.not_eq_true', Bool.not_eq_false', Bool.and_eq_true, Int.not_lt, Int.not_le] at c2
    first
    | (exfalso; omega)
    | skip
      refine WC.exit ?_
      refine WX.thn ?_
      refine WX.cut ?_
      refine WX.hit ?_
      refine WN.thn ?_
      refine WC.seq ?_
      refine WC.reg ?_
      refine WL.v (Runs.move rfl) rfl ?_
      refine WL.v (Runs.assign rfl) rfl ?_
      refine WL.nil ?_
      refine WN.thn ?_
      refine WC.ret ?_
      obtain rfl : i = l.length := by omega
      refine ret1 rfl rfl ⟨?_, hL⟩
      rw [List.take_of_length_le (Nat.le_refl _)]
set_option maxRecDepth 100000 in
set_option maxHeartbeats 1000000 in
theorem worst_1 {W : World} {F : Snap} {cs : List Res} (w : World) {A : Option Addr} {cap : Nat} (a : Int) (l : List Int) (h : St W F cs w) (hR : RdS (Kd.one Vi) F A (a :: l)) (hn : (a :: l).length ≤ 100000) : Calls Try.prog 20 #[.slice A (a :: l).length cap] w fun e w' => e = .returned (Vi (worst (a :: l))) ∧ St W F cs w'  := by
  refine enter (P := Try.prog) (args := [.slice A (a :: l).length cap]) Try.func20 rfl rfl rfl ?_
  obtain ⟨ad, rfl, hrd⟩ := rd1 hR (by rw [List.length_cons]; omega)
  refine WC.seq ?_
  refine WC.reg ?_
  refine WL.v (Runs.assign rfl) rfl ?_
  refine WL.nil ?_
  refine WN.thn ?_
  refine WC.seq ?_
  refine WC.seq ?_
  refine WC.reg ?_
  refine WL.v (Runs.move rfl) rfl ?_
  refine WL.v (Runs.llen Try.underlying22 rfl rfl) rfl ?_
  refine WL.v (Runs.boolT (c := false) (Runs.eql rfl rfl) (by rw [decide_eq_false_iff_not, List.length_cons]; omega)) rfl ?_
  refine WL.nil ?_
  refine WN.thn ?_
  refine WC.condF rfl (rfl) ?_
  refine WC.skip ?_
  refine WN.thn ?_
  refine WC.seq ?_
  refine WC.reg ?_
  refine WL.v (Runs.move rfl) rfl ?_
  refine WL.call can32 rfl rfl (max_c _ a l h hrd hn) ?_
  rintro _ w1 ⟨rfl, h1⟩
  refine ⟨_, rfl, ?_⟩
  refine WL.v (Runs.assign rfl) rfl ?_
  refine WL.nil ?_
  refine WN.thn ?_
  refine WC.ret ?_
  exact ret1 rfl rfl ⟨rfl, h1⟩
set_option maxRecDepth 100000 in
set_option maxHeartbeats 1000000 in
theorem worst_0 {W : World} {F : Snap} {cs : List Res} (w : World) {A : Option Addr} {cap : Nat} (h : St W F cs w) : Calls Try.prog 20 #[.slice A 0 cap] w fun e w' => e = .returned (Vi (worst [])) ∧ St W F cs w'  := by
  refine enter (P := Try.prog) (args := [.slice A 0 cap]) Try.func20 rfl rfl rfl ?_
  refine WC.seq ?_
  refine WC.reg ?_
  refine WL.v (Runs.assign rfl) rfl ?_
  refine WL.nil ?_
  refine WN.thn ?_
  refine WC.seq ?_
  refine WC.seq ?_
  refine WC.reg ?_
  refine WL.v (Runs.move rfl) rfl ?_
  refine WL.v (Runs.llen Try.underlying22 rfl rfl) rfl ?_
  refine WL.v (Runs.eql rfl rfl) rfl ?_
  refine WL.nil ?_
  refine WN.thn ?_
  refine WC.condT rfl (rfl) ?_
  refine WC.seq ?_
  refine WC.reg ?_
  refine WL.v (Runs.assign rfl) rfl ?_
  refine WL.nil ?_
  refine WN.thn ?_
  refine WC.ret ?_
  exact ret1 rfl rfl ⟨rfl, h⟩
theorem worst_c {W : World} {F : Snap} {cs : List Res} (w : World) {A : Option Addr} {cap : Nat} (xs : List Int) (h : St W F cs w) (hR : RdS (Kd.one Vi) F A xs) (hn : xs.length ≤ 100000) : Calls Try.prog 20 #[.slice A xs.length cap] w fun e w' => e = .returned (Vi (worst xs)) ∧ St W F cs w' := by
  cases xs with
  | nil => exact worst_0 w h
  | cons a l => exact worst_1 w a l h hR hn
set_option maxRecDepth 100000 in
set_option maxHeartbeats 2000000 in
theorem state_c {W : World} {F : Snap} {cs : List Res} (w : World) {bt i j mv mc : Nat} {lv lc : List (Int × Value)} {t : T} (h : St W F cs w) (ht : TR F cs bt i j mv mc lv lc t) : Calls Try.prog 13 #[.pointer (some ⟨bt, 0, none⟩)] w fun e w' => e = .returned (Vi t.state) ∧ St W F cs w'  := by
  refine enter (P := Try.prog) (args := [.pointer (some ⟨bt, 0, none⟩)]) Try.func13 rfl rfl rfl ?_
  obtain ⟨A, cap, hs0, hR⟩ := ht.s0
  have hpos := ht.pos
  have hsmall := ht.small
  refine WC.seq ?_
  refine WC.reg ?_
  refine WL.v (Runs.assign rfl) rfl ?_
  refine WL.nil ?_
  refine WN.thn ?_
  refine WC.seq ?_
  refine WC.seq ?_
  refine WC.reg ?_
  refine WL.v (Runs.move rfl) rfl ?_
  refine WL.v (Runs.peql Try.underlying25 rfl rfl) rfl ?_
  refine WL.nil ?_
  refine WN.thn ?_
  refine WC.condF rfl (rfl) ?_
  refine WC.skip ?_
  refine WN.thn ?_
  refine WC.seq ?_
  refine WC.seq ?_
  refine WC.reg ?_
  refine WL.v (Runs.move rfl) rfl ?_
  refine WL.v (Runs.nilCheckP rfl) rfl ?_
  refine WL.v (Runs.fld fld49_1 rfl) rfl ?_
  refine WL.v (Runs.load1 Try.underlying44 rfl rfl (h.cell ht.s1)) rfl ?_
  refine WL.range h i ht.iv Try.underlying44 rfl rfl ?_
  intro it w1 h1
  try simp only [List.set_cons_zero, List.set_cons_succ, List.eraseIdx_cons_zero, List.eraseIdx_cons_succ] at h1
  refine WL.nil ?_
  refine WN.thn ?_
  refine WC.block ?_
  refine WC.loop (σ := Array Nat) (fun q_ => [(0, .pointer (some ⟨bt, 0, none⟩)), (11, .pointer (some ⟨it, 0, none⟩))]) (fun q_ w => (∀ p, p ∈ q_ → t.vs[p]? ≠ some (some false)) ∧ St W F ([(it, .mapIter (some mv) lv.length q_ lv.length)] :: cs) w) (fun q_ => togo lv.length q_) (#[]) (by repeat (first | exact trivial | refine ⟨rfl, ?_⟩)) (⟨by simp, h1⟩) ?_
  rintro seen w2 ⟨hq, hL⟩
  try dsimp only at hq hL
  refine WC.sub (s := [(0, .pointer (some ⟨bt, 0, none⟩)), (11, .pointer (some ⟨it, 0, none⟩))]) (by repeat (first | exact trivial | refine ⟨rfl, ?_⟩)) ?_
  refine WC.seq ?_
  refine WC.reg ?_
  refine WL.next1 hL 0 (i + 1) rfl ht.iv rfl rfl ?_
  intro on wn hnx
  refine WL.v (Runs.extract rfl (nxa0 on)) rfl ?_
  refine WL.nil ?_
  refine WN.thn ?_
  refine WC.seq ?_
  refine WC.cond rfl (fun c3 => ?_) (fun c3 => ?_)
  · try simp only [decide_eq_true_eq, decide_eq_false_iff_not, Bool.not_eq_true', Bool.not_eq_false', Bool.and_eq_true, Int.not_lt, Int.not_le] at c3
    first
    | (exfalso; omega)
    | skip
      refine WC.skip ?_
      refine WN.thn ?_
      refine WC.block ?_
      refine WC.seq ?_
      refine WC.reg ?_
      obtain ⟨p, kv, rfl, hp, hps, hS⟩ : ∃ p kv, on = some kv ∧ lv[p]? = some kv ∧ p ∉ seen ∧ St W F ([(it, .mapIter (some mv) lv.length (seen.push p) lv.length)] :: cs) wn := by
        rcases hnx with ⟨rfl, _⟩ | hnx
        · simp_all
        · exact hnx
      obtain ⟨ov, hov, hpo⟩ := ht.rv.at_ hp
      refine WL.v (Runs.entry hS 0 (i + 1) rfl ht.iv hp rfl) rfl ?_
      refine WL.v (Runs.extract rfl rfl) rfl ?_
      refine WL.v (Runs.assign rfl) rfl ?_
      refine WL.nil ?_
      refine WN.thn ?_
      refine WC.seq ?_
      cases hov2 : ov
      · rw [hov2] at hpo hov
        obtain ⟨k0, kx⟩ := kv
        obtain rfl : kx = .pointer none := hpo
        refine WC.reg ?_
        refine WL.v (Runs.move rfl) rfl ?_
        refine WL.v (Runs.pneq Try.underlying52 rfl rfl) rfl ?_
        refine WL.v (Runs.move rfl) rfl ?_
        refine WL.goff rfl rfl rfl rfl ?_
        refine WL.goff rfl rfl rfl rfl ?_
        refine WL.goff rfl rfl rfl rfl ?_
        refine WL.goff rfl rfl rfl rfl ?_
        refine WL.v (Runs.pick rfl rfl rfl) rfl ?_
        refine WL.nil ?_
        refine WN.thn ?_
        refine WC.condF rfl (rfl) ?_
        refine WC.skip ?_
        refine WN.blk ?_
        refine WN.again (seen.push p) (togo_push (List.getElem?_eq_some_iff.1 hp).1 hps) ⟨rfl, rfl, trivial⟩ ⟨?_, hS⟩
        intro p' hp'
        rcases Array.mem_push.1 hp' with hp' | rfl
        · exact hq p' hp'
        · rw [hov]; simp_all
      · rename_i bv
        rw [hov2] at hpo hov
        obtain ⟨k0, kx⟩ := kv
        obtain ⟨ap, rfl, hpb⟩ : ∃ a, kx = .pointer (some a) ∧ cellF F a = some (.bool bv) := hpo
        refine WC.reg ?_
        refine WL.v (Runs.move rfl) rfl ?_
        refine WL.v (Runs.pneq Try.underlying52 rfl rfl) rfl ?_
        refine WL.v (Runs.move rfl) rfl ?_
        refine WL.gon rfl rfl rfl ?_
        refine WL.v (Runs.move rfl) rfl ?_
        refine WL.gon rfl rfl rfl ?_
        refine WL.v (Runs.nilCheckP rfl) rfl ?_
        refine WL.gon rfl rfl rfl ?_
        refine WL.v (Runs.load1 Try.underlying4 rfl rfl (hS.cell hpb)) rfl ?_
        refine WL.gon rfl rfl rfl ?_
        refine WL.v (Runs.not rfl) rfl ?_
        refine WL.v (Runs.pick rfl rfl rfl) rfl ?_
        refine WL.nil ?_
        refine WN.thn ?_
        refine WC.cond rfl (fun c4 => ?_) (fun c4 => ?_)
        · try simp only [decide_eq_true_eq, decide_eq_false_iff_not, Bool.not_eq_true', Bool.not_eq_false', Bool.and_eq_true, Int.not_lt, Int.not_le] at c4
          first
          | (exfalso; omega)
          | skip
            refine WC.seq ?_
            refine WC.reg ?_
            refine WL.v (Runs.assign rfl) rfl ?_
            refine WL.nil ?_
            refine WN.thn ?_
            refine WC.ret ?_
            refine ret1 rfl rfl ⟨?_, hS.drop 0⟩
            have : some false ∈ t.vs := List.mem_of_getElem? (i := p) (by rw [hov]; simp_all)
            simp [T.state, this]
        · try simp only [decide_eq_true_eq, decide_eq_false_iff_not, Bool.not_eq_true', Bool.not_eq_false', Bool.and_eq_true, Int.not_lt, Int.not_le] at c4
          first
          | (exfalso; omega)
          | skip
            refine WC.skip ?_
            refine WN.blk ?_
            refine WN.again (seen.push p) (togo_push (List.getElem?_eq_some_iff.1 hp).1 hps) ⟨rfl, rfl, trivial⟩ ⟨?_, hS⟩
            intro p' hp'
            rcases Array.mem_push.1 hp' with hp' | rfl
            · exact hq p' hp'
            · rw [hov]; simp_all
  · try simp only [decide_eq_true_eq, decide_eq_false_iff_not, Bool.not_eq_true', Bool.not_eq_false', Bool.and_eq_true, Int.not_lt, Int.not_le] at c3
    first
    | (exfalso; omega)
    | skip
      refine WC.exit ?_
      refine WX.thn ?_
      refine WX.cut ?_
      refine WX.hit ?_
      refine WN.thn ?_
      refine WC.seq ?_
      refine WC.block ?_
      refine WC.seq ?_
      obtain ⟨rfl, hall, hS2⟩ : on = none ∧ (∀ p, p < lv.length → p ∈ seen) ∧ St W F ([(it, .mapIter (some mv) lv.length seen lv.length)] :: cs) wn := by
        rcases hnx with hnx | ⟨_, _, rfl, _⟩
        · exact hnx
        · simp_all
      have hnf := not_false ht.rv hq hall
      refine WC.dreg (fun w_ => St W _ _ w_) (fun k => Nat.beq k 8) mixed (by kernel_rfl) (hS2.drew) (fun hx => ?_)
      refine WM.pure hx (by rfl) rfl (fun w_ => Runs.move rfl) rfl ?_
      refine WM.pure hx (by rfl) rfl (fun w_ => Runs.nilCheckP rfl) rfl ?_
      refine WM.pure hx (by rfl) rfl (fun w_ => Runs.fld fld49_0 rfl) rfl ?_
      refine WM.val 12 hx (by rfl) rfl (by kernel_rfl) (fun w_ hC_ => Runs.load1 Try.underlying22 rfl rfl (hC_.cell hs0)) rfl ?_
      refine WM.pure hx (by rfl) rfl (fun w_ => Runs.move rfl) rfl ?_
      refine WM.pure hx (by rfl) rfl (fun w_ => Runs.nilCheckP rfl) rfl ?_
      refine WM.pure hx (by rfl) rfl (fun w_ => Runs.fld fld49_1 rfl) rfl ?_
      refine WM.val 12 hx (by rfl) rfl (by kernel_rfl) (fun w_ hC_ => Runs.load1 Try.underlying44 rfl rfl (hC_.cell ht.s1)) rfl ?_
      refine WM.toD hx rfl (by decide) (by kernel_rfl) ?_
      intro w5 h5
      refine WD.op (by rfl) rfl (by kernel_rfl) ?_
      refine WL.call can29 rfl rfl (silent_bool _ (i + 1) h5 ht.iv ht.rv hR ht.pos ht.nd (by omega)) ?_
      rintro _ w6 ⟨G7, A7, cap7, hle7, rfl, hc7, hrd7, h6⟩
      refine ⟨_, rfl, ?_⟩
      refine WL.nil ?_
      refine WD.next ?_
      refine WD.pure hx (by rfl) (fun w_ => Runs.llen Try.underlying22 rfl rfl) rfl ?_
      refine WD.pure hx (by rfl) (fun w_ => Runs.gtr rfl rfl) rfl ?_
      refine WD.pure hx (by rfl) (fun w_ => Runs.assign rfl) rfl ?_
      refine WD.fin rfl (by kernel_rfl) ?_
      refine WN.thn ?_
      refine WC.cond rfl (fun c8 => ?_) (fun c8 => ?_)
      · try simp only [decide_eq_true_eq, decide_eq_false_iff_not, Bool.not_eq_true', Bool.not_eq_false', Bool.and_eq_true, Int.not_lt, Int.not_le] at c8
        first
        | (exfalso; omega)
        | skip
          refine WC.seq ?_
          refine WC.reg ?_
          refine WL.v (Runs.assign rfl) rfl ?_
          refine WL.nil ?_
          refine WN.thn ?_
          refine WC.ret ?_
          refine ret1 rfl rfl ⟨?_, (h6.drop 0).weak hle7⟩
          simp only [T.state, hnf, if_false]
          rw [if_pos (by omega)]
      · try simp only [decide_eq_true_eq, decide_eq_false_iff_not, Bool.not_eq_true', Bool.not_eq_false', Bool.and_eq_true, Int.not_lt, Int.not_le] at c8
        first
        | (exfalso; omega)
        | skip
          refine WC.seq ?_
          refine WC.dreg (fun w_ => St W _ _ w_) (fun k => Nat.beq k 8) mixed (by kernel_rfl) (h6.drew) (fun hx => ?_)
          refine WM.pure hx (by rfl) rfl (fun w_ => Runs.move rfl) rfl ?_
          refine WM.pure hx (by rfl) rfl (fun w_ => Runs.nilCheckP rfl) rfl ?_
          refine WM.pure hx (by rfl) rfl (fun w_ => Runs.fld fld49_0 rfl) rfl ?_
          refine WM.val 12 hx (by rfl) rfl (by kernel_rfl) (fun w_ hC_ => Runs.load1 Try.underlying22 rfl rfl (hC_.cell (cellF_le hle7 hs0))) rfl ?_
          refine WM.pure hx (by rfl) rfl (fun w_ => Runs.move rfl) rfl ?_
          refine WM.pure hx (by rfl) rfl (fun w_ => Runs.nilCheckP rfl) rfl ?_
          refine WM.pure hx (by rfl) rfl (fun w_ => Runs.fld fld49_2 rfl) rfl ?_
          refine WM.val 12 hx (by rfl) rfl (by kernel_rfl) (fun w_ hC_ => Runs.load1 Try.underlying46 rfl rfl (hC_.cell (cellF_le hle7 ht.s2))) rfl ?_
          refine WM.toD hx rfl (by decide) (by kernel_rfl) ?_
          intro w9 h9
          refine WD.op (by rfl) rfl (by kernel_rfl) ?_
          refine WL.call can30 rfl rfl (silent_int _ (j + 1) h9 ht.ic (ht.rc.mono hle7) (hR.mono hle7) ht.pos ht.nd (by omega)) ?_
          rintro _ w10 ⟨G11, A11, cap11, hle11, rfl, hc11, hrd11, h10⟩
          refine ⟨_, rfl, ?_⟩
          refine WL.nil ?_
          refine WD.next ?_
          refine WD.pure hx (by rfl) (fun w_ => Runs.llen Try.underlying22 rfl rfl) rfl ?_
          refine WD.pure hx (by rfl) (fun w_ => Runs.gtr rfl rfl) rfl ?_
          refine WD.pure hx (by rfl) (fun w_ => Runs.assign rfl) rfl ?_
          refine WD.fin rfl (by kernel_rfl) ?_
          refine WN.thn ?_
          refine WC.cond rfl (fun c12 => ?_) (fun c12 => ?_)
          · try simp only [decide_eq_true_eq, decide_eq_false_iff_not, Bool.not_eq_true', Bool.not_eq_false', Bool.and_eq_true, Int.not_lt, Int.not_le] at c12
            first
            | (exfalso; omega)
            | skip
              refine WC.seq ?_
              refine WC.reg ?_
              refine WL.v (Runs.assign rfl) rfl ?_
              refine WL.nil ?_
              refine WN.thn ?_
              refine WC.ret ?_
              refine ret1 rfl rfl ⟨?_, (h10.drop 0).weak (Le.trans hle7 hle11)⟩
              simp only [T.state, hnf, if_false]
              rw [if_neg (by omega), if_pos (by omega)]
          · try simp only [decide_eq_true_eq, decide_eq_false_iff_not, Bool.not_eq_true', Bool.not_eq_false', Bool.and_eq_true, Int.not_lt, Int.not_le] at c12
            first
            | (exfalso; omega)
            | skip
              refine WC.skip ?_
              refine WN.blk ?_
              refine WN.thn ?_
              refine WC.seq ?_
              refine WC.reg ?_
              refine WL.v (Runs.assign rfl) rfl ?_
              refine WL.nil ?_
              refine WN.thn ?_
              refine WC.ret ?_
              refine ret1 rfl rfl ⟨?_, (h10.drop 0).weak (Le.trans hle7 hle11)⟩
              simp only [T.state, hnf, if_false]
              rw [if_neg (by omega), if_neg (by omega)]
end Tal
end Go.Proofs.Ytkgmlngmojnpmaa
