/- The law TallyOrder: votes and codes, in whatever order they come, come to the same. -/
import Derived.Test.YtkgmlngmojnpmaaProg
import Derived.Test.YtkgmlngmojnpmaaTal16
namespace Go.Proofs.Ytkgmlngmojnpmaa
open Go Go.RowKit B
set_option linter.unusedVariables false
set_option linter.unusedSimpArgs false
namespace Tal


def fA (i : Nat) : Nat → Bool := fun j => decide (j < i)
def fB (back : Bool) (n i : Nat) : Nat → Bool := fun j => if back then decide (n - i ≤ j) else decide (j < i)
def VS (ns : List Int) (f : Nat → Bool) : T := ⟨ns, (List.range ns.length).map fun j => if f j then some true else none, ns.map fun _ => none⟩
def ES (ns zs : List Int) (f : Nat → Bool) : T := ⟨ns, (List.range ns.length).map fun _ => some true, (List.range ns.length).map fun j => if f j then some (zs.getD j 0) else none⟩
theorem map_set {α : Type} (g : Nat → α) (n k : Nat) (x : α) : ((List.range n).map g).set k x = (List.range n).map fun j => if j = k then x else g j := by
  apply List.ext_getElem?
  intro j
  rw [List.getElem?_set]
  by_cases hjk : k = j
  · subst hjk
    by_cases h : k < n <;> simp [h]
  · rw [if_neg hjk]
    by_cases h : j < n <;> simp [h, Ne.symm hjk]
theorem map_at {α : Type} (g : Nat → α) {n k : Nat} (d : α) (h : k < n) : ((List.range n).map g).getD k d = g k := by
  simp [List.getD_eq_getElem?_getD, h]
theorem vs_vote {ns : List Int} {f g : Nat → Bool} {k : Nat} (hok : okN ns) (hk : k < ns.length) (hf : f k = false) (hg : ∀ j, j < ns.length → g j = (decide (j = k) || f j)) : (VS ns f).vote (ns.getD k 0) true = (0, VS ns g) := by
  have hd := oks_nodup hok.2
  have hl : (VS ns f).vs.length = (VS ns f).ns.length := by simp [VS]
  have ho : (VS ns f).vs.getD k none = none := by
    show ((List.range ns.length).map fun j => if f j then some true else none).getD k none = none
    rw [map_at _ _ hk, hf]; rfl
  have h1 : some false ∉ (VS ns f).vs := by
    intro hm
    obtain ⟨j, _, e⟩ := List.mem_map.1 hm
    split at e <;> cases e
  have h2 : (VS ns f).state = 0 := by
    rw [state_of h1, if_pos]
    refine (miss_pos hl).2 ?_
    exact List.mem_map.2 ⟨k, List.mem_range.2 hk, by rw [hf]; rfl⟩
  refine Eq.trans (vote_ok (t := VS ns f) (k := k) hd hl hk ho h2) ?_
  refine congrArg (fun x => ((0 : Int), x)) ?_
  unfold VS
  simp only [T.mk.injEq, true_and, and_true]
  rw [map_set]
  refine List.map_congr_left fun j hj => ?_
  rw [hg j (List.mem_range.1 hj)]
  by_cases e : j = k <;> simp [e]
theorem es_base {ns zs : List Int} (f : Nat → Bool) : some false ∉ (ES ns zs f).vs ∧ (miss ns (ES ns zs f).vs).length = 0 := by
  constructor
  · intro hm
    obtain ⟨j, _, e⟩ := List.mem_map.1 hm
    cases e
  · have hl : (ES ns zs f).vs.length = ns.length := by simp [ES]
    have := (miss_none (ns := ns) hl).2 (fun o ho => by
      obtain ⟨j, _, e⟩ := List.mem_map.1 ho
      rw [← e]; rfl)
    rw [this]; rfl
theorem es_open {ns zs : List Int} {f : Nat → Bool} {k : Nat} (hk : k < ns.length) (hf : f k = false) : (ES ns zs f).state = 1 := by
  obtain ⟨h1, h2⟩ := es_base (ns := ns) (zs := zs) f
  have hl : (ES ns zs f).cs.length = ns.length := by simp [ES]
  rw [state_of h1]
  show (if 0 < (miss ns (ES ns zs f).vs).length then (0 : Int) else if 0 < (miss ns (ES ns zs f).cs).length then 1 else 3) = 1
  rw [if_neg (by omega), if_pos]
  refine (miss_pos hl).2 ?_
  exact List.mem_map.2 ⟨k, List.mem_range.2 hk, by rw [hf]; rfl⟩
theorem es_end {ns zs : List Int} {f : Nat → Bool} (hf : ∀ k, k < ns.length → f k = true) : (ES ns zs f).state = 3 := by
  obtain ⟨h1, h2⟩ := es_base (ns := ns) (zs := zs) f
  have hl : (ES ns zs f).cs.length = ns.length := by simp [ES]
  rw [state_of h1]
  show (if 0 < (miss ns (ES ns zs f).vs).length then (0 : Int) else if 0 < (miss ns (ES ns zs f).cs).length then 1 else 3) = 3
  rw [if_neg (by omega), if_neg]
  have := (miss_none (ns := ns) hl).2 (fun o ho => by
    obtain ⟨j, hj, e⟩ := List.mem_map.1 ho
    rw [← e, hf j (List.mem_range.1 hj)]; rfl)
  rw [this]; simp
theorem es_exit {ns zs : List Int} {f g : Nat → Bool} {k : Nat} (hok : okN ns) (hk : k < ns.length) (hz : 0 ≤ zs.getD k 0 ∧ zs.getD k 0 ≤ 255) (hf : f k = false) (hg : ∀ j, j < ns.length → g j = (decide (j = k) || f j)) : (ES ns zs f).exit (ns.getD k 0) (zs.getD k 0) = (0, ES ns zs g) := by
  have hd := oks_nodup hok.2
  have hl : (ES ns zs f).cs.length = (ES ns zs f).ns.length := by simp [ES]
  have ho : (ES ns zs f).cs.getD k none = none := by
    show ((List.range ns.length).map fun j => if f j then some (zs.getD j 0) else none).getD k none = none
    rw [map_at _ _ hk, hf]; rfl
  refine Eq.trans (exit_ok (t := ES ns zs f) (k := k) (by omega) hd hl hk ho (es_open hk hf)) ?_
  refine congrArg (fun x => ((0 : Int), x)) ?_
  unfold ES
  simp only [T.mk.injEq, true_and]
  rw [map_set]
  refine List.map_congr_left fun j hj => ?_
  rw [hg j (List.mem_range.1 hj)]
  by_cases e : j = k <;> simp [e]
theorem es_code {ns zs : List Int} {f : Nat → Bool} (hf : ∀ k, k < ns.length → f k = true) (hl : ns.length ≤ zs.length) : (ES ns zs f).code = worst (zs.take ns.length) := by
  unfold T.code
  rw [if_neg (by rw [es_end hf]; decide)]
  congr 1
  apply List.ext_getElem?
  intro j
  show (((List.range ns.length).map fun j => if f j then some (zs.getD j 0) else none).map (·.getD 0))[j]? = _
  rw [List.map_map, List.getElem?_map, List.getElem?_take]
  by_cases h : j < ns.length
  · rw [if_pos h, List.getElem?_range h]
    have hz : j < zs.length := by omega
    simp [hf j h, List.getD_eq_getElem?_getD, List.getElem?_eq_getElem hz]
  · rw [if_neg h, List.getElem?_eq_none (by simp; omega)]; rfl
theorem es_eq {ns zs : List Int} {f g : Nat → Bool} (h : ∀ k, k < ns.length → f k = g k) : ES ns zs f = ES ns zs g := by
  unfold ES
  simp only [T.mk.injEq, true_and]
  exact List.map_congr_left fun j hj => by rw [h j (List.mem_range.1 hj)]
theorem vs_es {ns zs : List Int} {f g : Nat → Bool} (hf : ∀ k, k < ns.length → f k = true) (hg : ∀ k, k < ns.length → g k = false) : VS ns f = ES ns zs g := by
  unfold VS ES
  simp only [T.mk.injEq, true_and]
  refine ⟨List.map_congr_left fun j hj => by rw [hf j (List.mem_range.1 hj)]; rfl, ?_⟩
  apply List.ext_getElem?
  intro j
  by_cases h : j < ns.length
  · simp [h, hg j h]
  · simp [h]
theorem vs_new {ns : List Int} {f : Nat → Bool} (hf : ∀ k, k < ns.length → f k = false) : T.new ns = VS ns f := by
  unfold VS T.new
  simp only [T.mk.injEq, true_and, and_true]
  apply List.ext_getElem?
  intro j
  by_cases h : j < ns.length
  · simp [h, hf j h]
  · simp [h]
theorem b_step {b : Bool} {n i k : Nat} (hi : i < n) (hk : k = if b then n - 1 - i else i) : fB b n i k = false ∧ ∀ j, j < n → fB b n (i + 1) j = (decide (j = k) || fB b n i j) := by
  cases b with
  | true =>
    simp only [if_true] at hk
    subst hk
    refine ⟨by simp [fB]; omega, fun j hj => ?_⟩
    simp only [fB, if_true]
    rw [Bool.eq_iff_iff]
    simp only [decide_eq_true_eq, Bool.or_eq_true]
    omega
  | false =>
    have hk : k = i := hk
    subst hk
    refine ⟨by simp [fB], fun j hj => ?_⟩
    simp only [fB]
    rw [Bool.eq_iff_iff]
    simp only [Bool.false_eq_true, if_false, decide_eq_true_eq, Bool.or_eq_true]
    omega
theorem a_step {n i : Nat} (hi : i < n) : fA i i = false ∧ ∀ j, j < n → fA (i + 1) j = (decide (j = i) || fA i j) := by
  refine ⟨by simp [fA], fun j hj => ?_⟩
  simp only [fA]
  rw [Bool.eq_iff_iff]
  simp only [decide_eq_true_eq, Bool.or_eq_true]
  omega
theorem b_all {b : Bool} {n k : Nat} (hk : k < n) : fB b n n k = true := by cases b <;> simp [fB, hk]
theorem b_none {b : Bool} {n k : Nat} (hk : k < n) : fB b n 0 k = false := by cases b <;> simp [fB, hk]
theorem a_all {n k : Nat} (hk : k < n) : fA n k = true := by simp [fA, hk]
theorem mkPT2 {W w : World} {F G : Snap} {cs x y : List Res} {a b mva mca mvb mcb : Nat} {lva lca lvb lcb : List (Int × Value)} {t : T}
    (ht : TR F ([(mva, mobj lva)] :: [(mca, mobj lca)] :: x) a 0 1 mva mca lva lca t) (hu : TR G ([(mvb, mobj lvb)] :: [(mcb, mobj lcb)] :: y) b 0 1 mvb mcb lvb lcb t) (l1 : Le F G)
    (h : St W G ([(mvb, mobj lvb)] :: [(mcb, mobj lcb)] :: [(mva, mobj lva)] :: [(mca, mobj lca)] :: cs) w) : ∃ p q, PT G p a t ∧ PT G q b t ∧ St W G (p ++ (q ++ cs)) w :=
  ⟨_, _, (PT.mk (W := W) (w := w) ht).mono l1, PT.mk (W := W) (w := w) hu, St_swap (p := [_, _]) (q := [_, _]) h⟩
set_option maxRecDepth 100000 in
set_option maxHeartbeats 8000000 in
theorem order_law {W : World} {F : Snap} {cs : List Res} (w : World) {A B : Option Addr} {cap cap2 : Nat} {ns zs : List Int} (back : Bool) (h : St W F cs w) (hA : RdS (Kd.one Vi) F A ns) (hB : RdS (Kd.one Vi) F B zs) (hcap : zs.length ≤ cap2) : Calls Try.prog 7 #[.slice A ns.length cap, .slice B zs.length cap2, .bool back] w fun e w' => e = .returned (.bool true) ∧ St W F cs w'  := by
  refine enter (P := Try.prog) (args := [.slice A ns.length cap, .slice B zs.length cap2, .bool back]) Try.func7 rfl rfl rfl ?_
  refine WC.seq ?_
  refine WC.reg ?_
  refine WL.v (Runs.assign rfl) rfl ?_
  refine WL.nil ?_
  refine WN.thn ?_
  refine WC.seq ?_
  refine WC.seq ?_
  rcases cases4 (okN ns) ns.length ns.length 16 zs.length with hA1 | hB1 | ⟨hC1, hok⟩ | ⟨hC1, hok⟩
  · skip
    refine WC.reg ?_
    refine WL.v (Runs.move rfl) rfl ?_
    refine WL.v (Runs.llen Try.underlying22 rfl rfl) rfl ?_
    refine WL.v (Runs.boolT (c := true) (Runs.gtr rfl rfl) (by rw [decide_eq_true_eq]; omega)) rfl ?_
    refine WL.v (Runs.move rfl) rfl ?_
    refine WL.goff rfl rfl rfl rfl ?_
    refine WL.goff rfl rfl rfl rfl ?_
    refine WL.goff rfl rfl rfl rfl ?_
    refine WL.goff rfl rfl rfl rfl ?_
    refine WL.goff rfl rfl rfl rfl ?_
    refine WL.v (Runs.pick rfl rfl rfl) rfl ?_
    refine WL.v (Runs.move rfl) rfl ?_
    refine WL.goff rfl rfl rfl rfl ?_
    refine WL.goff rfl rfl rfl rfl ?_
    refine WL.goff rfl rfl rfl rfl ?_
    refine WL.v (Runs.pick rfl rfl rfl) rfl ?_
    refine WL.nil ?_
    refine WN.thn ?_
    refine WC.condT rfl (rfl) ?_
    refine WC.seq ?_
    refine WC.reg ?_
    refine WL.call can9 rfl rfl (live_c _ h) ?_
    rintro _ w1 ⟨rfl, h1⟩
    refine ⟨_, rfl, ?_⟩
    refine WL.v (Runs.assign rfl) rfl ?_
    refine WL.nil ?_
    refine WN.thn ?_
    refine WC.ret ?_
    exact ret1 rfl rfl ⟨rfl, h1⟩
  · skip
    refine WC.reg ?_
    refine WL.v (Runs.move rfl) rfl ?_
    refine WL.v (Runs.llen Try.underlying22 rfl rfl) rfl ?_
    refine WL.v (Runs.boolT (c := false) (Runs.gtr rfl rfl) (by rw [decide_eq_false_iff_not]; omega)) rfl ?_
    refine WL.v (Runs.move rfl) rfl ?_
    refine WL.gon rfl rfl rfl ?_
    refine WL.v (Runs.move rfl) rfl ?_
    refine WL.gon rfl rfl rfl ?_
    refine WL.v (Runs.llen Try.underlying22 rfl rfl) rfl ?_
    refine WL.gon rfl rfl rfl ?_
    refine WL.v (Runs.move rfl) rfl ?_
    refine WL.gon rfl rfl rfl ?_
    refine WL.v (Runs.llen Try.underlying22 rfl rfl) rfl ?_
    refine WL.gon rfl rfl rfl ?_
    refine WL.v (Runs.boolT (c := true) (Runs.lss rfl rfl) (by rw [decide_eq_true_eq]; omega)) rfl ?_
    refine WL.v (Runs.pick rfl rfl rfl) rfl ?_
    refine WL.v (Runs.move rfl) rfl ?_
    refine WL.goff rfl rfl rfl rfl ?_
    refine WL.goff rfl rfl rfl rfl ?_
    refine WL.goff rfl rfl rfl rfl ?_
    refine WL.v (Runs.pick rfl rfl rfl) rfl ?_
    refine WL.nil ?_
    refine WN.thn ?_
    refine WC.condT rfl (rfl) ?_
    refine WC.seq ?_
    refine WC.reg ?_
    refine WL.call can9 rfl rfl (live_c _ h) ?_
    rintro _ w2 ⟨rfl, h2⟩
    refine ⟨_, rfl, ?_⟩
    refine WL.v (Runs.assign rfl) rfl ?_
    refine WL.nil ?_
    refine WN.thn ?_
    refine WC.ret ?_
    exact ret1 rfl rfl ⟨rfl, h2⟩
  · skip
    refine WC.reg ?_
    refine WL.v (Runs.move rfl) rfl ?_
    refine WL.v (Runs.llen Try.underlying22 rfl rfl) rfl ?_
    refine WL.v (Runs.boolT (c := false) (Runs.gtr rfl rfl) (by rw [decide_eq_false_iff_not]; omega)) rfl ?_
    refine WL.v (Runs.move rfl) rfl ?_
    refine WL.gon rfl rfl rfl ?_
    refine WL.v (Runs.move rfl) rfl ?_
    refine WL.gon rfl rfl rfl ?_
    refine WL.v (Runs.llen Try.underlying22 rfl rfl) rfl ?_
    refine WL.gon rfl rfl rfl ?_
    refine WL.v (Runs.move rfl) rfl ?_
    refine WL.gon rfl rfl rfl ?_
    refine WL.v (Runs.llen Try.underlying22 rfl rfl) rfl ?_
    refine WL.gon rfl rfl rfl ?_
    refine WL.v (Runs.boolT (c := false) (Runs.lss rfl rfl) (by rw [decide_eq_false_iff_not]; omega)) rfl ?_
    refine WL.v (Runs.pick rfl rfl rfl) rfl ?_
    refine WL.v (Runs.move rfl) rfl ?_
    refine WL.gon rfl rfl rfl ?_
    refine WL.v (Runs.move rfl) rfl ?_
    refine WL.gon rfl rfl rfl ?_
    refine WL.call can11 rfl rfl (rnew_no _ h hA hok) ?_
    rintro _ w3 ⟨rfl, h3⟩
    refine ⟨_, rfl, ?_⟩
    refine WL.gon rfl rfl rfl ?_
    refine WL.v (Runs.peql Try.underlying27 rfl rfl) rfl ?_
    refine WL.v (Runs.pick rfl rfl rfl) rfl ?_
    refine WL.nil ?_
    refine WN.thn ?_
    refine WC.condT rfl (rfl) ?_
    refine WC.seq ?_
    refine WC.reg ?_
    refine WL.call can9 rfl rfl (live_c _ h3) ?_
    rintro _ w4 ⟨rfl, h4⟩
    refine ⟨_, rfl, ?_⟩
    refine WL.v (Runs.assign rfl) rfl ?_
    refine WL.nil ?_
    refine WN.thn ?_
    refine WC.ret ?_
    exact ret1 rfl rfl ⟨rfl, h4⟩
  · obtain ⟨ad, rfl, hrd⟩ := rd1 hA hok.1
    refine WC.reg ?_
    refine WL.v (Runs.move rfl) rfl ?_
    refine WL.v (Runs.llen Try.underlying22 rfl rfl) rfl ?_
    refine WL.v (Runs.boolT (c := false) (Runs.gtr rfl rfl) (by rw [decide_eq_false_iff_not]; omega)) rfl ?_
    refine WL.v (Runs.move rfl) rfl ?_
    refine WL.gon rfl rfl rfl ?_
    refine WL.v (Runs.move rfl) rfl ?_
    refine WL.gon rfl rfl rfl ?_
    refine WL.v (Runs.llen Try.underlying22 rfl rfl) rfl ?_
    refine WL.gon rfl rfl rfl ?_
    refine WL.v (Runs.move rfl) rfl ?_
    refine WL.gon rfl rfl rfl ?_
    refine WL.v (Runs.llen Try.underlying22 rfl rfl) rfl ?_
    refine WL.gon rfl rfl rfl ?_
    refine WL.v (Runs.boolT (c := false) (Runs.lss rfl rfl) (by rw [decide_eq_false_iff_not]; omega)) rfl ?_
    refine WL.v (Runs.pick rfl rfl rfl) rfl ?_
    refine WL.v (Runs.move rfl) rfl ?_
    refine WL.gon rfl rfl rfl ?_
    refine WL.v (Runs.move rfl) rfl ?_
    refine WL.gon rfl rfl rfl ?_
    refine WL.call can11 rfl rfl (rnew_y _ h hA hok) ?_
    rintro _ w5 ⟨G0, b0, bv0, bc0, zv0, zc0, fv0, fc0, hle0, rfl, h5, _⟩
    refine ⟨_, rfl, ?_⟩
    have hS0 := (h5.drop 0).drop 0
    replace h5 := hS0
    simp only [List.eraseIdx_cons_zero] at h5
    have hpos0 := hok.1
    refine WL.gon rfl rfl rfl ?_
    refine WL.v (Runs.peql Try.underlying27 rfl rfl) rfl ?_
    refine WL.v (Runs.pick rfl rfl rfl) rfl ?_
    refine WL.nil ?_
    refine WN.thn ?_
    refine WC.condF rfl (rfl) ?_
    refine WC.skip ?_
    refine WN.thn ?_
    refine WC.seq ?_
    refine WC.reg ?_
    refine WL.v (Runs.move rfl) rfl ?_
    refine WL.call can10 rfl rfl (new_c _ h5 (hA.mono hle0) (by omega) hok.2 hok.1) ?_
    rintro _ w6 ⟨G1, a, mva, mca, lva, lca, rfl, hle1, h6, hta⟩
    refine ⟨_, rfl, ?_⟩
    refine WL.v (Runs.assign rfl) rfl ?_
    refine WL.nil ?_
    refine WN.thn ?_
    refine WC.seq ?_
    refine WC.reg ?_
    refine WL.v (Runs.move rfl) rfl ?_
    refine WL.call can10 rfl rfl (new_c _ h6 (hA.mono (Le.trans hle0 hle1)) (by omega) hok.2 hok.1) ?_
    rintro _ w7 ⟨G2, b, mvb, mcb, lvb, lcb, rfl, hle2, h7, htb⟩
    refine ⟨_, rfl, ?_⟩
    obtain ⟨p, q, hp, hq, hS⟩ := mkPT2 hta htb hle2 h7
    have hG0 := Le.trans hle0 (Le.trans hle1 hle2)
    have ea : T.new ns = VS ns (fA 0) := vs_new (fun k hk => by simp [fA])
    have eb : T.new ns = VS ns (fB back ns.length 0) := vs_new (fun k hk => b_none hk)
    replace hp : PT G2 p a (T.new ns) := hp
    replace hq : PT G2 q b (T.new ns) := hq
    rw [ea] at hp
    rw [eb] at hq
    obtain ⟨az, rfl, hrz⟩ := rd1 hB (by omega)
    replace h7 := hS
    refine WL.v (Runs.assign rfl) rfl ?_
    refine WL.nil ?_
    refine WN.thn ?_
    refine WC.seq ?_
    refine WC.seq ?_
    refine WC.reg ?_
    refine WL.v (Runs.move rfl) rfl ?_
    refine WL.v (Runs.peql Try.underlying25 rfl rfl) rfl ?_
    refine WL.v (Runs.move rfl) rfl ?_
    refine WL.gon rfl rfl rfl ?_
    refine WL.v (Runs.move rfl) rfl ?_
    refine WL.gon rfl rfl rfl ?_
    refine WL.v (Runs.peql Try.underlying25 rfl rfl) rfl ?_
    refine WL.v (Runs.pick rfl rfl rfl) rfl ?_
    refine WL.nil ?_
    refine WN.thn ?_
    refine WC.condF rfl (rfl) ?_
    refine WC.skip ?_
    refine WN.thn ?_
    refine WC.seq ?_
    refine WC.reg ?_
    refine WL.v (Runs.move rfl) rfl ?_
    refine WL.v (Runs.llen Try.underlying22 rfl rfl) rfl ?_
    refine WL.v (Runs.assign rfl) rfl ?_
    refine WL.nil ?_
    refine WN.thn ?_
    refine WC.seq ?_
    refine WC.seq ?_
    refine WC.reg ?_
    refine WL.v (Runs.assign rfl) rfl ?_
    refine WL.nil ?_
    refine WN.thn ?_
    refine WC.block ?_
    refine WC.loop (σ := Nat × Snap × List Res × List Res) (fun q_ => [(0, .slice (some ad) ns.length cap), (1, .slice (some az) zs.length cap2), (2, .bool back), (7, .pointer (some ⟨a, 0, none⟩)), (8, .pointer (some ⟨b, 0, none⟩)), (9, .int .i64 (ns.length : Int)), (10, .int .i64 (q_.1 : Int))]) (fun q_ w => q_.1 ≤ ns.length ∧ Le F q_.2.1 ∧ (∀ j, j < q_.1 → 0 ≤ zs.getD j 0 ∧ zs.getD j 0 ≤ 255) ∧ PT q_.2.1 q_.2.2.1 a (VS ns (fA q_.1)) ∧ PT q_.2.1 q_.2.2.2 b (VS ns (fB back ns.length q_.1)) ∧ St W q_.2.1 (q_.2.2.1 ++ (q_.2.2.2 ++ cs)) w) (fun q_ => ns.length - q_.1) (⟨0, _, p, q⟩) (by repeat (first | exact trivial | refine ⟨rfl, ?_⟩)) (⟨by omega, hG0, fun j hj => absurd hj (Nat.not_lt_zero _), hp, hq, h7⟩) ?_
    rintro ⟨i, G, p, q⟩ w8 ⟨hi, hG, hz, hp, hq, hL⟩
    try dsimp only at hi hG hz hp hq hL
    refine WC.sub (s := [(0, .slice (some ad) ns.length cap), (1, .slice (some az) zs.length cap2), (2, .bool back), (7, .pointer (some ⟨a, 0, none⟩)), (8, .pointer (some ⟨b, 0, none⟩)), (9, .int .i64 (ns.length : Int)), (10, .int .i64 (i : Int))]) (by repeat (first | exact trivial | refine ⟨rfl, ?_⟩)) ?_
    refine WC.seq ?_
    refine WC.seq ?_
    refine WC.reg ?_
    refine WL.v (Runs.move rfl) rfl ?_
    refine WL.v (Runs.move rfl) rfl ?_
    refine WL.v (Runs.lss rfl rfl) rfl ?_
    refine WL.nil ?_
    refine WN.thn ?_
    refine WC.cond rfl (fun c9 => ?_) (fun c9 => ?_)
    · try simp only [decide_eq_true_eq, decide_eq_false_iff_not, Bool.not_eq_true', Bool.not_eq_false', Bool.and_eq_true, Int.not_lt, Int.not_le] at c9
      first
      | (exfalso; omega)
      | skip
        refine WC.skip ?_
        refine WN.thn ?_
        refine WC.seq ?_
        refine WC.block ?_
        refine WC.seq ?_
        refine WC.seq ?_
        have hcase : zs.getD i 0 < 0 ∨ (0 ≤ zs.getD i 0 ∧ 255 < zs.getD i 0) ∨ (0 ≤ zs.getD i 0 ∧ zs.getD i 0 ≤ 255) := by omega
        rcases hcase with hq1 | hq2 | hq3
        · skip
          refine WC.reg ?_
          refine WL.v (Runs.move rfl) rfl ?_
          refine WL.v (Runs.move rfl) rfl ?_
          refine WL.v (Runs.lidxN Try.underlying22 inf3 rfl rfl (n := i) rfl (by omega)) rfl ?_
          refine WL.v (Runs.intT (n := zs.getD i 0) (Runs.loadR (f := Vi) (0 : Int) (hL.weak hG) hrz (n := i) (by omega) Try.underlying3 rfl rfl) rfl) rfl ?_
          refine WL.v (Runs.boolT (c := true) (Runs.lss rfl rfl) (by rw [decide_eq_true_eq]; omega)) rfl ?_
          refine WL.v (Runs.move rfl) rfl ?_
          refine WL.goff rfl rfl rfl rfl ?_
          refine WL.goff rfl rfl rfl rfl ?_
          refine WL.goff rfl rfl rfl rfl ?_
          refine WL.goff rfl rfl rfl rfl ?_
          refine WL.goff rfl rfl rfl rfl ?_
          refine WL.v (Runs.pick rfl rfl rfl) rfl ?_
          refine WL.nil ?_
          refine WN.thn ?_
          refine WC.condT rfl (rfl) ?_
          refine WC.seq ?_
          refine WC.reg ?_
          refine WL.call can9 rfl rfl (live_c _ hL) ?_
          rintro _ w10 ⟨rfl, h10⟩
          refine ⟨_, rfl, ?_⟩
          refine WL.v (Runs.assign rfl) rfl ?_
          refine WL.nil ?_
          refine WN.thn ?_
          refine WC.ret ?_
          exact ret1 rfl rfl ⟨rfl, (St_tail (St_tail h10)).weak hG⟩
        · skip
          refine WC.reg ?_
          refine WL.v (Runs.move rfl) rfl ?_
          refine WL.v (Runs.move rfl) rfl ?_
          refine WL.v (Runs.lidxN Try.underlying22 inf3 rfl rfl (n := i) rfl (by omega)) rfl ?_
          refine WL.v (Runs.intT (n := zs.getD i 0) (Runs.loadR (f := Vi) (0 : Int) (hL.weak hG) hrz (n := i) (by omega) Try.underlying3 rfl rfl) rfl) rfl ?_
          refine WL.v (Runs.boolT (c := false) (Runs.lss rfl rfl) (by rw [decide_eq_false_iff_not]; omega)) rfl ?_
          refine WL.v (Runs.move rfl) rfl ?_
          refine WL.gon rfl rfl rfl ?_
          refine WL.v (Runs.move rfl) rfl ?_
          refine WL.gon rfl rfl rfl ?_
          refine WL.v (Runs.move rfl) rfl ?_
          refine WL.gon rfl rfl rfl ?_
          refine WL.v (Runs.lidxN Try.underlying22 inf3 rfl rfl (n := i) rfl (by omega)) rfl ?_
          refine WL.gon rfl rfl rfl ?_
          refine WL.v (Runs.intT (n := zs.getD i 0) (Runs.loadR (f := Vi) (0 : Int) (hL.weak hG) hrz (n := i) (by omega) Try.underlying3 rfl rfl) rfl) rfl ?_
          refine WL.gon rfl rfl rfl ?_
          refine WL.v (Runs.boolT (c := true) (Runs.gtr rfl rfl) (by rw [decide_eq_true_eq]; omega)) rfl ?_
          refine WL.v (Runs.pick rfl rfl rfl) rfl ?_
          refine WL.nil ?_
          refine WN.thn ?_
          refine WC.condT rfl (rfl) ?_
          refine WC.seq ?_
          refine WC.reg ?_
          refine WL.call can9 rfl rfl (live_c _ hL) ?_
          rintro _ w11 ⟨rfl, h11⟩
          refine ⟨_, rfl, ?_⟩
          refine WL.v (Runs.assign rfl) rfl ?_
          refine WL.nil ?_
          refine WN.thn ?_
          refine WC.ret ?_
          exact ret1 rfl rfl ⟨rfl, (St_tail (St_tail h11)).weak hG⟩
        · skip
          refine WC.reg ?_
          refine WL.v (Runs.move rfl) rfl ?_
          refine WL.v (Runs.move rfl) rfl ?_
          refine WL.v (Runs.lidxN Try.underlying22 inf3 rfl rfl (n := i) rfl (by omega)) rfl ?_
          refine WL.v (Runs.intT (n := zs.getD i 0) (Runs.loadR (f := Vi) (0 : Int) (hL.weak hG) hrz (n := i) (by omega) Try.underlying3 rfl rfl) rfl) rfl ?_
          refine WL.v (Runs.boolT (c := false) (Runs.lss rfl rfl) (by rw [decide_eq_false_iff_not]; omega)) rfl ?_
          refine WL.v (Runs.move rfl) rfl ?_
          refine WL.gon rfl rfl rfl ?_
          refine WL.v (Runs.move rfl) rfl ?_
          refine WL.gon rfl rfl rfl ?_
          refine WL.v (Runs.move rfl) rfl ?_
          refine WL.gon rfl rfl rfl ?_
          refine WL.v (Runs.lidxN Try.underlying22 inf3 rfl rfl (n := i) rfl (by omega)) rfl ?_
          refine WL.gon rfl rfl rfl ?_
          refine WL.v (Runs.intT (n := zs.getD i 0) (Runs.loadR (f := Vi) (0 : Int) (hL.weak hG) hrz (n := i) (by omega) Try.underlying3 rfl rfl) rfl) rfl ?_
          refine WL.gon rfl rfl rfl ?_
          refine WL.v (Runs.boolT (c := false) (Runs.gtr rfl rfl) (by rw [decide_eq_false_iff_not]; omega)) rfl ?_
          refine WL.v (Runs.pick rfl rfl rfl) rfl ?_
          refine WL.nil ?_
          refine WN.thn ?_
          refine WC.condF rfl (rfl) ?_
          refine WC.skip ?_
          refine WN.thn ?_
          refine WC.seq ?_
          refine WC.reg ?_
          refine WL.v (Runs.move rfl) rfl ?_
          refine WL.v (Runs.assign rfl) rfl ?_
          refine WL.nil ?_
          refine WN.thn ?_
          refine WC.seq ?_
          refine WC.seq ?_
          refine WC.reg ?_
          refine WL.v (Runs.move rfl) rfl ?_
          refine WL.nil ?_
          refine WN.thn ?_
          refine WC.cond rfl (fun c12 => ?_) (fun c12 => ?_)
          · try simp only [decide_eq_true_eq, decide_eq_false_iff_not, Bool.not_eq_true', Bool.not_eq_false', Bool.and_eq_true, Int.not_lt, Int.not_le] at c12
            first
            | (exfalso; omega)
            | skip
              refine WC.reg ?_
              refine WL.v (Runs.move rfl) rfl ?_
              refine WL.v (Runs.subn rfl rfl (by omega)) rfl ?_
              refine WL.v (Runs.move rfl) rfl ?_
              refine WL.v (Runs.subn rfl rfl (by omega)) rfl ?_
              refine WL.v (Runs.assign rfl) rfl ?_
              refine WL.nil ?_
              refine WN.thn ?_
              refine WC.seq ?_
              refine WC.reg ?_
              refine WL.v (Runs.move rfl) rfl ?_
              refine WL.v (Runs.move rfl) rfl ?_
              refine WL.v (Runs.move rfl) rfl ?_
              refine WL.v (Runs.lidxN Try.underlying22 inf3 rfl rfl (n := i) rfl (by omega)) rfl ?_
              refine WL.v (Runs.loadR (f := Vi) (0 : Int) (hL.weak hG) hrd (n := i) (by omega) Try.underlying3 rfl rfl) rfl ?_
              refine WL.call can22 rfl rfl (tvote_t _ (ns.getD i 0) true hL hp) ?_
              rintro _ w13 ⟨G3, p3, hl3, rfl, hp3, h13⟩
              refine ⟨_, rfl, ?_⟩
              have hva := vs_vote hok (k := i) (by omega) (a_step (n := ns.length) (by omega)).1 (a_step (n := ns.length) (by omega)).2
              rw [hva] at hp3
              refine WL.v (Runs.boolT (c := false) (Runs.neq rfl rfl) (by rw [hva]; rfl)) rfl ?_
              refine WL.v (Runs.move rfl) rfl ?_
              refine WL.gon rfl rfl rfl ?_
              refine WL.v (Runs.move rfl) rfl ?_
              refine WL.gon rfl rfl rfl ?_
              refine WL.v (Runs.move rfl) rfl ?_
              refine WL.gon rfl rfl rfl ?_
              refine WL.v (Runs.move rfl) rfl ?_
              refine WL.gon rfl rfl rfl ?_
              refine WL.v (Runs.lidxN Try.underlying22 inf3 rfl rfl (n := ns.length - 1 - i) (by omega) (by omega)) rfl ?_
              refine WL.gon rfl rfl rfl ?_
              refine WL.v (Runs.loadR (f := Vi) (0 : Int) (h13.weak (Le.trans hG hl3)) hrd (n := ns.length - 1 - i) (by omega) Try.underlying3 rfl rfl) rfl ?_
              refine WL.gon rfl rfl rfl ?_
              refine WL.call can22 rfl rfl (tvote_t _ (ns.getD (ns.length - 1 - i) 0) true (St_swap h13) (hq.mono hl3)) ?_
              rintro _ w14 ⟨G4, q4, hl4, rfl, hq4, h14⟩
              refine ⟨_, rfl, ?_⟩
              have hbs := b_step (b := back) (n := ns.length) (i := i) (k := ns.length - 1 - i) (by omega) (by rw [show back = true from c12]; rfl)
              have hvb := vs_vote hok (by omega) hbs.1 hbs.2
              rw [hvb] at hq4
              refine WL.gon rfl rfl rfl ?_
              refine WL.v (Runs.boolT (c := false) (Runs.neq rfl rfl) (by rw [hvb]; rfl)) rfl ?_
              refine WL.v (Runs.pick rfl rfl rfl) rfl ?_
              refine WL.nil ?_
              refine WN.thn ?_
              refine WC.condF rfl (rfl) ?_
              refine WC.skip ?_
              refine WN.blk ?_
              refine WN.thn ?_
              refine WC.reg ?_
              refine WL.v (Runs.move rfl) rfl ?_
              refine WL.v (Runs.addn rfl rfl (by omega)) rfl ?_
              refine WL.v (Runs.assign rfl) rfl ?_
              refine WL.nil ?_
              exact WN.again (⟨i + 1, _, p3, q4⟩ : Nat × Snap × List Res × List Res) (by show ns.length - (i + 1) < ns.length - i; omega) ⟨rfl, rfl, rfl, rfl, rfl, rfl, rfl, trivial⟩ ⟨by show i + 1 ≤ _; omega, Le.trans hG (Le.trans hl3 hl4), fun j hj => (by
                have hj : j < i + 1 := hj
                by_cases e : j = i
                · subst e; omega
                · exact hz j (by omega)), hp3.mono hl4, hq4, St_swap h14⟩
          · try simp only [decide_eq_true_eq, decide_eq_false_iff_not, Bool.not_eq_true', Bool.not_eq_false', Bool.and_eq_true, Int.not_lt, Int.not_le] at c12
            first
            | (exfalso; omega)
            | skip
              refine WC.skip ?_
              refine WN.thn ?_
              refine WC.seq ?_
              refine WC.reg ?_
              refine WL.v (Runs.move rfl) rfl ?_
              refine WL.v (Runs.move rfl) rfl ?_
              refine WL.v (Runs.move rfl) rfl ?_
              refine WL.v (Runs.lidxN Try.underlying22 inf3 rfl rfl (n := i) rfl (by omega)) rfl ?_
              refine WL.v (Runs.loadR (f := Vi) (0 : Int) (hL.weak hG) hrd (n := i) (by omega) Try.underlying3 rfl rfl) rfl ?_
              refine WL.call can22 rfl rfl (tvote_t _ (ns.getD i 0) true hL hp) ?_
              rintro _ w15 ⟨G3, p3, hl3, rfl, hp3, h15⟩
              refine ⟨_, rfl, ?_⟩
              have hva := vs_vote hok (k := i) (by omega) (a_step (n := ns.length) (by omega)).1 (a_step (n := ns.length) (by omega)).2
              rw [hva] at hp3
              refine WL.v (Runs.boolT (c := false) (Runs.neq rfl rfl) (by rw [hva]; rfl)) rfl ?_
              refine WL.v (Runs.move rfl) rfl ?_
              refine WL.gon rfl rfl rfl ?_
              refine WL.v (Runs.move rfl) rfl ?_
              refine WL.gon rfl rfl rfl ?_
              refine WL.v (Runs.move rfl) rfl ?_
              refine WL.gon rfl rfl rfl ?_
              refine WL.v (Runs.move rfl) rfl ?_
              refine WL.gon rfl rfl rfl ?_
              refine WL.v (Runs.lidxN Try.underlying22 inf3 rfl rfl (n := i) rfl (by omega)) rfl ?_
              refine WL.gon rfl rfl rfl ?_
              refine WL.v (Runs.loadR (f := Vi) (0 : Int) (h15.weak (Le.trans hG hl3)) hrd (n := i) (by omega) Try.underlying3 rfl rfl) rfl ?_
              refine WL.gon rfl rfl rfl ?_
              refine WL.call can22 rfl rfl (tvote_t _ (ns.getD (i) 0) true (St_swap h15) (hq.mono hl3)) ?_
              rintro _ w16 ⟨G4, q4, hl4, rfl, hq4, h16⟩
              refine ⟨_, rfl, ?_⟩
              have hbs := b_step (b := back) (n := ns.length) (i := i) (k := i) (by omega) (by rw [show back = false from c12]; rfl)
              have hvb := vs_vote hok (by omega) hbs.1 hbs.2
              rw [hvb] at hq4
              refine WL.gon rfl rfl rfl ?_
              refine WL.v (Runs.boolT (c := false) (Runs.neq rfl rfl) (by rw [hvb]; rfl)) rfl ?_
              refine WL.v (Runs.pick rfl rfl rfl) rfl ?_
              refine WL.nil ?_
              refine WN.thn ?_
              refine WC.condF rfl (rfl) ?_
              refine WC.skip ?_
              refine WN.blk ?_
              refine WN.thn ?_
              refine WC.reg ?_
              refine WL.v (Runs.move rfl) rfl ?_
              refine WL.v (Runs.addn rfl rfl (by omega)) rfl ?_
              refine WL.v (Runs.assign rfl) rfl ?_
              refine WL.nil ?_
              exact WN.again (⟨i + 1, _, p3, q4⟩ : Nat × Snap × List Res × List Res) (by show ns.length - (i + 1) < ns.length - i; omega) ⟨rfl, rfl, rfl, rfl, rfl, rfl, rfl, trivial⟩ ⟨by show i + 1 ≤ _; omega, Le.trans hG (Le.trans hl3 hl4), fun j hj => (by
                have hj : j < i + 1 := hj
                by_cases e : j = i
                · subst e; omega
                · exact hz j (by omega)), hp3.mono hl4, hq4, St_swap h16⟩
    · try simp only [decide_eq_true_eq, decide_eq_false_iff_not, Bool.not_eq_true', Bool.not_eq_false', Bool.and_eq_true, Int.not_lt, Int.not_le] at c9
      first
      | (exfalso; omega)
      | skip
        refine WC.exit ?_
        refine WX.thn ?_
        refine WX.cut ?_
        refine WX.hit ?_
        refine WN.thn ?_
        refine WC.seq ?_
        refine WC.seq ?_
        refine WC.reg ?_
        refine WL.v (Runs.assign rfl) rfl ?_
        refine WL.nil ?_
        refine WN.thn ?_
        refine WC.block ?_
        obtain rfl : i = ns.length := by omega
        have e1 : VS ns (fA ns.length) = ES ns zs (fA 0) := vs_es (fun k hk => a_all hk) (fun k hk => by simp [fA])
        have e2 : VS ns (fB back ns.length ns.length) = ES ns zs (fB true ns.length 0) := vs_es (fun k hk => b_all hk) (fun k hk => b_none hk)
        rw [e1] at hp
        rw [e2] at hq
        refine WC.loop (σ := Nat × Snap × List Res × List Res) (fun q_ => [(0, .slice (some ad) ns.length cap), (1, .slice (some az) zs.length cap2), (7, .pointer (some ⟨a, 0, none⟩)), (8, .pointer (some ⟨b, 0, none⟩)), (9, .int .i64 (ns.length : Int)), (12, .int .i64 (q_.1 : Int))]) (fun q_ w => q_.1 ≤ ns.length ∧ Le F q_.2.1 ∧ PT q_.2.1 q_.2.2.1 a (ES ns zs (fA q_.1)) ∧ PT q_.2.1 q_.2.2.2 b (ES ns zs (fB true ns.length q_.1)) ∧ St W q_.2.1 (q_.2.2.1 ++ (q_.2.2.2 ++ cs)) w) (fun q_ => ns.length - q_.1) (⟨0, _, p, q⟩) (by repeat (first | exact trivial | refine ⟨rfl, ?_⟩)) (⟨by omega, hG, hp, hq, hL⟩) ?_
        rintro ⟨i, G, p, q⟩ w17 ⟨hi, hG, hp, hq, hL⟩
        try dsimp only at hi hG hp hq hL
        refine WC.sub (s := [(0, .slice (some ad) ns.length cap), (1, .slice (some az) zs.length cap2), (7, .pointer (some ⟨a, 0, none⟩)), (8, .pointer (some ⟨b, 0, none⟩)), (9, .int .i64 (ns.length : Int)), (12, .int .i64 (i : Int))]) (by repeat (first | exact trivial | refine ⟨rfl, ?_⟩)) ?_
        refine WC.seq ?_
        refine WC.seq ?_
        refine WC.reg ?_
        refine WL.v (Runs.move rfl) rfl ?_
        refine WL.v (Runs.move rfl) rfl ?_
        refine WL.v (Runs.lss rfl rfl) rfl ?_
        refine WL.nil ?_
        refine WN.thn ?_
        refine WC.cond rfl (fun c18 => ?_) (fun c18 => ?_)
        · try simp only [decide_eq_true_eq, decide_eq_false_iff_not, Bool.not_eq_true', Bool.not_eq_false', Bool.and_eq_true, Int.not_lt, Int.not_le] at c18
          first
          | (exfalso; omega)
          | skip
            refine WC.skip ?_
            refine WN.thn ?_
            refine WC.seq ?_
            refine WC.block ?_
            refine WC.seq ?_
            refine WC.eregF hL (fun s_ => ([] : List Nat).any (Nat.beq s_)) mixed (by kernel_rfl) (fun hx => ?_)
            intro w19 h19
            refine WE.pure (g := none) hx 0 (by rfl) trivial (by kernel_rfl) (by kernel_rfl) (by kernel_rfl) (by kernel_rfl) (fun w_ => Runs.move rfl) rfl ?_
            refine WE.op (.inr (EC.mk h19 (by first | exact Le.refl _ | assumption | exact Le.trans hl3 hl4))) (i := 1) (by rfl) (by kernel_rfl) ?_
            refine WL.call can13 rfl rfl (tstate_t _ h19 hp) ?_
            rintro _ w20 ⟨rfl, h20⟩
            refine ⟨_, rfl, ?_⟩
            refine WL.nil ?_
            refine WE.next ?_
            refine WE.pure (g := none) hx 2 (by rfl) trivial (by kernel_rfl) (by kernel_rfl) (by kernel_rfl) (by kernel_rfl) (fun w_ => Runs.boolT (c := false) (Runs.neq rfl rfl) (by rw [es_open (k := i) (by omega) (a_step (n := ns.length) (by omega)).1]; rfl)) rfl ?_
            refine WE.pure (g := none) hx 3 (by rfl) trivial (by kernel_rfl) (by kernel_rfl) (by kernel_rfl) (by kernel_rfl) (fun w_ => Runs.move rfl) rfl ?_
            refine WE.pure (g := some (3, false)) hx 4 (by rfl) ⟨_, _, rfl, rfl, rfl⟩ (by kernel_rfl) (by kernel_rfl) (by kernel_rfl) (by kernel_rfl) (fun w_ => Runs.move rfl) rfl ?_
            refine WE.pure (g := some (3, false)) hx 5 (by rfl) ⟨_, _, rfl, rfl, rfl⟩ (by kernel_rfl) (by kernel_rfl) (by kernel_rfl) (by kernel_rfl) (fun w_ => Runs.move rfl) rfl ?_
            refine WE.pure (g := some (3, false)) hx 6 (by rfl) ⟨_, _, rfl, rfl, rfl⟩ (by kernel_rfl) (by kernel_rfl) (by kernel_rfl) (by kernel_rfl) (fun w_ => Runs.move rfl) rfl ?_
            refine WE.pure (g := some (3, false)) hx 7 (by rfl) ⟨_, _, rfl, rfl, rfl⟩ (by kernel_rfl) (by kernel_rfl) (by kernel_rfl) (by kernel_rfl) (fun w_ => Runs.lidxN Try.underlying22 inf3 rfl rfl (n := i) rfl (by omega)) rfl ?_
            refine WE.pure (g := some (3, false)) hx 9 (by rfl) ⟨_, _, rfl, rfl, rfl⟩ (by kernel_rfl) (by kernel_rfl) (by kernel_rfl) (by kernel_rfl) (fun w_ => Runs.move rfl) rfl ?_
            refine WE.pure (g := some (3, false)) hx 10 (by rfl) ⟨_, _, rfl, rfl, rfl⟩ (by kernel_rfl) (by kernel_rfl) (by kernel_rfl) (by kernel_rfl) (fun w_ => Runs.move rfl) rfl ?_
            refine WE.pure (g := some (3, false)) hx 11 (by rfl) ⟨_, _, rfl, rfl, rfl⟩ (by kernel_rfl) (by kernel_rfl) (by kernel_rfl) (by kernel_rfl) (fun w_ => Runs.lidxN Try.underlying22 inf3 rfl rfl (n := i) rfl (by omega)) rfl ?_
            refine WE.val (g := some (3, false)) 12 hx 8 (by rfl) ⟨_, _, rfl, rfl, rfl⟩ (by kernel_rfl) (by kernel_rfl) (by kernel_rfl) (by kernel_rfl) (fun w_ hE_ => Exists.elim hE_ (fun cs_ hC_ => Runs.loadR (f := Vi) (0 : Int) (hC_.weak hG) hrd (n := i) (by omega) Try.underlying3 rfl rfl)) rfl ?_
            refine WE.val (g := some (3, false)) 12 hx 12 (by rfl) ⟨_, _, rfl, rfl, rfl⟩ (by kernel_rfl) (by kernel_rfl) (by kernel_rfl) (by kernel_rfl) (fun w_ hE_ => Exists.elim hE_ (fun cs_ hC_ => Runs.loadR (f := Vi) (0 : Int) (hC_.weak hG) hrz (n := i) (by omega) Try.underlying3 rfl rfl)) rfl ?_
            refine WE.op (.inr (EC.mk h20 (by first | exact Le.refl _ | assumption | exact Le.trans hl3 hl4))) (i := 13) (by rfl) (by kernel_rfl) ?_
            refine WL.gon rfl rfl rfl ?_
            refine WL.call can23 rfl rfl (texit_t _ (ns.getD i 0) (zs.getD i 0) h20 hp) ?_
            rintro _ w21 ⟨G3, p3, hl3, rfl, hp3, h21⟩
            refine ⟨_, rfl, ?_⟩
            have hva := es_exit hok (k := i) (by omega) (hz i (by omega)) (a_step (n := ns.length) (by omega)).1 (a_step (n := ns.length) (by omega)).2
            rw [hva] at hp3
            refine WL.nil ?_
            refine WE.next ?_
            refine WE.pure (g := some (3, false)) hx 14 (by rfl) ⟨_, _, rfl, rfl, rfl⟩ (by kernel_rfl) (by kernel_rfl) (by kernel_rfl) (by kernel_rfl) (fun w_ => Runs.boolT (c := false) (Runs.neq rfl rfl) (by rw [hva]; rfl)) rfl ?_
            refine WE.pure (g := none) hx 15 (by rfl) trivial (by kernel_rfl) (by kernel_rfl) (by kernel_rfl) (by kernel_rfl) (fun w_ => Runs.pick rfl rfl rfl) rfl ?_
            refine WE.pure (g := none) hx 16 (by rfl) trivial (by kernel_rfl) (by kernel_rfl) (by kernel_rfl) (by kernel_rfl) (fun w_ => Runs.move rfl) rfl ?_
            refine WE.pure (g := some (16, false)) hx 17 (by rfl) ⟨_, _, rfl, rfl, rfl⟩ (by kernel_rfl) (by kernel_rfl) (by kernel_rfl) (by kernel_rfl) (fun w_ => Runs.move rfl) rfl ?_
            refine WE.pure (g := some (16, false)) hx 18 (by rfl) ⟨_, _, rfl, rfl, rfl⟩ (by kernel_rfl) (by kernel_rfl) (by kernel_rfl) (by kernel_rfl) (fun w_ => Runs.move rfl) rfl ?_
            refine WE.pure (g := some (16, false)) hx 19 (by rfl) ⟨_, _, rfl, rfl, rfl⟩ (by kernel_rfl) (by kernel_rfl) (by kernel_rfl) (by kernel_rfl) (fun w_ => Runs.move rfl) rfl ?_
            refine WE.pure (g := some (16, false)) hx 20 (by rfl) ⟨_, _, rfl, rfl, rfl⟩ (by kernel_rfl) (by kernel_rfl) (by kernel_rfl) (by kernel_rfl) (fun w_ => Runs.subn rfl rfl (by omega)) rfl ?_
            refine WE.pure (g := some (16, false)) hx 21 (by rfl) ⟨_, _, rfl, rfl, rfl⟩ (by kernel_rfl) (by kernel_rfl) (by kernel_rfl) (by kernel_rfl) (fun w_ => Runs.move rfl) rfl ?_
            refine WE.pure (g := some (16, false)) hx 22 (by rfl) ⟨_, _, rfl, rfl, rfl⟩ (by kernel_rfl) (by kernel_rfl) (by kernel_rfl) (by kernel_rfl) (fun w_ => Runs.subn rfl rfl (by omega)) rfl ?_
            refine WE.pure (g := some (16, false)) hx 23 (by rfl) ⟨_, _, rfl, rfl, rfl⟩ (by kernel_rfl) (by kernel_rfl) (by kernel_rfl) (by kernel_rfl) (fun w_ => Runs.lidxN Try.underlying22 inf3 rfl rfl (n := ns.length - 1 - i) (by omega) (by omega)) rfl ?_
            refine WE.pure (g := some (16, false)) hx 25 (by rfl) ⟨_, _, rfl, rfl, rfl⟩ (by kernel_rfl) (by kernel_rfl) (by kernel_rfl) (by kernel_rfl) (fun w_ => Runs.move rfl) rfl ?_
            refine WE.pure (g := some (16, false)) hx 26 (by rfl) ⟨_, _, rfl, rfl, rfl⟩ (by kernel_rfl) (by kernel_rfl) (by kernel_rfl) (by kernel_rfl) (fun w_ => Runs.move rfl) rfl ?_
            refine WE.pure (g := some (16, false)) hx 27 (by rfl) ⟨_, _, rfl, rfl, rfl⟩ (by kernel_rfl) (by kernel_rfl) (by kernel_rfl) (by kernel_rfl) (fun w_ => Runs.subn rfl rfl (by omega)) rfl ?_
            refine WE.pure (g := some (16, false)) hx 28 (by rfl) ⟨_, _, rfl, rfl, rfl⟩ (by kernel_rfl) (by kernel_rfl) (by kernel_rfl) (by kernel_rfl) (fun w_ => Runs.move rfl) rfl ?_
            refine WE.pure (g := some (16, false)) hx 29 (by rfl) ⟨_, _, rfl, rfl, rfl⟩ (by kernel_rfl) (by kernel_rfl) (by kernel_rfl) (by kernel_rfl) (fun w_ => Runs.subn rfl rfl (by omega)) rfl ?_
            refine WE.pure (g := some (16, false)) hx 30 (by rfl) ⟨_, _, rfl, rfl, rfl⟩ (by kernel_rfl) (by kernel_rfl) (by kernel_rfl) (by kernel_rfl) (fun w_ => Runs.lidxN Try.underlying22 inf3 rfl rfl (n := ns.length - 1 - i) (by omega) (by omega)) rfl ?_
            refine WE.val (g := some (16, false)) 12 hx 24 (by rfl) ⟨_, _, rfl, rfl, rfl⟩ (by kernel_rfl) (by kernel_rfl) (by kernel_rfl) (by kernel_rfl) (fun w_ hE_ => Exists.elim hE_ (fun cs_ hC_ => Runs.loadR (f := Vi) (0 : Int) (hC_.weak hG) hrd (n := ns.length - 1 - i) (by omega) Try.underlying3 rfl rfl)) rfl ?_
            refine WE.val (g := some (16, false)) 12 hx 31 (by rfl) ⟨_, _, rfl, rfl, rfl⟩ (by kernel_rfl) (by kernel_rfl) (by kernel_rfl) (by kernel_rfl) (fun w_ hE_ => Exists.elim hE_ (fun cs_ hC_ => Runs.loadR (f := Vi) (0 : Int) (hC_.weak hG) hrz (n := ns.length - 1 - i) (by omega) Try.underlying3 rfl rfl)) rfl ?_
            refine WE.op (.inr (EC.mk h21 (by first | exact Le.refl _ | assumption | exact Le.trans hl3 hl4))) (i := 32) (by rfl) (by kernel_rfl) ?_
            refine WL.gon rfl rfl rfl ?_
            refine WL.call can23 rfl rfl (texit_t _ (ns.getD (ns.length - 1 - i) 0) (zs.getD (ns.length - 1 - i) 0) (St_swap h21) (hq.mono hl3)) ?_
            rintro _ w22 ⟨G4, q4, hl4, rfl, hq4, h22⟩
            refine ⟨_, rfl, ?_⟩
            have hbs := b_step (b := true) (n := ns.length) (i := i) (k := ns.length - 1 - i) (by omega) rfl
            have hvb := es_exit (zs := zs) hok (by omega) (hz (ns.length - 1 - i) (by omega)) hbs.1 hbs.2
            rw [hvb] at hq4
            refine WL.nil ?_
            refine WE.next ?_
            refine WE.pure (g := some (16, false)) hx 33 (by rfl) ⟨_, _, rfl, rfl, rfl⟩ (by kernel_rfl) (by kernel_rfl) (by kernel_rfl) (by kernel_rfl) (fun w_ => Runs.boolT (c := false) (Runs.neq rfl rfl) (by rw [hvb]; rfl)) rfl ?_
            refine WE.pure (g := none) hx 34 (by rfl) trivial (by kernel_rfl) (by kernel_rfl) (by kernel_rfl) (by kernel_rfl) (fun w_ => Runs.pick rfl rfl rfl) rfl ?_
            refine WE.fin (.inr (EC.mk h22 (by first | exact Le.refl _ | assumption | exact Le.trans hl3 hl4))) (by kernel_rfl) ?_
            refine WN.thn ?_
            refine WC.condF rfl (rfl) ?_
            refine WC.skip ?_
            refine WN.blk ?_
            refine WN.thn ?_
            refine WC.reg ?_
            refine WL.v (Runs.move rfl) rfl ?_
            refine WL.v (Runs.addn rfl rfl (by omega)) rfl ?_
            refine WL.v (Runs.assign rfl) rfl ?_
            refine WL.nil ?_
            exact WN.again (⟨i + 1, _, p3, q4⟩ : Nat × Snap × List Res × List Res) (by show ns.length - (i + 1) < ns.length - i; omega) ⟨rfl, rfl, rfl, rfl, rfl, rfl, trivial⟩ ⟨by show i + 1 ≤ _; omega, Le.trans hG (Le.trans hl3 hl4), hp3.mono hl4, hq4, St_swap h22⟩
        · try simp only [decide_eq_true_eq, decide_eq_false_iff_not, Bool.not_eq_true', Bool.not_eq_false', Bool.and_eq_true, Int.not_lt, Int.not_le] at c18
          first
          | (exfalso; omega)
          | skip
            refine WC.exit ?_
            refine WX.thn ?_
            refine WX.cut ?_
            refine WX.hit ?_
            refine WN.thn ?_
            refine WC.seq ?_
            obtain rfl : i = ns.length := by omega
            refine WC.eregF hL (fun s_ => ([] : List Nat).any (Nat.beq s_)) mixed (by kernel_rfl) (fun hx => ?_)
            intro w23 h23
            refine WE.pure (g := none) hx 0 (by rfl) trivial (by kernel_rfl) (by kernel_rfl) (by kernel_rfl) (by kernel_rfl) (fun w_ => Runs.move rfl) rfl ?_
            refine WE.op (.inr (EC.mk h23 (Le.refl _))) (i := 1) (by rfl) (by kernel_rfl) ?_
            refine WL.call can13 rfl rfl (tstate_t _ h23 hp) ?_
            rintro _ w24 ⟨rfl, h24⟩
            refine ⟨_, rfl, ?_⟩
            refine WL.nil ?_
            refine WE.next ?_
            refine WE.pure (g := none) hx 2 (by rfl) trivial (by kernel_rfl) (by kernel_rfl) (by kernel_rfl) (by kernel_rfl) (fun w_ => Runs.boolT (c := true) (Runs.eql rfl rfl) (decide_eq_true (es_end fun k hk => a_all hk))) rfl ?_
            refine WE.pure (g := none) hx 3 (by rfl) trivial (by kernel_rfl) (by kernel_rfl) (by kernel_rfl) (by kernel_rfl) (fun w_ => Runs.move rfl) rfl ?_
            refine WE.pure (g := some (3, true)) hx 4 (by rfl) ⟨_, _, rfl, rfl, rfl⟩ (by kernel_rfl) (by kernel_rfl) (by kernel_rfl) (by kernel_rfl) (fun w_ => Runs.move rfl) rfl ?_
            refine WE.op (.inr (EC.mk h24 (Le.refl _))) (i := 5) (by rfl) (by kernel_rfl) ?_
            refine WL.gon rfl rfl rfl ?_
            refine WL.call can13 rfl rfl (tstate_t _ (St_swap h24) hq) ?_
            rintro _ w25 ⟨rfl, h25⟩
            refine ⟨_, rfl, ?_⟩
            refine WL.nil ?_
            refine WE.next ?_
            refine WE.pure (g := some (3, true)) hx 6 (by rfl) ⟨_, _, rfl, rfl, rfl⟩ (by kernel_rfl) (by kernel_rfl) (by kernel_rfl) (by kernel_rfl) (fun w_ => Runs.boolT (c := true) (Runs.eql rfl rfl) (decide_eq_true (es_end fun k hk => b_all hk))) rfl ?_
            refine WE.pure (g := none) hx 7 (by rfl) trivial (by kernel_rfl) (by kernel_rfl) (by kernel_rfl) (by kernel_rfl) (fun w_ => Runs.pick rfl rfl rfl) rfl ?_
            refine WE.pure (g := none) hx 8 (by rfl) trivial (by kernel_rfl) (by kernel_rfl) (by kernel_rfl) (by kernel_rfl) (fun w_ => Runs.move rfl) rfl ?_
            refine WE.pure (g := some (8, true)) hx 9 (by rfl) ⟨_, _, rfl, rfl, rfl⟩ (by kernel_rfl) (by kernel_rfl) (by kernel_rfl) (by kernel_rfl) (fun w_ => Runs.move rfl) rfl ?_
            refine WE.pure (g := some (8, true)) hx 11 (by rfl) ⟨_, _, rfl, rfl, rfl⟩ (by kernel_rfl) (by kernel_rfl) (by kernel_rfl) (by kernel_rfl) (fun w_ => Runs.move rfl) rfl ?_
            refine WE.op (.inr (EC.mk h25 (Le.refl _))) (i := 10) (by rfl) (by kernel_rfl) ?_
            refine WL.gon rfl rfl rfl ?_
            refine WL.call can15 rfl rfl (tcode_t _ (St_swap h25) hp) ?_
            rintro _ w26 ⟨rfl, h26⟩
            refine ⟨_, rfl, ?_⟩
            refine WL.nil ?_
            refine WE.next ?_
            refine WE.op (.inr (EC.mk h26 (Le.refl _))) (i := 12) (by rfl) (by kernel_rfl) ?_
            refine WL.gon rfl rfl rfl ?_
            refine WL.call can15 rfl rfl (tcode_t _ (St_swap h26) hq) ?_
            rintro _ w27 ⟨rfl, h27⟩
            refine ⟨_, rfl, ?_⟩
            refine WL.nil ?_
            refine WE.next ?_
            refine WE.pure (g := some (8, true)) hx 13 (by rfl) ⟨_, _, rfl, rfl, rfl⟩ (by kernel_rfl) (by kernel_rfl) (by kernel_rfl) (by kernel_rfl) (fun w_ => Runs.boolT (c := true) (Runs.eql rfl rfl) (decide_eq_true (by rw [es_code (fun k hk => a_all hk) (by omega), es_code (fun k hk => b_all hk) (by omega)]))) rfl ?_
            refine WE.pure (g := none) hx 14 (by rfl) trivial (by kernel_rfl) (by kernel_rfl) (by kernel_rfl) (by kernel_rfl) (fun w_ => Runs.pick rfl rfl rfl) rfl ?_
            refine WE.pure (g := none) hx 15 (by rfl) trivial (by kernel_rfl) (by kernel_rfl) (by kernel_rfl) (by kernel_rfl) (fun w_ => Runs.move rfl) rfl ?_
            refine WE.pure (g := some (15, true)) hx 16 (by rfl) ⟨_, _, rfl, rfl, rfl⟩ (by kernel_rfl) (by kernel_rfl) (by kernel_rfl) (by kernel_rfl) (fun w_ => Runs.move rfl) rfl ?_
            refine WE.pure (g := some (15, true)) hx 18 (by rfl) ⟨_, _, rfl, rfl, rfl⟩ (by kernel_rfl) (by kernel_rfl) (by kernel_rfl) (by kernel_rfl) (fun w_ => Runs.move rfl) rfl ?_
            refine WE.pure (g := some (15, true)) hx 19 (by rfl) ⟨_, _, rfl, rfl, rfl⟩ (by kernel_rfl) (by kernel_rfl) (by kernel_rfl) (by kernel_rfl) (fun w_ => Runs.move rfl) rfl ?_
            refine WE.pure (g := some (15, true)) hx 20 (by rfl) ⟨_, _, rfl, rfl, rfl⟩ (by kernel_rfl) (by kernel_rfl) (by kernel_rfl) (by kernel_rfl) (fun w_ => Runs.valT (u := .slice (some az) (zs.take ns.length).length cap2) (Runs.lsl_hi Try.underlying22 inf3 rfl rfl (n := ns.length) rfl (by omega)) (by rw [List.length_take, Nat.min_eq_left (by omega)])) rfl ?_
            refine WE.op (.inr (EC.mk h27 (Le.refl _))) (i := 17) (by rfl) (by kernel_rfl) ?_
            refine WL.gon rfl rfl rfl ?_
            refine WL.call can15 rfl rfl (tcode_t _ (St_swap h27) hp) ?_
            rintro _ w28 ⟨rfl, h28⟩
            refine ⟨_, rfl, ?_⟩
            refine WL.nil ?_
            refine WE.next ?_
            refine WE.op (.inr (EC.mk h28 (Le.refl _))) (i := 21) (by rfl) (by kernel_rfl) ?_
            refine WL.gon rfl rfl rfl ?_
            refine WL.call can20 rfl rfl (worst_c _ _ h28 ((hB.take ns.length).mono hG) (by rw [List.length_take]; omega)) ?_
            rintro _ w29 ⟨rfl, h29⟩
            refine ⟨_, rfl, ?_⟩
            refine WL.nil ?_
            refine WE.next ?_
            refine WE.pure (g := some (15, true)) hx 22 (by rfl) ⟨_, _, rfl, rfl, rfl⟩ (by kernel_rfl) (by kernel_rfl) (by kernel_rfl) (by kernel_rfl) (fun w_ => Runs.boolT (c := true) (Runs.eql rfl rfl) (decide_eq_true (es_code (fun k hk => a_all hk) (by omega)))) rfl ?_
            refine WE.pure (g := none) hx 23 (by rfl) trivial (by kernel_rfl) (by kernel_rfl) (by kernel_rfl) (by kernel_rfl) (fun w_ => Runs.pick rfl rfl rfl) rfl ?_
            refine WE.pure (g := none) hx 24 (by rfl) trivial (by kernel_rfl) (by kernel_rfl) (by kernel_rfl) (by kernel_rfl) (fun w_ => Runs.move rfl) rfl ?_
            refine WE.op (.inr (EC.mk h29 (Le.refl _))) (i := 25) (by rfl) (by kernel_rfl) ?_
            refine WL.gon rfl rfl rfl ?_
            refine WL.call can9 rfl rfl (live_c _ h29) ?_
            rintro _ w30 ⟨rfl, h30⟩
            refine ⟨_, rfl, ?_⟩
            refine WL.nil ?_
            refine WE.next ?_
            refine WE.pure (g := none) hx 26 (by rfl) trivial (by kernel_rfl) (by kernel_rfl) (by kernel_rfl) (by kernel_rfl) (fun w_ => Runs.pick rfl rfl rfl) rfl ?_
            refine WE.pure (g := none) hx 27 (by rfl) trivial (by kernel_rfl) (by kernel_rfl) (by kernel_rfl) (by kernel_rfl) (fun w_ => Runs.assign rfl) rfl ?_
            refine WE.fin (.inr (EC.mk h30 (Le.refl _))) (by kernel_rfl) ?_
            refine WN.thn ?_
            refine WC.ret ?_
            exact ret1 rfl rfl ⟨rfl, (St_tail (St_tail h30)).weak hG⟩
end Tal
end Go.Proofs.Ytkgmlngmojnpmaa
