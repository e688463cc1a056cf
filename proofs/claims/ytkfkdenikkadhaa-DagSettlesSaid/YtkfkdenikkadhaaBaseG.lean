/- Regions that draw their order and do more than read: what is quiet in whatever order, then what waits for it. Plain lemmas. -/
import Derived.Test.YtkfkdenikkadhaaBaseF
namespace Go.Proofs.Ytkfkdenikkadhaa
open Go Go.RowKit
set_option linter.unusedVariables false
set_option linter.unusedSimpArgs false
namespace B
/-- only the normal way out -/
def np (Q : Post) : Post
  | .normal, a, w => Q .normal a w
  | _, _, _ => False
theorem np_imp {Q : Post} : ∀ e a w, np Q e a w → Q e a w := fun e a w h => by cases e <;> first | exact h | exact h.elim
section
variable {P : Program} {ops : Array Oper} {C : World → Prop} {eff : Nat → Bool} {Q : Post}
/-- j waits for k, maybe through others -/
inductive Anc (ops : Array Oper) : Nat → Nat → Prop
  | here {j k : Nat} {o : Oper} {e : Edge} (ho : ops[j]? = some o) (he : e ∈ o.after) (hb : Region.binds .any e = true) (hk : e.on = k) : Anc ops j k
  | step {j k : Nat} {o : Oper} {e : Edge} (ho : ops[j]? = some o) (he : e ∈ o.after) (hb : Region.binds .any e = true) (hk : Anc ops e.on k) : Anc ops j k
def ancB (ops : Array Oper) : Nat → Nat → Nat → Bool
  | 0, _, _ => false
  | f + 1, j, k => match ops[j]? with
    | some o => o.after.any (fun e => Region.binds .any e && e.on == k) || o.after.any (fun e => Region.binds .any e && ancB ops f e.on k)
    | none => false
theorem ancB_spec : ∀ (f j k : Nat), ancB ops f j k = true → Anc ops j k
  | 0, _, _, h => by simp [ancB] at h
  | f + 1, j, k, h => by
    unfold ancB at h
    cases ho : ops[j]? with
    | none => rw [ho] at h; simp at h
    | some o =>
      rw [ho] at h
      simp only [Bool.or_eq_true] at h
      rcases h with h | h
      · obtain ⟨e, he, hb⟩ := Array.any_eq_true'.1 h
        simp only [Bool.and_eq_true, beq_iff_eq] at hb
        exact .here ho he hb.1 hb.2
      · obtain ⟨e, he, hb⟩ := Array.any_eq_true'.1 h
        simp only [Bool.and_eq_true] at hb
        exact .step ho he hb.1 (ancB_spec f e.on k hb.2)
/-- what is listed is listed with all that it waits for -/
def DC (ops : Array Oper) (listed : Array Bool) : Prop := ∀ j o, ops[j]? = some o → listed.getD j false = true → ∀ e ∈ o.after, Region.binds .any e = true → listed.getD e.on false = true
theorem DC.anc {listed : Array Bool} (h : DC ops listed) {j k : Nat} (ha : Anc ops j k) (hj : ∀ o, ops[j]? = some o → ∀ e ∈ o.after, Region.binds .any e = true → listed.getD e.on false = true) : listed.getD k false = true := by
  induction ha with
  | here ho he hb hk => subst hk; exact hj _ ho _ he hb
  | step ho he hb hk ih =>
    refine ih (fun o' ho' e' he' hb' => ?_)
    exact h _ o' ho' (hj _ ho _ he hb) e' he' hb'
theorem DC.set {listed : Array Bool} (h : DC ops listed) {i : Nat} (hi : i ∈ Region.ready .any ops listed) : DC ops (listed.setIfInBounds i true) := by
  intro j o ho hl e he hb
  obtain ⟨_, oi, hoi, hall⟩ := mem_ready.1 hi
  by_cases hji : i = j
  · subst hji
    rw [hoi] at ho
    injection ho with ho
    subst ho
    exact getD_set_true (hall e he hb)
  · rw [getD_set_ne false hji] at hl
    exact getD_set_true (h j o ho hl e he hb)
def wpAnyM (P : Program) (ops : Array Oper) (C : World → Prop) (eff : Nat → Bool) (Q : Post) : Nat → Array Bool → Act → Prop
  | 0, listed, a => Region.ready .any ops listed = [] ∧ ∀ w, C w → Q .normal a w
  | f + 1, listed, a => (Region.ready .any ops listed = [] → ∀ w, C w → Q .normal a w) ∧
    ∀ i ∈ Region.ready .any ops listed, if eff i = true then ∀ w, C w → wpOp P ops Q i (wpAny P .any ops Q f (listed.setIfInBounds i true)) a w else qOp P ops C i (wpAnyM P ops C eff Q f (listed.setIfInBounds i true)) a
theorem any_of_M : ∀ (f : Nat) (listed : Array Bool) (a : Act) (w : World), C w → wpAnyM P ops C eff Q f listed a → wpAny P .any ops Q f listed a w
  | 0, _, _, _, hw, h => ⟨h.1, h.2 _ hw⟩
  | f + 1, listed, a, w, hw, h => ⟨fun h0 => h.1 h0 w hw, fun i hi => by
      have h2 := h.2 i hi
      split at h2
      · exact h2 w hw
      · exact wpOp_of_qOp hw (fun a' w' hw' hh => any_of_M f _ a' w' hw' hh) h2⟩
theorem M_first {k : Nat} {ok : Oper} {v : Value} (hk : ops[k]? = some ok) (hsel : ∀ (j : Nat) (o : Oper) cs b, ops[j]? = some o → o.op ≠ .select cs b) (hek : eff k = false) :
    ∀ (fuel : Nat) (listed : Array Bool) (a : Act), DC ops listed →
      (∀ j oj, ops[j]? = some oj → j ≠ k → listed.getD j true = false → (∀ e ∈ oj.after, Region.binds .any e = true → e.on ≠ k) → ok.apart ops oj = true) →
      k ∈ Region.ready .any ops listed → YieldsIn P ops C ok v a → (Yields P ops ok v a ∨ ∀ j, eff j = true → listed.getD j true = false → Anc ops j k) →
      wpAnyM P ops C eff (np Q) fuel (listed.setIfInBounds k true) (a.put ok.dst v) → wpAnyM P ops C eff (np Q) (fuel + 1) listed a := by
  intro fuel
  induction fuel with
  | zero =>
    intro listed a hdc _ hr hy hE H
    refine ⟨fun h => (by rw [h] at hr; cases hr), fun j hj => ?_⟩
    by_cases hji : j = k
    · subst hji
      rw [if_neg (by rw [hek]; simp)]
      exact hy.qOp hk H
    · have := ready_mono hj hji
      rw [H.1] at this
      cases this
  | succ fuel ih =>
    intro listed a hdc hfree hr hy hE H
    refine ⟨fun h => (by rw [h] at hr; cases hr), fun j hj => ?_⟩
    by_cases hji : j = k
    · subst hji
      rw [if_neg (by rw [hek]; simp)]
      exact hy.qOp hk H
    · obtain ⟨hjun, oj, hoj, hall⟩ := mem_ready.1 hj
      have hkun : listed.getD k false = false := by
        have h0 := (mem_ready.1 hr).1
        rcases Nat.lt_or_ge k listed.size with h' | h'
        · simp [h'] at h0 ⊢; exact h0
        · simp [Array.getElem?_eq_none h'] at h0
      by_cases hej : eff j = true
      · rw [if_pos hej]
        rcases hE with hE | hE
        · intro w hw
          have h1 := any_of_M (fuel + 1) _ _ w hw H
          have h2 := wpAny_first (Q := np Q) hk hsel (fun c a w h => h.elim) (fuel + 1) listed a w hfree hr hE h1
          exact h2.2 j hj
        · have := hdc.anc (hE j hej hjun) (fun o ho e he hb => by rw [hoj] at ho; injection ho with ho; subst ho; exact hall e he hb)
          rw [hkun] at this; cases this
      · rw [if_neg hej]
        have hnot : ∀ e ∈ oj.after, Region.binds .any e = true → e.on ≠ k := fun e he hb heq => by
          have h1 := hall e he hb
          rw [heq, hkun] at h1; cases h1
        have h1 := H.2 j (ready_mono hj hji)
        rw [if_neg hej] at h1
        have hap := hfree j oj hoj hji hjun hnot
        have h2 := qOp_put hoj hap (fun cs b => hsel k ok cs b hk) (fun cs b => hsel j oj cs b hoj) hy h1
        have hfree' : ∀ i oi, ops[i]? = some oi → i ≠ k → (listed.setIfInBounds j true).getD i true = false →
            (∀ e ∈ oi.after, Region.binds .any e = true → e.on ≠ k) → ok.apart ops oi = true := fun i oi hi hik hun hno => by
          refine hfree i oi hi hik ?_ hno
          by_cases hjk : j = i
          · subst hjk; exact hjun
          · rw [getD_set_ne true hjk] at hun; exact hun
        obtain ⟨a1, a2, a3⟩ := Oper.apart_spec hap
        have hE' : ∀ u, Yields P ops ok v (a.put oj.dst u) ∨ ∀ i, eff i = true → (listed.setIfInBounds j true).getD i true = false → Anc ops i k := fun u => by
          rcases hE with hE | hE
          · exact .inl (hE.of_same (execOp_put ok (fun cs b => hsel k ok cs b hk) a oj.dst u a3) (wanted_put ok a oj.dst u a3))
          · refine .inr fun i hi hun => hE i hi ?_
            by_cases hjk : j = i
            · subst hjk; exact hjun
            · rw [getD_set_ne true hjk] at hun; exact hun
        -- the act behind j is a.put of some value
        have h3 : qOp P ops C j (fun a' => (∃ u, a' = a.put oj.dst u) ∧ YieldsIn P ops C ok v a' ∧ wpAnyM P ops C eff (np Q) fuel ((listed.setIfInBounds k true).setIfInBounds j true) (a'.put ok.dst v)) a := by
          unfold qOp at h2 ⊢
          simp only [hoj] at h2 ⊢
          split
          · rename_i hw
            simp only [hw, if_true] at h2
            obtain ⟨u, hu, hn⟩ := h2
            exact ⟨u, hu, ⟨u, rfl⟩, hn⟩
          · rename_i hw
            simp only [hw] at h2
            exact ⟨⟨undef, rfl⟩, h2⟩
        refine qOp_mono (fun a' h4 => ?_) h3
        obtain ⟨⟨u, rfl⟩, hy', H'⟩ := h4
        refine ih (listed.setIfInBounds j true) _ (hdc.set hj) hfree' (ready_mono hr (Ne.symm hji)) hy' (hE' u) ?_
        rw [Array.setIfInBounds_comm _ _ hji]
        exact H'
theorem M_eff {k : Nat} {fuel : Nat} {listed : Array Bool} {a : Act} (hr : Region.ready .any ops listed = [k]) (hek : eff k = true)
    (h : ∀ w, C w → wpOp P ops Q k (wpAny P .any ops Q fuel (listed.setIfInBounds k true)) a w) : wpAnyM P ops C eff Q (fuel + 1) listed a :=
  ⟨fun h0 => (by rw [h0] at hr; cases hr), fun i hi => by
    rw [hr] at hi
    simp only [List.mem_singleton] at hi
    subst hi
    rw [if_pos hek]; exact h⟩
end
/-! ### as a walk -/
def upto (n k : Nat) : Array Bool := (List.replicate k true ++ List.replicate (n - k) false).toArray
theorem upto_set {n k : Nat} (h : k < n) : (upto n k).setIfInBounds k true = upto n (k + 1) := by
  apply Array.toList_inj.1
  simp only [upto, Array.toList_setIfInBounds]
  rw [List.set_append_right _ _ (by simp)]
  simp only [List.length_replicate, Nat.sub_self]
  rw [show n - k = (n - (k + 1)) + 1 by omega, List.replicate_succ, List.set_cons_zero, List.replicate_succ' (n := k)]
  simp
theorem upto_dc {ops : Array Oper} {n k : Nat} (hn : n = ops.size) (hB : ∀ j o, j < k → ops[j]? = some o → ∀ e ∈ o.after, Region.binds .any e = true → e.on < k) (hk : k ≤ n) : DC ops (upto n k) := by
  intro j o ho hl e he hb
  have hj : j < k := by
    rcases Nat.lt_or_ge j k with h | h
    · exact h
    · exfalso
      simp only [upto, Array.getD_eq_getD_getElem?, List.getElem?_toArray] at hl
      rw [List.getElem?_append_right (by simpa using h)] at hl
      simp only [List.getElem?_replicate, List.length_replicate] at hl
      split at hl <;> simp at hl
  have := hB j o hj ho e he hb
  simp only [upto, Array.getD_eq_getD_getElem?, List.getElem?_toArray]
  rw [List.getElem?_append_left (by simpa using this)]
  simp [this]
section
variable {P : Program} {Z : Post} {ks : List Fr} {N : Nat} {D : List Deferred} {sl : Sl} {W w : World} {ops : Array Oper} {F : Snap} {cs : List Res} {t : TypeId} {v : Value} {pos : String} {af : Array Edge} {C : World → Prop} {eff : Nat → Bool} {k f : Nat}
/-- what is looked up of a region, once: each operation may come at its place, and those behind wait or are apart -/
def lexOk (ops : Array Oper) : Bool := Region.noSelect ops && (List.range ops.size).all fun k => (Region.ready .any ops (upto ops.size k)).contains k && Region.free .any ops (upto ops.size k) k && ((ops[k]?).map fun o => o.after.all fun e => !Region.binds .any e || decide (e.on < k)).getD true
structure Lx (ops : Array Oper) : Prop where
  ok : lexOk ops = true
theorem Lx.at_ (h : Lx ops) (hk : k < ops.size) : k ∈ Region.ready .any ops (upto ops.size k) ∧ Region.free .any ops (upto ops.size k) k = true ∧ ∀ o, ops[k]? = some o → ∀ e ∈ o.after, Region.binds .any e = true → e.on < k := by
  have := h.ok
  simp only [lexOk, Bool.and_eq_true, List.all_eq_true, List.mem_range] at this
  obtain ⟨⟨h1, h2⟩, h3⟩ := this.2 k hk
  refine ⟨by simpa using h1, h2, fun o ho e he hb => ?_⟩
  rw [ho] at h3
  simp only [Option.map_some, Option.getD_some] at h3
  have := Array.all_eq_true_iff_forall_mem.1 h3 e he
  simpa [hb] using this
theorem Lx.sel (h : Lx ops) : Region.noSelect ops = true := by
  have := h.ok
  simp only [lexOk, Bool.and_eq_true] at this
  exact this.1
theorem Lx.dc (h : Lx ops) (hk : k ≤ ops.size) : DC ops (upto ops.size k) :=
  upto_dc rfl (fun j o hj ho e he hb => Nat.lt_trans ((h.at_ (k := j) (by omega)).2.2 o ho e he hb) hj) hk
def WM (P : Program) (ops : Array Oper) (Z : Post) (ks : List Fr) (N : Nat) (D : List Deferred) (C : World → Prop) (eff : Nat → Bool) (sl : Sl) (k : Nat) : Prop :=
  ∀ a, Ag N D sl a → wpAnyM P ops C eff (np (den P Z ks)) (ops.size - k) (upto ops.size k) a
def WD (P : Program) (ops : Array Oper) (Z : Post) (ks : List Fr) (N : Nat) (D : List Deferred) (sl : Sl) (k : Nat) (w : World) : Prop :=
  ∀ a, Ag N D sl a → wpAny P .any ops (np (den P Z ks)) (ops.size - k) (upto ops.size k) a w
theorem WC.dreg (C : World → Prop) (eff : Nat → Bool) {id : Nat} {l : List Oper} (hm : P.follows .mixedOrders = true) (hB : lexOk l.toArray = true) (hC : C { w with drawn := w.drawn + 1 }) (h : Lx l.toArray → WM P l.toArray Z ks N D C eff sl 0) : WC P Z ks N D sl (.region id l.toArray true) w := fun a ha => by
  refine wp_mono (Q := np (den P Z ks)) (wp_region_any hm ?_) np_imp
  have := any_of_M _ _ _ _ hC (h ⟨hB⟩ a ha)
  have e : upto l.toArray.size 0 = Array.replicate l.toArray.size false := by
    apply Array.toList_inj.1; simp [upto]
  rw [e] at this
  simpa using this
theorem wants {ops : Array Oper} {o : Oper} {a : Act} (hg : o.guard = none) : Region.wanted o (yielded ops a.tmps) = true := by simp [Region.wanted, hg]
theorem WM.val (fl : Nat) (hx : Lx ops) {d : Nat} {op : Op} (ho : ops[k]? = some { dst := some d, op := op, type := t, pos := pos, after := af, guard := none }) (he : eff k = false) (hE : ((List.range ops.size).all fun j => !eff j || decide (j < k) || ancB ops fl j k) = true)
    (h : ∀ w, C w → Runs P sl op t w v) (hd : Nat.ble (d + 1) N = true) (kk : WM P ops Z ks N D C eff ((d, v) :: sl) (k + 1)) : WM P ops Z ks N D C eff sl k := fun a ha => by
  have hlt : k < ops.size := (Array.getElem?_eq_some_iff.1 ho).1
  obtain ⟨h1, h2, h3⟩ := hx.at_ hlt
  rw [show ops.size - k = (ops.size - (k + 1)) + 1 by omega]
  refine M_first (v := v) ho (Region.noSelect_spec hx.sel) he _ _ a (hx.dc (Nat.le_of_lt hlt)) (Region.free_spec ho h2) h1 (.inl ⟨wants rfl, fun w hC => ?_⟩) (.inr fun j hj hun => ?_) ?_
  · unfold Oper.quietAt
    rw [h w hC a.eval (fun x v hx => ha.ev hx) _ rfl rfl]
    exact ⟨rfl, rfl⟩
  · rcases Nat.lt_or_ge j ops.size with hjl | hjl
    · have := List.all_eq_true.1 hE j (List.mem_range.2 hjl)
      simp only [hj, Bool.not_true, Bool.false_or, Bool.or_eq_true, decide_eq_true_eq] at this
      rcases this with hjk | hanc
      · exfalso
        simp only [upto, Array.getD_eq_getD_getElem?, List.getElem?_toArray] at hun
        rw [List.getElem?_append_left (by simpa using hjk)] at hun
        simp [hjk] at hun
      · exact ancB_spec fl j k hanc
    · exfalso
      have : (upto ops.size k).size = ops.size := by simp [upto]; omega
      rw [Array.getD_eq_getD_getElem?, Array.getElem?_eq_none (by omega)] at hun
      simp at hun
  · rw [upto_set hlt]; exact kk _ (ha.put (Nat.le_of_ble_eq_true hd) v)
/-- an operation that hangs on nothing but its operands -/
theorem WM.pure (hx : Lx ops) {d : Nat} {op : Op} (ho : ops[k]? = some { dst := some d, op := op, type := t, pos := pos, after := af, guard := none }) (he : eff k = false)
    (h : ∀ w, Runs P sl op t w v) (hd : Nat.ble (d + 1) N = true) (kk : WM P ops Z ks N D C eff ((d, v) :: sl) (k + 1)) : WM P ops Z ks N D C eff sl k := fun a ha => by
  have hlt : k < ops.size := (Array.getElem?_eq_some_iff.1 ho).1
  obtain ⟨h1, h2, h3⟩ := hx.at_ hlt
  rw [show ops.size - k = (ops.size - (k + 1)) + 1 by omega]
  have hrun : ∀ w, (execOp a.eval { dst := some d, op := op, type := t, pos := pos, after := af, guard := none }).run P w = .ok (.value v) w := fun w => h w a.eval (fun x v hx => ha.ev hx) _ rfl rfl
  refine M_first (v := v) ho (Region.noSelect_spec hx.sel) he _ _ a (hx.dc (Nat.le_of_lt hlt)) (Region.free_spec ho h2) h1 (.inl ⟨wants rfl, fun w hC => ?_⟩) (.inl (.inl ⟨wants rfl, hrun⟩)) ?_
  · unfold Oper.quietAt
    rw [hrun w]
    exact ⟨rfl, rfl⟩
  · rw [upto_set hlt]; exact kk _ (ha.put (Nat.le_of_ble_eq_true hd) v)
theorem WM.call (fl : Nat) (hx : Lx ops) {d : Nat} {g : FuncId} {xs : List Operand} {vs : List Value} {ts : Array TypeId} (ho : ops[k]? = some { dst := some d, op := .call { callee := .value (.func g), args := xs.toArray, argTypes := ts }, type := t, pos := pos, after := af, guard := none }) (he : eff k = false) (hE : ((List.range ops.size).all fun j => !eff j || decide (j < k) || ancB ops fl j k) = true)
    (hc : Can P g) (hv : args_ sl xs = some vs) (hd : Nat.ble (d + 1) N = true) (c : ∀ w, C w → Calls P g vs.toArray w fun e w' => e = .returned v ∧ C w') (kk : WM P ops Z ks N D C eff ((d, v) :: sl) (k + 1)) : WM P ops Z ks N D C eff sl k := fun a ha => by
  have hlt : k < ops.size := (Array.getElem?_eq_some_iff.1 ho).1
  obtain ⟨h1, h2, h3⟩ := hx.at_ hlt
  rw [show ops.size - k = (ops.size - (k + 1)) + 1 by omega]
  refine M_first (v := v) ho (Region.noSelect_spec hx.sel) he _ _ a (hx.dc (Nat.le_of_lt hlt)) (Region.free_spec ho h2) h1 (.inl ⟨wants rfl, fun w hC => ?_⟩) (.inr fun j hj hun => ?_) ?_
  · unfold Oper.quietAt
    rw [exec_call hc rfl rfl (args_spec (fun x v hx => ha.ev hx) xs vs hv)]
    exact ⟨rfl, c w hC⟩
  · rcases Nat.lt_or_ge j ops.size with hjl | hjl
    · have := List.all_eq_true.1 hE j (List.mem_range.2 hjl)
      simp only [hj, Bool.not_true, Bool.false_or, Bool.or_eq_true, decide_eq_true_eq] at this
      rcases this with hjk | hanc
      · exfalso
        simp only [upto, Array.getD_eq_getD_getElem?, List.getElem?_toArray] at hun
        rw [List.getElem?_append_left (by simpa using hjk)] at hun
        simp [hjk] at hun
      · exact ancB_spec fl j k hanc
    · exfalso
      have : (upto ops.size k).size = ops.size := by simp [upto]; omega
      rw [Array.getD_eq_getD_getElem?, Array.getElem?_eq_none (by omega)] at hun
      simp at hun
  · rw [upto_set hlt]; exact kk _ (ha.put (Nat.le_of_ble_eq_true hd) v)
/-- from here on one behind the other -/
theorem WM.toD (hx : Lx ops) (he : eff k = true) (hk : k < ops.size) (hr : Region.ready .any ops (upto ops.size k) = [k]) (h : ∀ w, C w → WD P ops Z ks N D sl k w) : WM P ops Z ks N D C eff sl k := fun a ha => by
  rw [show ops.size - k = (ops.size - (k + 1)) + 1 by omega]
  refine M_eff hr he fun w hC => ?_
  have := h w hC a ha
  rw [show ops.size - k = (ops.size - (k + 1)) + 1 by omega] at this
  exact this.2 k (by rw [hr]; simp)
theorem WM.fin (hk : k = ops.size) (hr : Region.ready .any ops (upto ops.size k) = []) (h : ∀ w, C w → WN P Z ks N D sl w) : WM P ops Z ks N D C eff sl k := fun a ha => by
  rw [show ops.size - k = 0 by omega]
  exact ⟨hr, fun w hC => h w hC a ha⟩
theorem WD.fin (hk : k = ops.size) (hr : Region.ready .any ops (upto ops.size k) = []) (h : WN P Z ks N D sl w) : WD P ops Z ks N D sl k w := fun a ha => by
  rw [show ops.size - k = 0 by omega]
  exact ⟨hr, h a ha⟩
theorem WD.pure (hx : Lx ops) {d : Nat} {op : Op} (ho : ops[k]? = some { dst := some d, op := op, type := t, pos := pos, after := af, guard := none })
    (h : ∀ w, Runs P sl op t w v) (hd : Nat.ble (d + 1) N = true) (kk : WD P ops Z ks N D ((d, v) :: sl) (k + 1) w) : WD P ops Z ks N D sl k w := fun a ha => by
  have hlt : k < ops.size := (Array.getElem?_eq_some_iff.1 ho).1
  obtain ⟨h1, h2, h3⟩ := hx.at_ hlt
  rw [show ops.size - k = (ops.size - (k + 1)) + 1 by omega]
  have hrun : ∀ w, (execOp a.eval { dst := some d, op := op, type := t, pos := pos, after := af, guard := none }).run P w = .ok (.value v) w := fun w => h w a.eval (fun x v hx => ha.ev hx) _ rfl rfl
  refine wpAny_first (v := v) ho (Region.noSelect_spec hx.sel) (fun c a w h => h.elim) _ _ a w (Region.free_spec ho h2) h1 (.inl ⟨wants rfl, hrun⟩) ?_
  rw [upto_set hlt]; exact kk _ (ha.put (Nat.le_of_ble_eq_true hd) v)
/-- an operation that all others wait for: by the lemmas for a list of one -/
theorem WD.op {o : Oper} (ho : ops[k]? = some o) (hg : o.guard = none) (hr : Region.ready .any ops (upto ops.size k) = [k]) (h : WL P ops (fun _ _ _ => False) [.cut (fun a' w' => wpAny P .any ops (np (den P Z ks)) (ops.size - (k + 1)) (upto ops.size (k + 1)) a' w')] N D sl [o] w) : WD P ops Z ks N D sl k w := fun a ha => by
  have hlt : k < ops.size := (Array.getElem?_eq_some_iff.1 ho).1
  rw [show ops.size - k = (ops.size - (k + 1)) + 1 by omega]
  refine wpAny_all hr (by simp) fun i hi => ?_
  simp only [List.mem_singleton] at hi
  subst hi
  have h1 := h a ha
  unfold wpOp
  rw [ho]
  simp only [wants hg, if_true]
  unfold wpList at h1
  rw [if_pos (wants hg)] at h1
  have hsame : ∀ e a w, den P (fun _ _ _ => False) [.cut (fun a' w' => wpAny P .any ops (np (den P Z ks)) (ops.size - (i + 1)) (upto ops.size (i + 1)) a' w')] e a w → e = .normal ∧ wpAny P .any ops (np (den P Z ks)) (ops.size - (i + 1)) (upto ops.size (i + 1)) a w := by
    intro e a w h
    cases e with
    | normal => exact ⟨rfl, h⟩
    | _ => exact h.elim
  rw [upto_set hlt]
  rcases h1 with h1 | ⟨_, a0, w0, h1⟩
  · left
    unfold Oper.wp at h1 ⊢
    generalize (execOp a.eval o).run P w = r at *
    cases r with
    | ok n w' =>
      cases n <;> simp only [Oper.upon] at h1 ⊢
      case value u => exact (hsame _ _ _ h1).2
      case skip => exact (hsame _ _ _ h1).2
      case defer d => exact (hsame _ _ _ h1).2
      case enter f args =>
        refine h1.mono fun e w'' hh => ?_
        cases e with
        | returned u => exact (hsame _ _ _ hh).2
        | panicked ch => exact absurd (hsame _ _ _ hh).1 (by simp)
        | outgrown =>
          obtain ⟨a0, w0, hh⟩ := hh
          exact absurd (hsame _ _ _ hh).1 (by simp)
      case row row args => exact h1.mono fun u w'' hh => (hsame _ _ _ hh).2
    | halt hh w' =>
      cases hh <;> simp only [Oper.upon] at h1
      case panic u => exact absurd (hsame _ _ _ h1).1 (by simp)
  · exact absurd (hsame _ _ _ h1).1 (by simp)
theorem WD.next (h : WD P ops Z ks N D sl (k + 1) w) : WN P (fun _ _ _ => False) [.cut (fun a' w' => wpAny P .any ops (np (den P Z ks)) (ops.size - (k + 1)) (upto ops.size (k + 1)) a' w')] N D sl w := h
end
end B
end Go.Proofs.Ytkfkdenikkadhaa
