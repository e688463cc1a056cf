/- Drawn regions walked in an order of one's own. Plain lemmas. -/
import Derived.Test.YtkfkdenikkadhaaBaseN
namespace Go.Proofs.Ytkfkdenikkadhaa
open Go Go.RowKit
set_option linter.unusedVariables false
set_option linter.unusedSimpArgs false
namespace B
section
variable {P : Program} {Z : Post} {ks : List Fr} {N : Nat} {D : List Deferred} {sl : Sl} {W w : World} {ops : Array Oper} {C : World → Prop} {eff : Nat → Bool} {t : TypeId} {v : Value} {pos : String} {af : Array Edge} {k n : Nat} {L : Array Bool}
/-- 'L': what has run; n: how many are left -/
def WMs (P : Program) (ops : Array Oper) (Z : Post) (ks : List Fr) (N : Nat) (D : List Deferred) (C : World → Prop) (eff : Nat → Bool) (sl : Sl) (L : Array Bool) (n : Nat) : Prop :=
  ∀ a, Ag N D sl a → wpAnyM P ops C eff (np (den P Z ks)) n L a
def WDs (P : Program) (ops : Array Oper) (Z : Post) (ks : List Fr) (N : Nat) (D : List Deferred) (sl : Sl) (L : Array Bool) (n : Nat) (w : World) : Prop :=
  ∀ a, Ag N D sl a → wpAny P .any ops (np (den P Z ks)) n L a w
theorem WM.s (h : WMs P ops Z ks N D C eff sl (upto ops.size k) (ops.size - k)) : WM P ops Z ks N D C eff sl k := h
theorem WDs.back (h : WD P ops Z ks N D sl k w) (hL : L = upto ops.size k) (hn : n = ops.size - k) : WDs P ops Z ks N D sl L n w := by subst hL; subst hn; exact h
def dcB (ops : Array Oper) (L : Array Bool) : Bool := (List.range ops.size).all fun j => !(L.getD j false) || ((ops[j]?).map fun o => o.after.all fun e => !Region.binds .any e || L.getD e.on false).getD true
theorem dcB_spec (h : dcB ops L = true) : DC ops L := by
  intro j o ho hl e he hb
  have hj : j < ops.size := (Array.getElem?_eq_some_iff.1 ho).1
  have := List.all_eq_true.1 h j (List.mem_range.2 hj)
  rw [ho, hl] at this
  simp only [Bool.not_true, Bool.false_or, Option.map_some, Option.getD_some] at this
  have := Array.all_eq_true_iff_forall_mem.1 this e he
  simpa [hb] using this
theorem WMs.pure (hs : Region.noSelect ops = true) {d : Nat} {op : Op} (ho : ops[k]? = some { dst := some d, op := op, type := t, pos := pos, after := af, guard := none }) (he : eff k = false) (hdc : dcB ops L = true) (hf : Region.free .any ops L k = true) (hr : (Region.ready .any ops L).contains k = true)
    (h : ∀ w, Runs P sl op t w v) (hd : Nat.ble (d + 1) N = true) (kk : WMs P ops Z ks N D C eff ((d, v) :: sl) (L.setIfInBounds k true) n) : WMs P ops Z ks N D C eff sl L (n + 1) := fun a ha => by
  have hrun : ∀ w, (execOp a.eval { dst := some d, op := op, type := t, pos := pos, after := af, guard := none }).run P w = .ok (.value v) w := fun w => h w a.eval (fun x v hx => ha.ev hx) _ rfl rfl
  refine M_first (v := v) ho (Region.noSelect_spec hs) he _ _ a (dcB_spec hdc) (Region.free_spec ho hf) (by simpa using hr) (.inl ⟨wants rfl, fun w hC => ?_⟩) (.inl (.inl ⟨wants rfl, hrun⟩)) (kk _ (ha.put (Nat.le_of_ble_eq_true hd) v))
  unfold Oper.quietAt
  rw [hrun w]
  exact ⟨rfl, rfl⟩
theorem WMs.val (fl : Nat) (hs : Region.noSelect ops = true) {d : Nat} {op : Op} (ho : ops[k]? = some { dst := some d, op := op, type := t, pos := pos, after := af, guard := none }) (he : eff k = false) (hdc : dcB ops L = true) (hf : Region.free .any ops L k = true) (hr : (Region.ready .any ops L).contains k = true) (hL : L.size = ops.size)
    (hE : ((List.range ops.size).all fun j => !eff j || L.getD j true || ancB ops fl j k) = true)
    (h : ∀ w, C w → Runs P sl op t w v) (hd : Nat.ble (d + 1) N = true) (kk : WMs P ops Z ks N D C eff ((d, v) :: sl) (L.setIfInBounds k true) n) : WMs P ops Z ks N D C eff sl L (n + 1) := fun a ha => by
  refine M_first (v := v) ho (Region.noSelect_spec hs) he _ _ a (dcB_spec hdc) (Region.free_spec ho hf) (by simpa using hr) (.inl ⟨wants rfl, fun w hC => ?_⟩) (.inr fun j hj hun => ?_) (kk _ (ha.put (Nat.le_of_ble_eq_true hd) v))
  · unfold Oper.quietAt
    rw [h w hC a.eval (fun x v hx => ha.ev hx) _ rfl rfl]
    exact ⟨rfl, rfl⟩
  · rcases Nat.lt_or_ge j ops.size with hjl | hjl
    · have := List.all_eq_true.1 hE j (List.mem_range.2 hjl)
      rw [hj, hun] at this
      exact ancB_spec fl j k (by simpa using this)
    · exfalso
      rw [Array.getD_eq_getD_getElem?, Array.getElem?_eq_none (by omega)] at hun
      simp at hun
/-- now the effects -/
theorem WMs.toD (hr : (Region.ready .any ops L).all eff = true) (hn : (Region.ready .any ops L).isEmpty = false) (h : ∀ w, C w → WDs P ops Z ks N D sl L (n + 1) w) : WMs P ops Z ks N D C eff sl L (n + 1) := fun a ha => by
  refine ⟨fun h0 => (by rw [h0] at hn; cases hn), fun i hi => ?_⟩
  rw [if_pos (List.all_eq_true.1 hr i hi)]
  exact fun w hC => (h w hC a ha).2 i hi
theorem wpOp_of_WL {Q : Post} {K : Act → World → Prop} {i : Nat} {o : Oper} {a : Act} (ho : ops[i]? = some o) (hg : o.guard = none) (h : WL P ops (fun _ _ _ => False) [.cut K] N D sl [o] w) (ha : Ag N D sl a) : wpOp P ops Q i K a w := by
  have h1 := h a ha
  unfold wpOp
  rw [ho]
  simp only [wants hg, if_true]
  unfold wpList at h1
  rw [if_pos (wants hg)] at h1
  have hsame : ∀ e a w, den P (fun _ _ _ => False) [.cut K] e a w → e = .normal ∧ K a w := by
    intro e a w h
    cases e with
    | normal => exact ⟨rfl, h⟩
    | _ => exact h.elim
  rcases h1 with h1 | ⟨_, a0, w0, h1⟩
  · left
    unfold Oper.wp at h1 ⊢
    generalize (execOp a.eval o).run P w = r at *
    cases r with
    | ok n w' =>
      cases n <;> simp only [Oper.upon] at h1 ⊢
      case value u => exact (hsame _ _ _ h1).2
      case skip => exact (hsame _ _ _ h1).2
      case defer d => exact (hsame _ _ _ h1).2
      case enter f args =>
        refine h1.mono fun e w'' hh => ?_
        cases e with
        | returned u => exact (hsame _ _ _ hh).2
        | panicked ch => exact absurd (hsame _ _ _ hh).1 (by simp)
        | outgrown =>
          obtain ⟨a0, w0, hh⟩ := hh
          exact absurd (hsame _ _ _ hh).1 (by simp)
      case row row args => exact h1.mono fun u w'' hh => (hsame _ _ _ hh).2
    | halt hh w' =>
      cases hh <;> simp only [Oper.upon] at h1
      case panic u => exact absurd (hsame _ _ _ h1).1 (by simp)
  · exact absurd (hsame _ _ _ h1).1 (by simp)
/-- what is left behind operation i -/
abbrev KD (P : Program) (ops : Array Oper) (Z : Post) (ks : List Fr) (L : Array Bool) (n : Nat) : Act → World → Prop := fun a' w' => wpAny P .any ops (np (den P Z ks)) n L a' w'
theorem WDs.op {i : Nat} {o : Oper} (ho : ops[i]? = some o) (hg : o.guard = none) (hr : Region.ready .any ops L = [i]) (h : WL P ops (fun _ _ _ => False) [.cut (KD P ops Z ks (L.setIfInBounds i true) n)] N D sl [o] w) : WDs P ops Z ks N D sl L (n + 1) w := fun a ha =>
  wpAny_all hr (by simp) fun i' hi => by
    simp only [List.mem_singleton] at hi
    subst hi
    exact wpOp_of_WL ho hg h ha
/-- two that wait for nothing: either may come first -/
theorem WDs.two {i j : Nat} {o o' : Oper} (hr : Region.ready .any ops L = [i, j]) (ho : ops[i]? = some o) (hg : o.guard = none) (ho' : ops[j]? = some o') (hg' : o'.guard = none)
    (h : WL P ops (fun _ _ _ => False) [.cut (KD P ops Z ks (L.setIfInBounds i true) n)] N D sl [o] w) (h' : WL P ops (fun _ _ _ => False) [.cut (KD P ops Z ks (L.setIfInBounds j true) n)] N D sl [o'] w) : WDs P ops Z ks N D sl L (n + 1) w := fun a ha =>
  wpAny_all hr (by simp) fun i' hi => by
    simp only [List.mem_cons, List.not_mem_nil, or_false] at hi
    rcases hi with rfl | rfl
    · exact wpOp_of_WL ho hg h ha
    · exact wpOp_of_WL ho' hg' h' ha
theorem WDs.next (h : WDs P ops Z ks N D sl L n w) : WN P (fun _ _ _ => False) [.cut (KD P ops Z ks L n)] N D sl w := h
theorem WDs.fin (hr : Region.ready .any ops L = []) (h : WN P Z ks N D sl w) : WDs P ops Z ks N D sl L 0 w := fun a ha => ⟨hr, h a ha⟩
end
end B
end Go.Proofs.Ytkfkdenikkadhaa
