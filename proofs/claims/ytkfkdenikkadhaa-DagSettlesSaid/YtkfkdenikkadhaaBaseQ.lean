/- Drawn regions with effects, in an order of one's own: what a class of worlds fixes is read first. Plain lemmas. -/
import Derived.Test.YtkfkdenikkadhaaBaseP
namespace Go.Proofs.Ytkfkdenikkadhaa
open Go Go.RowKit
set_option linter.unusedVariables false
set_option linter.unusedSimpArgs false
namespace B
section
variable {P : Program} {ops : Array Oper} {C : World → Prop} {S : Nat → Bool} {Q : Post}
/-- what is known of the world while some is still to be read: 'S': behind these nothing is asked any more -/
def EI (S : Nat → Bool) (C : World → Prop) (L : Array Bool) (w : World) : Prop := (∃ s, S s = true ∧ L.getD s false = true) ∨ C w
def wpE (P : Program) (ops : Array Oper) (S : Nat → Bool) (C : World → Prop) (Q : Post) : Nat → Array Bool → Act → World → Prop
  | 0, L, a, w => EI S C L w ∧ Region.ready .any ops L = [] ∧ Q .normal a w
  | f + 1, L, a, w => EI S C L w ∧ (Region.ready .any ops L = [] → Q .normal a w) ∧ ∀ i ∈ Region.ready .any ops L, wpOp P ops Q i (wpE P ops S C Q f (L.setIfInBounds i true)) a w
theorem wpE_inv : ∀ {f : Nat} {L : Array Bool} {a : Act} {w : World}, wpE P ops S C Q f L a w → EI S C L w
  | 0, _, _, _, h => h.1
  | _ + 1, _, _, _, h => h.1
theorem any_of_E : ∀ (f : Nat) (L : Array Bool) (a : Act) (w : World), wpE P ops S C Q f L a w → wpAny P .any ops Q f L a w
  | 0, _, _, _, h => h.2
  | f + 1, L, a, w, h => ⟨h.2.1, fun i hi => wpOp_mono (fun a' w' h' => any_of_E f _ a' w' h') (h.2.2 i hi)⟩
/-- the normal way out; or a panic, whatever lies in the slots -/
def pp (Q : Post) : Post
  | .normal, a, w => Q .normal a w
  | .panic ch, a, w => ∀ a' : Act, a'.defers = a.defers → a'.tmps.size = a.tmps.size → Q (.panic ch) a' w
  | _, _, _ => False
theorem pp_imp {Q : Post} : ∀ e a w, pp Q e a w → Q e a w := fun e a w h => by
  cases e with
  | normal => exact h
  | panic ch => exact h a rfl rfl
  | _ => exact h.elim
theorem pp_put {Q : Post} {ch : List PanicEntry} {a : Act} {d : Option Tmp} {v : Value} {w : World} (h : pp Q (.panic ch) (a.put d v) w) : pp Q (.panic ch) a w := fun a' h1 h2 => h a' (by rw [h1]; cases d <;> rfl) (by rw [h2]; cases d <;> simp [Act.put])
def YC (P : Program) (ops : Array Oper) (C : World → Prop) (o : Oper) (v : Value) (a : Act) : Prop :=
  (Region.wanted o (yielded ops a.tmps) = true ∧ ∀ w, C w → (execOp a.eval o).run P w = .ok (.value v) w) ∨
  (Region.wanted o (yielded ops a.tmps) = false ∧ v = undef)
theorem YC.wpOp {i : Nat} {o : Oper} {v : Value} {a : Act} (hi : ops[i]? = some o) (hy : YC P ops C o v a)
    {K : Act → World → Prop} {w : World} (hC : C w) (h : K (a.put o.dst v) w) : wpOp P ops Q i K a w := by
  unfold Go.wpOp
  simp only [hi]
  rcases hy with ⟨hw, hv⟩ | ⟨hw, rfl⟩
  · simp only [hw, if_true, Oper.wp, hv w hC, Oper.upon]; exact .inl h
  · simp only [hw, Bool.false_eq_true, if_false]; exact h
theorem YC.of_same {o : Oper} {v : Value} {a a' : Act} (hy : YC P ops C o v a) (he : execOp a'.eval o = execOp a.eval o)
    (hw : Region.wanted o (yielded ops a'.tmps) = Region.wanted o (yielded ops a.tmps)) : YC P ops C o v a' := by
  unfold YC at *
  rw [he, hw]
  exact hy
theorem wpOp_putC {j : Nat} {oi oj : Oper} {v : Value} (hj : ops[j]? = some oj) (hap : oi.apart ops oj = true)
    (hsi : ∀ cs b, oi.op ≠ .select cs b) (hsj : ∀ cs b, oj.op ≠ .select cs b) {K : Act → World → Prop} {a : Act} {w : World}
    (hy : YC P ops C oi v a) (h : wpOp P ops (pp Q) j K (a.put oi.dst v) w) :
    wpOp P ops (pp Q) j (fun a' w' => YC P ops C oi v a' ∧ K (a'.put oi.dst v) w') a w := by
  obtain ⟨h1, h2, h3⟩ := Oper.apart_spec hap
  have keep : ∀ (a : Act), YC P ops C oi v a → ∀ u, YC P ops C oi v (a.put oj.dst u) := fun a hy u =>
    hy.of_same (execOp_put oi hsi a oj.dst u h3) (wanted_put oi a oj.dst u h3)
  have keepD : ∀ d, YC P ops C oi v { a with defers := d :: a.defers } := fun d => hy.of_same rfl rfl
  unfold wpOp at *
  simp only [hj] at *
  rw [wanted_put oj a oi.dst v h1] at h
  split
  · rename_i hw
    simp only [hw, if_true] at h
    rcases h with h | ⟨hasks, hlets⟩
    case inr => exact .inr ⟨by unfold Oper.asks at *; rw [execOp_put oj hsj a oi.dst v h1] at hasks; exact hasks, hlets⟩
    refine .inl ?_
    unfold Oper.wp at *
    rw [execOp_put oj hsj a oi.dst v h1] at h
    generalize (execOp a.eval oj).run P w = r at *
    cases r with
    | ok n w' =>
      cases n <;> simp only [Oper.upon] at h ⊢
      case value u => exact ⟨keep a hy u, by rw [← Act.put_comm a v u h2]; exact h⟩
      case skip => exact ⟨keep a hy _, by rw [← Act.put_comm a v undef h2]; exact h⟩
      case defer d =>
        refine ⟨keep _ (keepD d) _, ?_⟩
        rw [← Act.put_comm _ v undef h2, ← Act.put_defers]
        exact h
      case enter f args =>
        refine Calls.mono h fun e w'' he => ?_
        cases e with
        | returned u => exact ⟨keep a hy u, by rw [← Act.put_comm a v u h2]; exact he⟩
        | panicked c => exact pp_put he
        | outgrown => exact he
      case row row args => exact Rows.mono h fun u w'' he => ⟨keep a hy u, by rw [← Act.put_comm a v u h2]; exact he⟩
    | halt x w' =>
      cases x <;> simp only [Oper.upon] at h ⊢
      case panic u => exact pp_put h
  · rename_i hw
    simp only [hw] at h
    exact ⟨keep a hy _, by rw [← Act.put_comm a v undef h2]; exact h⟩
theorem un_ready {k : Nat} {L : Array Bool} (hr : k ∈ Region.ready .any ops L) : L.getD k false = false := by
  have h0 := (mem_ready.1 hr).1
  rcases Nat.lt_or_ge k L.size with h' | h'
  · simp [h'] at h0 ⊢; exact h0
  · simp [Array.getElem?_eq_none h'] at h0
theorem EI.back {k : Nat} {L : Array Bool} {w : World} (hdc : DC ops L) (hr : k ∈ Region.ready .any ops L) (hS : ∀ s, S s = true → Anc ops s k) (h : EI S C (L.setIfInBounds k true) w) : EI S C L w := by
  rcases h with ⟨s, hs, hl⟩ | h
  · by_cases e : k = s
    · subst e
      obtain ⟨_, o, ho, hall⟩ := mem_ready.1 hr
      have := hdc.anc (hS k hs) (fun o' ho' e' he' hb' => by rw [ho] at ho'; injection ho' with ho'; subst ho'; exact hall e' he' hb')
      rw [un_ready hr] at this; cases this
    · rw [getD_set_ne false e] at hl
      exact .inl ⟨s, hs, hl⟩
  · exact .inr h
theorem EI.now {k : Nat} {L : Array Bool} {w : World} (hdc : DC ops L) (hr : k ∈ Region.ready .any ops L) (hS : ∀ s, S s = true → Anc ops s k) (h : EI S C L w) : C w := by
  rcases h with ⟨s, hs, hl⟩ | h
  · have := hdc.anc (hS s hs) (fun o ho e he hb => hdc s o ho hl e he hb)
    rw [un_ready hr] at this; cases this
  · exact h
theorem E_first {C' : World → Prop} {k : Nat} {ok : Oper} {v : Value} (hk : ops[k]? = some ok) (hsel : ∀ (j : Nat) (o : Oper) cs b, ops[j]? = some o → o.op ≠ .select cs b)
    (hB : ∀ L w, DC ops L → k ∈ Region.ready .any ops L → EI S C (L.setIfInBounds k true) w → EI S C L w) (hN : ∀ L w, DC ops L → k ∈ Region.ready .any ops L → EI S C L w → C' w) :
    ∀ (fuel : Nat) (L : Array Bool) (a : Act) (w : World), DC ops L →
      (∀ j oj, ops[j]? = some oj → j ≠ k → L.getD j true = false → (∀ e ∈ oj.after, Region.binds .any e = true → e.on ≠ k) → ok.apart ops oj = true) →
      k ∈ Region.ready .any ops L → YC P ops C' ok v a →
      wpE P ops S C (pp Q) fuel (L.setIfInBounds k true) (a.put ok.dst v) w → wpE P ops S C (pp Q) (fuel + 1) L a w := by
  intro fuel
  induction fuel with
  | zero =>
    intro L a w hdc _ hr hy H
    have hI := hB _ _ hdc hr (wpE_inv H)
    refine ⟨hI, fun h => (by rw [h] at hr; cases hr), fun j hj => ?_⟩
    by_cases hji : j = k
    · subst hji
      exact hy.wpOp hk (hN _ _ hdc hr hI) H
    · have := ready_mono hj hji
      rw [H.2.1] at this
      cases this
  | succ fuel ih =>
    intro L a w hdc hfree hr hy H
    have hI := hB _ _ hdc hr (wpE_inv H)
    refine ⟨hI, fun h => (by rw [h] at hr; cases hr), fun j hj => ?_⟩
    by_cases hji : j = k
    · subst hji
      exact hy.wpOp hk (hN _ _ hdc hr hI) H
    · have h1 := H.2.2 j (ready_mono hj hji)
      obtain ⟨hjun, oj, hoj, hall⟩ := mem_ready.1 hj
      have hkun := un_ready hr
      have hnot : ∀ e ∈ oj.after, Region.binds .any e = true → e.on ≠ k := fun e he hb heq => by
        have h1 := hall e he hb
        rw [heq, hkun] at h1; cases h1
      have h2 := wpOp_putC hoj (hfree j oj hoj hji hjun hnot) (fun cs b => hsel k ok cs b hk) (fun cs b => hsel j oj cs b hoj) hy h1
      have hfree' : ∀ i oi, ops[i]? = some oi → i ≠ k → (L.setIfInBounds j true).getD i true = false →
          (∀ e ∈ oi.after, Region.binds .any e = true → e.on ≠ k) → ok.apart ops oi = true := fun i oi hi hik hun hno => by
        refine hfree i oi hi hik ?_ hno
        by_cases hjk : j = i
        · subst hjk; exact hjun
        · rw [getD_set_ne true hjk] at hun; exact hun
      refine wpOp_mono (fun a' w' h3 => ih (L.setIfInBounds j true) a' w' (hdc.set hj) hfree' (ready_mono hr (Ne.symm hji)) h3.1 ?_) h2
      rw [Array.setIfInBounds_comm _ _ hji]
      exact h3.2
theorem EI.backP {k : Nat} {L : Array Bool} {w : World} (hS : S k = false) (h : EI S C (L.setIfInBounds k true) w) : EI S C L w := by
  rcases h with ⟨s, hs, hl⟩ | h
  · have e : k ≠ s := fun e => by subst e; rw [hS] at hs; cases hs
    rw [getD_set_ne false e] at hl
    exact .inl ⟨s, hs, hl⟩
  · exact .inr h
end
section
variable {P : Program} {Z : Post} {ks : List Fr} {N : Nat} {D : List Deferred} {sl : Sl} {W w : World} {F : Snap} {cs : List Res} {ops : Array Oper} {C : World → Prop} {S : Nat → Bool} {t : TypeId} {v : Value} {pos : String} {af : Array Edge} {g : Option (Nat × Bool)} {k n : Nat} {L : Array Bool}
def WE (P : Program) (ops : Array Oper) (Z : Post) (ks : List Fr) (N : Nat) (D : List Deferred) (S : Nat → Bool) (C : World → Prop) (sl : Sl) (L : Array Bool) (n : Nat) (w : World) : Prop :=
  ∀ a, Ag N D sl a → wpE P ops S C (pp (den P Z ks)) n L a w
theorem WC.ereg (hs : St W F cs w) (C : World → Prop) (S : Nat → Bool) {id : Nat} {l : List Oper} (hm : P.follows .mixedOrders = true) (hB : Region.noSelect l.toArray = true) (h : Region.noSelect l.toArray = true → ∀ w', St W F cs w' → WE P l.toArray Z ks N D S C sl (upto l.toArray.size 0) l.toArray.size w') : WC P Z ks N D sl (.region id l.toArray true) w := fun a ha => by
  refine wp_mono (Q := pp (den P Z ks)) (wp_region_any hm ?_) pp_imp
  have := any_of_E _ _ _ _ (h hB _ hs.drew a ha)
  have e : upto l.toArray.size 0 = Array.replicate l.toArray.size false := by
    apply Array.toList_inj.1; simp [upto]
  rw [e] at this
  exact this
/-- the class of all worlds where nothing has changed that never changes -/
def EC (W : World) (F : Snap) (w : World) : Prop := ∃ cs, St W F cs w
theorem EC.mk (h : St W F cs w) {G : Snap} (hle : Le G F) : EC W G w := ⟨_, h.weak hle⟩
theorem WC.eregO (hs : St W F cs w) (S : Nat → Bool) {id : Nat} {l : List Oper} (hm : P.follows .mixedOrders = true) (hB : Region.noSelect l.toArray = true) (h : Region.noSelect l.toArray = true → ∀ w', St W F cs w' → WE P l.toArray Z ks N D S (St W F cs) sl (upto l.toArray.size 0) l.toArray.size w') : WC P Z ks N D sl (.region id l.toArray true) w := WC.ereg hs _ S hm hB h
theorem WC.eregF (hs : St W F cs w) (S : Nat → Bool) {id : Nat} {l : List Oper} (hm : P.follows .mixedOrders = true) (hB : Region.noSelect l.toArray = true) (h : Region.noSelect l.toArray = true → ∀ w', St W F cs w' → WE P l.toArray Z ks N D S (EC W F) sl (upto l.toArray.size 0) l.toArray.size w') : WC P Z ks N D sl (.region id l.toArray true) w := WC.ereg hs _ S hm hB h
def gOn (ops : Array Oper) (sl : Sl) : Option (Nat × Bool) → Prop
  | none => True
  | some (j, b) => ∃ u c, (ops[j]?).bind (·.dst) = some u ∧ lk sl u = some (.bool c) ∧ c = b
theorem gOn_wanted {o : Oper} {a : Act} (ha : Ag N D sl a) (hg : o.guard = g) (h : gOn ops sl g) : Region.wanted o (yielded ops a.tmps) = true := by
  subst hg
  unfold Region.wanted
  cases hgd : o.guard with
  | none => rfl
  | some gw =>
    obtain ⟨j, b⟩ := gw
    rw [hgd] at h
    obtain ⟨u, c, h1, h2, rfl⟩ := h
    simp [yield_lk ha h1 h2]
def gOff (ops : Array Oper) (sl : Sl) : Option (Nat × Bool) → Prop
  | none => False
  | some (j, b) => ∃ u x, (ops[j]?).bind (·.dst) = some u ∧ lk sl u = some x ∧ (x = undef ∨ x = .bool (!b))
theorem gOff_wanted {o : Oper} {a : Act} (ha : Ag N D sl a) (hg : o.guard = g) (h : gOff ops sl g) : Region.wanted o (yielded ops a.tmps) = false := by
  subst hg
  unfold Region.wanted
  cases hgd : o.guard with
  | none => rw [hgd] at h; exact h.elim
  | some gw =>
    obtain ⟨j, b⟩ := gw
    rw [hgd] at h
    obtain ⟨u, x, h1, h2, h3⟩ := h
    rcases h3 with rfl | rfl
    · simp [yield_un ha h1 h2]
    · simp [yield_lk ha h1 h2]
theorem ancS (fl : Nat) {l : List Nat} (hE : (l.all fun j => ancB ops fl j k) = true) : ∀ s, (fun s => l.any (Nat.beq s)) s = true → Anc ops s k := fun s hs' => by
  obtain ⟨x, hx, he⟩ := List.any_eq_true.1 hs'
  have := List.all_eq_true.1 hE x hx
  rw [Nat.eq_of_beq_eq_true he]
  exact ancB_spec fl x k this
/-- what the class fixes -/
theorem WE.val (fl : Nat) (hs : Region.noSelect ops = true) (k : Nat) {l : List Nat} {d : Nat} {op : Op} (ho : ops[k]? = some { dst := some d, op := op, type := t, pos := pos, after := af, guard := g }) (hg : gOn ops sl g)
    (hdc : dcB ops L = true) (hf : Region.free .any ops L k = true) (hr : (Region.ready .any ops L).contains k = true)
    (hE : (l.all fun j => ancB ops fl j k) = true)
    (h : ∀ w, C w → Runs P sl op t w v) (hd : Nat.ble (d + 1) N = true) (kk : WE P ops Z ks N D (fun s => l.any (Nat.beq s)) C ((d, v) :: sl) (L.setIfInBounds k true) n w) : WE P ops Z ks N D (fun s => l.any (Nat.beq s)) C sl L (n + 1) w := fun a ha =>
  E_first (C' := C) (v := v) ho (Region.noSelect_spec hs) (fun _ _ hdc hr h => h.back hdc hr (ancS fl hE)) (fun _ _ hdc hr h => h.now hdc hr (ancS fl hE)) _ _ a w (dcB_spec hdc) (Region.free_spec ho hf) (by simpa using hr) (.inl ⟨gOn_wanted ha rfl hg, fun w hC => h w hC a.eval (fun x v hx => ha.ev hx) _ rfl rfl⟩) (kk _ (ha.put (Nat.le_of_ble_eq_true hd) v))
/-- what hangs on its operands alone -/
theorem WE.pure (hs : Region.noSelect ops = true) (k : Nat) {d : Nat} {op : Op} (ho : ops[k]? = some { dst := some d, op := op, type := t, pos := pos, after := af, guard := g }) (hg : gOn ops sl g)
    (hdc : dcB ops L = true) (hf : Region.free .any ops L k = true) (hr : (Region.ready .any ops L).contains k = true)
    (hS : S k = false)
    (h : ∀ w, Runs P sl op t w v) (hd : Nat.ble (d + 1) N = true) (kk : WE P ops Z ks N D S C ((d, v) :: sl) (L.setIfInBounds k true) n w) : WE P ops Z ks N D S C sl L (n + 1) w := fun a ha =>
  E_first (C' := fun _ => True) (v := v) ho (Region.noSelect_spec hs) (fun _ _ _ _ h => h.backP hS) (fun _ _ _ _ _ => trivial) _ _ a w (dcB_spec hdc) (Region.free_spec ho hf) (by simpa using hr) (.inl ⟨gOn_wanted ha rfl hg, fun w _ => h w a.eval (fun x v hx => ha.ev hx) _ rfl rfl⟩) (kk _ (ha.put (Nat.le_of_ble_eq_true hd) v))
/-- what a guard keeps out -/
theorem WE.off (hs : Region.noSelect ops = true) (k : Nat) {d : Nat} {op : Op} (ho : ops[k]? = some { dst := some d, op := op, type := t, pos := pos, after := af, guard := g }) (hg : gOff ops sl g)
    (hdc : dcB ops L = true) (hf : Region.free .any ops L k = true) (hr : (Region.ready .any ops L).contains k = true)
    (hS : S k = false)
    (hd : Nat.ble (d + 1) N = true) (kk : WE P ops Z ks N D S C ((d, undef) :: sl) (L.setIfInBounds k true) n w) : WE P ops Z ks N D S C sl L (n + 1) w := fun a ha =>
  E_first (C' := fun _ => True) (v := undef) ho (Region.noSelect_spec hs) (fun _ _ _ _ h => h.backP hS) (fun _ _ _ _ _ => trivial) _ _ a w (dcB_spec hdc) (Region.free_spec ho hf) (by simpa using hr) (.inr ⟨gOff_wanted ha rfl hg, rfl⟩) (kk _ (ha.put (Nat.le_of_ble_eq_true hd) undef))
abbrev KE (P : Program) (ops : Array Oper) (Z : Post) (ks : List Fr) (S : Nat → Bool) (C : World → Prop) (L : Array Bool) (n : Nat) : Act → World → Prop := fun a' w' => wpE P ops S C (pp (den P Z ks)) n L a' w'
/-- within a region: a panic goes on, whatever lies in the slots -/
def ZE (N : Nat) (D : List Deferred) (Q : Post) : Post
  | .panic ch, _, w => ∀ a', Ag N D [] a' → Q (.panic ch) a' w
  | _, _, _ => False
theorem wpOp_of_WLg {Q : Post} {K : Act → World → Prop} {i : Nat} {o : Oper} {a : Act} (ho : ops[i]? = some o) (h : WL P ops (ZE N D Q) [.cut K] N D sl [o] w) (ha : Ag N D sl a) : wpOp P ops (pp Q) i K a w := by
  have h1 := h a ha
  unfold wpOp
  rw [ho]
  simp only
  unfold wpList at h1
  have hn : ∀ a w, den P (ZE N D Q) [.cut K] .normal a w → K a w := fun a w h => h
  have hp : ∀ ch w, den P (ZE N D Q) [.cut K] (.panic ch) a w → pp Q (.panic ch) a w := fun ch w h a' h1 h2 => h a' ⟨by rw [h1, ha.df], by rw [h2, ha.sz], fun d v hl => by simp [lk] at hl⟩
  have hout : ∀ a w, ¬ den P (ZE N D Q) [.cut K] .outgrown a w := fun a w h => h
  split
  · rename_i hw
    rw [if_pos hw] at h1
    rcases h1 with h1 | ⟨_, a0, w0, h1⟩
    · left
      unfold Oper.wp at h1 ⊢
      generalize (execOp a.eval o).run P w = r at *
      cases r with
      | ok n w' =>
        cases n <;> simp only [Oper.upon] at h1 ⊢
        case value u => exact h1
        case skip => exact h1
        case defer d => exact h1
        case enter f args =>
          refine h1.mono fun e w'' hh => ?_
          cases e with
          | returned u => exact hh
          | panicked ch => exact hp _ _ hh
          | outgrown =>
            obtain ⟨a0, w0, hh⟩ := hh
            exact (hout _ _ hh).elim
        case row row args => exact h1.mono fun u w'' hh => hh
      | halt hh w' =>
        cases hh <;> simp only [Oper.upon] at h1 ⊢
        case panic u => exact hp _ _ h1
    · exact (hout _ _ h1).elim
  · rename_i hw
    rw [if_neg hw] at h1
    exact h1
theorem WE.op {i : Nat} {o : Oper} (hI : EI S C L w) (ho : ops[i]? = some o) (hr : Region.ready .any ops L = [i]) (h : WL P ops (ZE N D (den P Z ks)) [.cut (KE P ops Z ks S C (L.setIfInBounds i true) n)] N D sl [o] w) : WE P ops Z ks N D S C sl L (n + 1) w := fun a ha =>
  ⟨hI, fun h0 => (by rw [hr] at h0; cases h0), fun i' hi => by
    rw [hr] at hi
    simp only [List.mem_singleton] at hi
    subst hi
    exact wpOp_of_WLg ho h ha⟩
theorem WE.next (h : WE P ops Z ks N D S C sl L n w) : WN P (ZE N D (den P Z ks)) [.cut (KE P ops Z ks S C L n)] N D sl w := h
theorem WE.fin (hI : EI S C L w) (hr : Region.ready .any ops L = []) (h : WN P Z ks N D sl w) : WE P ops Z ks N D S C sl L 0 w := fun a ha => ⟨hI, hr, h a ha⟩
/-- what was lent for reading only is the call's own again -/
theorem St.thaw {W w w' : World} {F G : Snap} {cs : List Res} {r : Res} {i : Nat} {new : List Res} (h : St W F cs w) (hi : cs[i]? = some r) (hG : ∀ p ∈ r, G p.1 = some p.2) (hle : Le F G) (h' : St W G (new ++ cs.eraseIdx i) w') : St W F (new ++ cs) w' := by
  have h0 := h'.weak hle
  obtain ⟨l1, l2, e1, _, e3⟩ := split_at cs i _ hi
  rw [e3] at h' h0
  subst e1
  have hnd := h.nd
  have hnd' := h'.nd
  have hr0 : ∀ p ∈ r, p ∈ (l1 ++ r :: l2).flatten := fun p hp => by simp [hp]
  have hdis : ∀ p ∈ (new ++ (l1 ++ l2)).flatten, ∀ q ∈ r, p.1 ≠ q.1 := fun p hp q hq e => by
    have h1 := (h'.own p hp).2.2
    have h2 := hG q hq
    rw [e, h2] at h1; cases h1
  refine ⟨h0.bel, h0.imm, fun p hp => ?_, ?_⟩
  · have hp' : p ∈ r ∨ p ∈ (new ++ (l1 ++ l2)).flatten := by
      simp only [List.flatten_append, List.flatten_cons, List.mem_append] at hp ⊢
      rcases hp with hp | hp | hp | hp
      · exact .inr (.inl hp)
      · exact .inr (.inr (.inl hp))
      · exact .inl hp
      · exact .inr (.inr (.inr hp))
    rcases hp' with hp' | hp'
    · exact ⟨h'.imm _ _ (hG p hp'), (h.own p (hr0 p hp')).2⟩
    · exact h0.own p hp'
  · have hperm : List.Perm ((new ++ (l1 ++ r :: l2)).flatten.map (·.1)) (r.map (·.1) ++ (new ++ (l1 ++ l2)).flatten.map (·.1)) := by
      rw [← List.map_append]
      refine List.Perm.map _ ?_
      simp only [List.flatten_append, List.flatten_cons]
      exact (List.Perm.append_left _ (List.perm_append_comm_assoc _ _ _)).trans (List.perm_append_comm_assoc _ _ _)
    rw [hperm.nodup_iff, List.nodup_append]
    refine ⟨?_, hnd', fun x hx y hy => ?_⟩
    · refine hnd.sublist (List.Sublist.map _ ?_)
      simp only [List.flatten_append, List.flatten_cons]
      exact (List.sublist_append_left _ _).trans (List.sublist_append_right _ _)
    · obtain ⟨q, hq, rfl⟩ := List.mem_map.1 hx
      obtain ⟨p, hp, rfl⟩ := List.mem_map.1 hy
      exact Ne.symm (hdis p hp q hq)
end
end B
end Go.Proofs.Ytkfkdenikkadhaa
