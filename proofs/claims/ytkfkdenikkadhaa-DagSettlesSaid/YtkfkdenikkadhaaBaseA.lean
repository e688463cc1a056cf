/- Slots, code and operations: a small program logic over the kit's calculus. Plain lemmas. -/
import Derived.WalkKit
import Derived.Deep.LoopGhost
import Derived.Deep.Quiet
import Derived.KernelRfl
namespace Go.Proofs.Ytkfkdenikkadhaa
open Go Go.RowKit
set_option linter.unusedVariables false
set_option linter.unusedSimpArgs false
namespace B

/-! ### slots -/
abbrev Sl := List (Nat × Value)
def lk : Sl → Nat → Option Value
  | [], _ => none
  | (k, v) :: r, d => match Nat.beq k d with | true => some v | false => lk r d
def evs (sl : Sl) : Operand → Option Value
  | .tmp t => lk sl t
  | .const v => some v
  | .global g => some (.pointer (some ⟨g, 0, none⟩))
  | .func f => some (.func (.func f) #[] #[])
structure Ag (N : Nat) (D : List Deferred) (sl : Sl) (a : Act) : Prop where
  df : a.defers = D
  sz : a.tmps.size = N
  ag : ∀ d v, lk sl d = some v → a.tmps[d]? = some v
def Sub : Sl → Sl → Prop
  | [], _ => True
  | (d, v) :: r, sl => lk sl d = some v ∧ Sub r sl
theorem Sub.lk {s sl : Sl} (h : Sub s sl) {d : Nat} {v : Value} (hl : lk s d = some v) : B.lk sl d = some v := by
  induction s with
  | nil => simp [B.lk] at hl
  | cons p r ih =>
    obtain ⟨k, u⟩ := p
    obtain ⟨h1, h2⟩ := h
    unfold B.lk at hl
    by_cases e : k = d
    · subst e
      rw [show Nat.beq k k = true from Nat.beq_refl k] at hl
      simp only [Option.some.injEq] at hl
      subst hl; exact h1
    · rw [show Nat.beq k d = false from by
        cases h : Nat.beq k d with
        | false => rfl
        | true => exact absurd (Nat.eq_of_beq_eq_true h) e] at hl
      exact ih h2 hl
theorem Ag.ev {N : Nat} {D : List Deferred} {sl : Sl} {a : Act} (h : Ag N D sl a) {x : Operand} {v : Value} (hx : evs sl x = some v) : a.eval x = v := by
  cases x with
  | tmp t =>
    have := h.ag t v hx
    simp [Act.eval, Array.getD_eq_getD_getElem?, this]
  | const c => simpa [evs, Act.eval] using hx
  | global g => simpa [evs, Act.eval] using hx
  | func f => simpa [evs, Act.eval] using hx
theorem Ag.put {N : Nat} {D : List Deferred} {sl : Sl} {a : Act} (h : Ag N D sl a) {d : Nat} (hd : d < N) (v : Value) : Ag N D ((d, v) :: sl) (a.put (some d) v) := by
  refine ⟨h.df, by simp [Act.put, h.sz], fun e u hl => ?_⟩
  unfold lk at hl
  by_cases e' : d = e
  · subst e'
    rw [show Nat.beq d d = true from Nat.beq_refl d] at hl
    simp only [Option.some.injEq] at hl
    subst hl
    simp [Act.put, h.sz, hd]
  · rw [show Nat.beq d e = false from by
      cases hh : Nat.beq d e with
      | false => rfl
      | true => exact absurd (Nat.eq_of_beq_eq_true hh) e'] at hl
    have := h.ag e u hl
    simp only [Act.put]
    rw [Array.getElem?_setIfInBounds_ne (by omega)]
    exact this
theorem Ag.sub {N : Nat} {D : List Deferred} {s sl : Sl} {a : Act} (h : Ag N D sl a) (hs : Sub s sl) : Ag N D s a :=
  ⟨h.df, h.sz, fun d v hl => h.ag d v (hs.lk hl)⟩

/-! ### what stands behind a piece of code -/
inductive Fr where
  | thn (c : Code)
  | blk (id : Nat)
  | cut (R : Act → World → Prop)
abbrev Post := Exit → Act → World → Prop
def den (P : Program) (Z : Post) : List Fr → Post
  | [] => Z
  | .thn c :: ks => Exit.then (fun a w => c.wp P (den P Z ks) a w) (den P Z ks)
  | .blk id :: ks => Exit.inBlock id (den P Z ks)
  | .cut R :: ks => Exit.then R (den P Z ks)
section
variable {P : Program} {Z : Post} {ks : List Fr} {N : Nat} {D : List Deferred} {sl : Sl} {w : World} {ops : Array Oper} {rest : List Oper}
def WC (P : Program) (Z : Post) (ks : List Fr) (N : Nat) (D : List Deferred) (sl : Sl) (c : Code) (w : World) : Prop := ∀ a, Ag N D sl a → c.wp P (den P Z ks) a w
def WN (P : Program) (Z : Post) (ks : List Fr) (N : Nat) (D : List Deferred) (sl : Sl) (w : World) : Prop := ∀ a, Ag N D sl a → den P Z ks .normal a w
def WX (P : Program) (Z : Post) (ks : List Fr) (N : Nat) (D : List Deferred) (sl : Sl) (id : Nat) (w : World) : Prop := ∀ a, Ag N D sl a → den P Z ks (.exit id) a w
def WL (P : Program) (ops : Array Oper) (Z : Post) (ks : List Fr) (N : Nat) (D : List Deferred) (sl : Sl) (rest : List Oper) (w : World) : Prop :=
  ∀ a, Ag N D sl a → wpList P ops (den P Z ks) rest a w
theorem WC.seq {x y : Code} (h : WC P Z (.thn y :: ks) N D sl x w) : WC P Z ks N D sl (.seq x y) w := fun a ha => wp_seq (h a ha)
theorem WC.block {id : Nat} {c : Code} (h : WC P Z (.blk id :: ks) N D sl c w) : WC P Z ks N D sl (.block id c) w := fun a ha => wp_block (h a ha)
theorem WC.skip (h : WN P Z ks N D sl w) : WC P Z ks N D sl .skip w := fun a ha => wp_skip (h a ha)
theorem WC.exit {id : Nat} (h : WX P Z ks N D sl id w) : WC P Z ks N D sl (.exit id) w := fun a ha => wp_exit (h a ha)
theorem WC.cond {c : Operand} {x y : Code} {t : Bool} (hc : evs sl c = some (.bool t)) (ht : t = true → WC P Z ks N D sl x w) (hf : t = false → WC P Z ks N D sl y w) : WC P Z ks N D sl (.cond c x y) w :=
  fun a ha => wp_cond_split (ha.ev hc) (fun h => ht h a ha) (fun h => hf h a ha)
theorem WC.condT {c : Operand} {x y : Code} {t : Bool} (hc : evs sl c = some (.bool t)) (e : t = true) (h : WC P Z ks N D sl x w) : WC P Z ks N D sl (.cond c x y) w :=
  WC.cond hc (fun _ => h) (fun e' => by rw [e] at e'; cases e')
theorem WC.condF {c : Operand} {x y : Code} {t : Bool} (hc : evs sl c = some (.bool t)) (e : t = false) (h : WC P Z ks N D sl y w) : WC P Z ks N D sl (.cond c x y) w :=
  WC.cond hc (fun e' => by rw [e] at e'; cases e') (fun _ => h)
theorem WC.reg {id : Nat} {l : List Oper} (h : WL P l.toArray Z ks N D sl l w) : WC P Z ks N D sl (.region id l.toArray false) w := fun a ha => wp_region_lit (h a ha)
theorem WC.sub {s : Sl} {c : Code} (hs : Sub s sl) (h : WC P Z ks N D s c w) : WC P Z ks N D sl c w := fun a ha => h a (ha.sub hs)
theorem WN.sub {s : Sl} (hs : Sub s sl) (h : WN P Z ks N D s w) : WN P Z ks N D sl w := fun a ha => h a (ha.sub hs)
theorem WL.sub {s : Sl} (hs : Sub s sl) (h : WL P ops Z ks N D s rest w) : WL P ops Z ks N D sl rest w := fun a ha => h a (ha.sub hs)
theorem WN.thn {y : Code} (h : WC P Z ks N D sl y w) : WN P Z (.thn y :: ks) N D sl w := h
theorem WN.blk {id : Nat} (h : WN P Z ks N D sl w) : WN P Z (.blk id :: ks) N D sl w := h
theorem WN.cut {R : Act → World → Prop} (h : ∀ a, Ag N D sl a → R a w) : WN P Z (.cut R :: ks) N D sl w := h
theorem WX.thn {y : Code} {id : Nat} (h : WX P Z ks N D sl id w) : WX P Z (.thn y :: ks) N D sl id w := h
theorem WX.cut {R : Act → World → Prop} {id : Nat} (h : WX P Z ks N D sl id w) : WX P Z (.cut R :: ks) N D sl id w := h
theorem WX.hit {id : Nat} (h : WN P Z ks N D sl w) : WX P Z (.blk id :: ks) N D sl id w := fun a ha => by
  show Exit.inBlock id (den P Z ks) (.exit id) a w
  simp only [Exit.inBlock, if_true]
  exact h a ha
theorem WX.miss {id id' : Nat} (hne : Nat.beq id id' = false) (h : WX P Z ks N D sl id w) : WX P Z (.blk id' :: ks) N D sl id w := fun a ha => by
  show Exit.inBlock id' (den P Z ks) (.exit id) a w
  have : id ≠ id' := fun e => by subst e; rw [Nat.beq_refl] at hne; cases hne
  simp only [Exit.inBlock, if_neg this]; exact h a ha
theorem den_ret : ∀ (ks : List Fr) (a : Act) (w : World), Z .ret a w → den P Z ks .ret a w
  | [], _, _, h => h
  | .thn _ :: ks, a, w, h => den_ret ks a w h
  | .blk _ :: ks, a, w, h => den_ret ks a w h
  | .cut _ :: ks, a, w, h => den_ret ks a w h
theorem den_panic (ch : List PanicEntry) : ∀ (ks : List Fr) (a : Act) (w : World), Z (.panic ch) a w → den P Z ks (.panic ch) a w
  | [], _, _, h => h
  | .thn _ :: ks, a, w, h => den_panic ch ks a w h
  | .blk _ :: ks, a, w, h => den_panic ch ks a w h
  | .cut _ :: ks, a, w, h => den_panic ch ks a w h
theorem WC.ret (h : ∀ a, Ag N D sl a → Z .ret a w) : WC P Z ks N D sl .ret w := fun a ha => wp_ret (den_ret ks a w (h a ha))
theorem WC.mono {Q : Post} {c : Code} {a : Act} (h : c.wp P Q a w) (hq : ∀ e a w, Q e a w → den P Z ks e a w) : c.wp P (den P Z ks) a w := wp_mono h hq
/-- cut: what holds between two pieces of code -/
theorem WC.seqC {x y : Code} (R : Act → World → Prop) (h : WC P Z (.cut R :: ks) N D sl x w) (k : ∀ a w, R a w → y.wp P (den P Z ks) a w) : WC P Z ks N D sl (.seq x y) w := fun a ha => by
  refine wp_seq (wp_mono (h a ha) fun e a' w' q => ?_)
  cases e with
  | normal => exact k a' w' q
  | _ => exact q
/-- the same, with a letter for what is only known to be there -/
theorem WC.seqS {σ : Type} {x y : Code} (S : σ → Sl) (J : σ → World → Prop) (h : WC P Z (.cut (fun a' w' => ∃ s, Ag N D (S s) a' ∧ J s w') :: ks) N D sl x w) (k : ∀ s w, J s w → WC P Z ks N D (S s) y w) : WC P Z ks N D sl (.seq x y) w :=
  WC.seqC _ h fun a' w' ⟨s, ha, hj⟩ => k s w' hj a' ha
theorem WN.at_ {σ : Type} {S : σ → Sl} {J : σ → World → Prop} (s : σ) (hs : Sub (S s) sl) (hj : J s w) : WN P Z (.cut (fun a' w' => ∃ s, Ag N D (S s) a' ∧ J s w') :: ks) N D sl w :=
  WN.cut fun _ ha => ⟨s, ha.sub hs, hj⟩
theorem WC.loop {σ : Type} {c : Code} (S : σ → Sl) (J : σ → World → Prop) (m : σ → Nat) (s0 : σ) (hs : Sub (S s0) sl) (hj : J s0 w)
    (round : ∀ s w, J s w → WC P Z (.cut (fun a' w' => ∃ s', m s' < m s ∧ Ag N D (S s') a' ∧ J s' w') :: ks) N D (S s) c w) : WC P Z ks N D sl (.loop c) w := fun a ha => by
  refine wp_loop_ghost (fun n a' w' => ∃ s, m s = n ∧ Ag N D (S s) a' ∧ J s w') (m s0) ⟨s0, rfl, ha.sub hs, hj⟩ fun n a' w' ⟨s, hn, ha', hj'⟩ => ?_
  refine wp_mono (round s w' hj' a' ha') fun e a2 w2 q => ?_
  cases e with
  | normal =>
    obtain ⟨s', hm, h1, h2⟩ := q
    exact ⟨m s', hn ▸ hm, s', rfl, h1, h2⟩
  | _ => exact q
theorem WN.again {σ : Type} {S : σ → Sl} {J : σ → World → Prop} {m : σ → Nat} {s : σ} (s' : σ) (hm : m s' < m s) (hs : Sub (S s') sl) (hj : J s' w) :
    WN P Z (.cut (fun a' w' => ∃ s', m s' < m s ∧ Ag N D (S s') a' ∧ J s' w') :: ks) N D sl w := WN.cut fun _ ha => ⟨s', hm, ha.sub hs, hj⟩

/-! ### the function's door -/
theorem wpz_eq {fn : Func} {R : Ending → World → Prop} {c : Code} {a : Act} (h : c.wp P (den P (bodyPost P fn R) []) a w) : c.wp P (bodyPost P fn R) a w := h
def slots : Nat → List Value → Sl
  | _, [] => []
  | i, v :: r => (i, v) :: slots (i + 1) r
theorem lk_slots : ∀ (l : List Value) (i d : Nat) (v : Value), lk (slots i l) d = some v → ∃ j, d = i + j ∧ l[j]? = some v
  | [], _, _, _, h => by simp [slots, lk] at h
  | u :: r, i, d, v, h => by
    unfold slots lk at h
    by_cases e : i = d
    · subst e
      rw [show Nat.beq i i = true from Nat.beq_refl i] at h
      exact ⟨0, by omega, by simpa using h⟩
    · rw [show Nat.beq i d = false from by
        cases hh : Nat.beq i d with
        | false => rfl
        | true => exact absurd (Nat.eq_of_beq_eq_true hh) e] at h
      obtain ⟨j, hj, hv⟩ := lk_slots r (i + 1) d v h
      exact ⟨j + 1, by omega, by simpa using hv⟩
theorem enter {f : FuncId} {fn : Func} {c : Code} {args : List Value} {R : Ending → World → Prop} (hf : P.funcs[f]? = some fn) (hb : fn.body = some c) (hN : fn.ntmps = N) (hn : Nat.ble args.length N = true)
    (h : WC P (bodyPost P fn R) [] N [] (slots 0 args) c w) : Calls P f args.toArray w R := by
  have hn := Nat.le_of_ble_eq_true hn
  refine calls_of_wp hf hb (h _ ⟨rfl, by simp [hN]; omega, fun d v hl => ?_⟩)
  obtain ⟨j, hj, hv⟩ := lk_slots args 0 d v hl
  have hlt : j < args.length := (List.getElem?_eq_some_iff.1 hv).1
  simp only [Nat.zero_add] at hj
  subst hj
  rw [Array.getElem?_append_left (by simpa using hlt)]
  simpa using hv
theorem ret0 {fn : Func} {R : Ending → World → Prop} (hr : fn.results = #[]) (hR : R (.returned (.tuple #[])) w) : ∀ a, Ag N [] sl a → bodyPost P fn R .ret a w :=
  fun a ha => ⟨ha.df, .tuple #[], results_none hr _ _ _, hR⟩
theorem end0 {fn : Func} {R : Ending → World → Prop} (hr : fn.results = #[]) (hR : R (.returned (.tuple #[])) w) : WN P (bodyPost P fn R) [] N [] sl w :=
  fun a ha => ⟨ha.df, .tuple #[], results_none hr _ _ _, hR⟩
theorem ret1 {fn : Func} {R : Ending → World → Prop} {t : Tmp} {v : Value} (hr : fn.results = #[.tmp t]) (hv : lk sl t = some v) (hR : R (.returned v) w) : ∀ a, Ag N [] sl a → bodyPost P fn R .ret a w :=
  fun a ha => ⟨ha.df, v, by rw [results_tmp hr]; have := ha.ag t v hv; simp [Array.getD_eq_getD_getElem?, this], hR⟩
theorem ret2 {fn : Func} {R : Ending → World → Prop} {t u : Tmp} {v x : Value} (hr : fn.results = #[.tmp t, .tmp u]) (hv : lk sl t = some v) (hx : lk sl u = some x) (hR : R (.returned (.tuple #[v, x])) w) : ∀ a, Ag N [] sl a → bodyPost P fn R .ret a w :=
  fun a ha => ⟨ha.df, .tuple #[v, x], by rw [results_tmp2 hr]; have h1 := ha.ag t v hv; have h2 := ha.ag u x hx; simp [Array.getD_eq_getD_getElem?, h1, h2], hR⟩

/-! ### operations -/
/-- an operation that yields a value and leaves the world alone -/
def Runs (P : Program) (sl : Sl) (op : Op) (t : TypeId) (w : World) (v : Value) : Prop :=
  ∀ ρ : Operand → Value, (∀ x v, evs sl x = some v → ρ x = v) → ∀ o : Oper, o.op = op → o.type = t → (execOp ρ o).run P w = .ok (.value v) w
theorem WL.nil (h : WN P Z ks N D sl w) : WL P ops Z ks N D sl [] w := fun a ha => wpList_nil (h a ha)
theorem WL.v {d : Nat} {op : Op} {t : TypeId} {pos : String} {af : Array Edge} {v : Value} (h : Runs P sl op t w v) (hd : Nat.ble (d + 1) N = true) (k : WL P ops Z ks N D ((d, v) :: sl) rest w) :
    WL P ops Z ks N D sl ({ dst := some d, op := op, type := t, pos := pos, after := af, guard := none } :: rest) w := fun a ha =>
  wpList_plain rfl fun K hK => by
    unfold Oper.wp
    rw [h a.eval (fun x v hx => ha.ev hx) _ rfl rfl]
    exact hK _ _ (k _ (ha.put (Nat.le_of_ble_eq_true hd) v))
/-- a function that can be called by its number -/
def Can (P : Program) (f : FuncId) : Prop := ∃ fn, P.funcs[f]? = some fn ∧ (fn.name == "runtime.NumGoroutine") = false ∧ fn.body.isNone = false
def args_ (sl : Sl) : List Operand → Option (List Value)
  | [] => some []
  | x :: r => match evs sl x, args_ sl r with | some v, some l => some (v :: l) | _, _ => none
theorem args_spec {ρ : Operand → Value} (hρ : ∀ x v, evs sl x = some v → ρ x = v) : ∀ (xs : List Operand) (vs : List Value), args_ sl xs = some vs → xs.map ρ = vs
  | [], vs, h => by simp [args_] at h; simp [h]
  | x :: r, vs, h => by
    unfold args_ at h
    cases h1 : evs sl x with
    | none => rw [h1] at h; simp at h
    | some v =>
      cases h2 : args_ sl r with
      | none => rw [h1, h2] at h; simp at h
      | some l =>
        rw [h1, h2] at h
        simp only [Option.some.injEq] at h
        subst h
        simp [hρ x v h1, args_spec hρ r l h2]
theorem run_callFunc {f : FuncId} (hc : Can P f) (as : Array Value) : (callFunc f as).run P w = .ok (.enter f as) w := by
  obtain ⟨fn, h1, h2, h3⟩ := hc
  have h2' : ¬ fn.name = "runtime.NumGoroutine" := by simpa using h2
  have h3' : ¬ fn.body = none := fun e => by rw [e] at h3; cases h3
  simp [callFunc, program, Sem.run, bind, Sem.bind, h1, h2', h3', pure]
theorem exec_call {f : FuncId} (hc : Can P f) {ρ : Operand → Value} {xs : List Operand} {vs : List Value} {ts : Array TypeId} {o : Oper} (ho : o.op = .call { callee := .value (.func f), args := xs.toArray, argTypes := ts })
    (hf : ρ (.func f) = .func (.func f) #[] #[]) (hv : xs.map ρ = vs) : (execOp ρ o).run P w = .ok (.enter f vs.toArray) w := by
  have := run_callFunc (w := w) hc vs.toArray
  simp [execOp, ho, resolve, hf, Deferred.ofValue, invoke, bind, Sem.bind, pure, hv, this]
theorem WL.call {d : Nat} {f : FuncId} {xs : List Operand} {vs : List Value} {ts : Array TypeId} {t : TypeId} {pos : String} {af : Array Edge} {R : Ending → World → Prop} (hc : Can P f) (hv : args_ sl xs = some vs) (hd : Nat.ble (d + 1) N = true)
    (c : Calls P f vs.toArray w R) (k : ∀ e w', R e w' → ∃ v, e = .returned v ∧ WL P ops Z ks N D ((d, v) :: sl) rest w') :
    WL P ops Z ks N D sl ({ dst := some d, op := .call { callee := .value (.func f), args := xs.toArray, argTypes := ts }, type := t, pos := pos, after := af, guard := none } :: rest) w := fun a ha =>
  wpList_plain rfl fun K hK => by
    unfold Oper.wp
    rw [exec_call hc rfl rfl (args_spec (fun x v hx => ha.ev hx) xs vs hv)]
    refine c.mono fun e w' hr => ?_
    obtain ⟨v, rfl, hk⟩ := k e w' hr
    exact hK _ _ (hk _ (ha.put (Nat.le_of_ble_eq_true hd) v))
theorem WL.call0 {f : FuncId} {xs : List Operand} {vs : List Value} {ts : Array TypeId} {t : TypeId} {pos : String} {af : Array Edge} {R : Ending → World → Prop} (hc : Can P f) (hv : args_ sl xs = some vs)
    (c : Calls P f vs.toArray w R) (k : ∀ e w', R e w' → ∃ v, e = .returned v ∧ WL P ops Z ks N D sl rest w') :
    WL P ops Z ks N D sl ({ dst := none, op := .call { callee := .value (.func f), args := xs.toArray, argTypes := ts }, type := t, pos := pos, after := af, guard := none } :: rest) w := fun a ha =>
  wpList_plain rfl fun K hK => by
    unfold Oper.wp
    rw [exec_call hc rfl rfl (args_spec (fun x v hx => ha.ev hx) xs vs hv)]
    refine c.mono fun e w' hr => ?_
    obtain ⟨v, rfl, hk⟩ := k e w' hr
    exact hK _ _ (hk _ ha)
end
end B
end Go.Proofs.Ytkfkdenikkadhaa
