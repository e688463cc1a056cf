/- Slots, code and operations: a small program logic over the kit's calculus. Plain lemmas. -/
import Derived.WalkKit
import Derived.Deep.LoopGhost
import Derived.Deep.Quiet
import Derived.KernelRfl
import Derived.StillTail
namespace Go.Proofs.Ythejglgnoingfaa
open Go Go.RowKit
set_option linter.unusedVariables false
set_option linter.unusedSimpArgs false
namespace B

/-! ### slots -/
abbrev Sl := List (Nat × Value)
def lk : Sl → Nat → Option Value
  | [], _ => none
  | (k, v) :: r, d => match Nat.beq k d with | true => some v | false => lk r d
def evs (sl : Sl) : Operand → Option Value
  | .tmp t => lk sl t
  | .const v => some v
  | .global g => some (.pointer (some ⟨g, 0, none⟩))
  | .func f => some (.func (.func f) #[] #[])
structure Ag (N : Nat) (D : List Deferred) (sl : Sl) (a : Act) : Prop where
  df : a.defers = D
  sz : a.tmps.size = N
  ag : ∀ d v, lk sl d = some v → a.tmps[d]? = some v
def Sub : Sl → Sl → Prop
  | [], _ => True
  | (d, v) :: r, sl => lk sl d = some v ∧ Sub r sl
theorem Sub.lk {s sl : Sl} (h : Sub s sl) {d : Nat} {v : Value} (hl : lk s d = some v) : B.lk sl d = some v := by
  induction s with
  | nil => simp [B.lk] at hl
  | cons p r ih =>
    obtain ⟨k, u⟩ := p
    obtain ⟨h1, h2⟩ := h
    unfold B.lk at hl
    by_cases e : k = d
    · subst e
      rw [show Nat.beq k k = true from Nat.beq_refl k] at hl
      simp only [Option.some.injEq] at hl
      subst hl; exact h1
    · rw [show Nat.beq k d = false from by
        cases h : Nat.beq k d with
        | false => rfl
        | true => exact absurd (Nat.eq_of_beq_eq_true h) e] at hl
      exact ih h2 hl
theorem Ag.ev {N : Nat} {D : List Deferred} {sl : Sl} {a : Act} (h : Ag N D sl a) {x : Operand} {v : Value} (hx : evs sl x = some v) : a.eval x = v := by
  cases x with
  | tmp t =>
    have := h.ag t v hx
    simp [Act.eval, Array.getD_eq_getD_getElem?, this]
  | const c => simpa [evs, Act.eval] using hx
  | global g => simpa [evs, Act.eval] using hx
  | func f => simpa [evs, Act.eval] using hx
theorem Ag.put {N : Nat} {D : List Deferred} {sl : Sl} {a : Act} (h : Ag N D sl a) {d : Nat} (hd : d < N) (v : Value) : Ag N D ((d, v) :: sl) (a.put (some d) v) := by
  refine ⟨h.df, by simp [Act.put, h.sz], fun e u hl => ?_⟩
  unfold lk at hl
  by_cases e' : d = e
  · subst e'
    rw [show Nat.beq d d = true from Nat.beq_refl d] at hl
    simp only [Option.some.injEq] at hl
    subst hl
    simp [Act.put, h.sz, hd]
  · rw [show Nat.beq d e = false from by
      cases hh : Nat.beq d e with
      | false => rfl
      | true => exact absurd (Nat.eq_of_beq_eq_true hh) e'] at hl
    have := h.ag e u hl
    simp only [Act.put]
    rw [Array.getElem?_setIfInBounds_ne (by omega)]
    exact this
theorem Ag.sub {N : Nat} {D : List Deferred} {s sl : Sl} {a : Act} (h : Ag N D sl a) (hs : Sub s sl) : Ag N D s a :=
  ⟨h.df, h.sz, fun d v hl => h.ag d v (hs.lk hl)⟩

/-! ### what stands behind a piece of code -/
inductive Fr where
  | thn (c : Code)
  | blk (id : Nat)
  | cut (R : Act → World → Prop)
abbrev Post := Exit → Act → World → Prop
def den (P : Program) (Z : Post) : List Fr → Post
  | [] => Z
  | .thn c :: ks => Exit.then (fun a w => c.wp P (den P Z ks) a w) (den P Z ks)
  | .blk id :: ks => Exit.inBlock id (den P Z ks)
  | .cut R :: ks => Exit.then R (den P Z ks)
section
variable {P : Program} {Z : Post} {ks : List Fr} {N : Nat} {D : List Deferred} {sl : Sl} {w : World} {ops : Array Oper} {rest : List Oper}
def WC (P : Program) (Z : Post) (ks : List Fr) (N : Nat) (D : List Deferred) (sl : Sl) (c : Code) (w : World) : Prop := ∀ a, Ag N D sl a → c.wp P (den P Z ks) a w
def WN (P : Program) (Z : Post) (ks : List Fr) (N : Nat) (D : List Deferred) (sl : Sl) (w : World) : Prop := ∀ a, Ag N D sl a → den P Z ks .normal a w
def WX (P : Program) (Z : Post) (ks : List Fr) (N : Nat) (D : List Deferred) (sl : Sl) (id : Nat) (w : World) : Prop := ∀ a, Ag N D sl a → den P Z ks (.exit id) a w
def WL (P : Program) (ops : Array Oper) (Z : Post) (ks : List Fr) (N : Nat) (D : List Deferred) (sl : Sl) (rest : List Oper) (w : World) : Prop :=
  ∀ a, Ag N D sl a → wpList P ops (den P Z ks) rest a w
theorem WC.seq {x y : Code} (h : WC P Z (.thn y :: ks) N D sl x w) : WC P Z ks N D sl (.seq x y) w := fun a ha => wp_seq (h a ha)
theorem WC.block {id : Nat} {c : Code} (h : WC P Z (.blk id :: ks) N D sl c w) : WC P Z ks N D sl (.block id c) w := fun a ha => wp_block (h a ha)
theorem WC.skip (h : WN P Z ks N D sl w) : WC P Z ks N D sl .skip w := fun a ha => wp_skip (h a ha)
theorem WC.exit {id : Nat} (h : WX P Z ks N D sl id w) : WC P Z ks N D sl (.exit id) w := fun a ha => wp_exit (h a ha)
theorem WC.cond {c : Operand} {x y : Code} {t : Bool} (hc : evs sl c = some (.bool t)) (ht : t = true → WC P Z ks N D sl x w) (hf : t = false → WC P Z ks N D sl y w) : WC P Z ks N D sl (.cond c x y) w :=
  fun a ha => wp_cond_split (ha.ev hc) (fun h => ht h a ha) (fun h => hf h a ha)
theorem WC.condT {c : Operand} {x y : Code} {t : Bool} (hc : evs sl c = some (.bool t)) (e : t = true) (h : WC P Z ks N D sl x w) : WC P Z ks N D sl (.cond c x y) w :=
  WC.cond hc (fun _ => h) (fun e' => by rw [e] at e'; cases e')
theorem WC.condF {c : Operand} {x y : Code} {t : Bool} (hc : evs sl c = some (.bool t)) (e : t = false) (h : WC P Z ks N D sl y w) : WC P Z ks N D sl (.cond c x y) w :=
  WC.cond hc (fun e' => by rw [e] at e'; cases e') (fun _ => h)
theorem WC.reg {id : Nat} {l : List Oper} (h : WL P l.toArray Z ks N D sl l w) : WC P Z ks N D sl (.region id l.toArray false) w := fun a ha => wp_region_lit (h a ha)
theorem WC.sub {s : Sl} {c : Code} (hs : Sub s sl) (h : WC P Z ks N D s c w) : WC P Z ks N D sl c w := fun a ha => h a (ha.sub hs)
theorem WN.sub {s : Sl} (hs : Sub s sl) (h : WN P Z ks N D s w) : WN P Z ks N D sl w := fun a ha => h a (ha.sub hs)
theorem WL.sub {s : Sl} (hs : Sub s sl) (h : WL P ops Z ks N D s rest w) : WL P ops Z ks N D sl rest w := fun a ha => h a (ha.sub hs)
theorem WN.thn {y : Code} (h : WC P Z ks N D sl y w) : WN P Z (.thn y :: ks) N D sl w := h
theorem WN.blk {id : Nat} (h : WN P Z ks N D sl w) : WN P Z (.blk id :: ks) N D sl w := h
theorem WN.cut {R : Act → World → Prop} (h : ∀ a, Ag N D sl a → R a w) : WN P Z (.cut R :: ks) N D sl w := h
theorem WX.thn {y : Code} {id : Nat} (h : WX P Z ks N D sl id w) : WX P Z (.thn y :: ks) N D sl id w := h
theorem WX.cut {R : Act → World → Prop} {id : Nat} (h : WX P Z ks N D sl id w) : WX P Z (.cut R :: ks) N D sl id w := h
theorem WX.hit {id : Nat} (h : WN P Z ks N D sl w) : WX P Z (.blk id :: ks) N D sl id w := fun a ha => by
  show Exit.inBlock id (den P Z ks) (.exit id) a w
  simp only [Exit.inBlock, if_true]
  exact h a ha
theorem WX.miss {id id' : Nat} (hne : Nat.beq id id' = false) (h : WX P Z ks N D sl id w) : WX P Z (.blk id' :: ks) N D sl id w := fun a ha => by
  show Exit.inBlock id' (den P Z ks) (.exit id) a w
  have : id ≠ id' := fun e => by subst e; rw [Nat.beq_refl] at hne; cases hne
  simp only [Exit.inBlock, if_neg this]; exact h a ha
theorem den_ret : ∀ (ks : List Fr) (a : Act) (w : World), Z .ret a w → den P Z ks .ret a w
  | [], _, _, h => h
  | .thn _ :: ks, a, w, h => den_ret ks a w h
  | .blk _ :: ks, a, w, h => den_ret ks a w h
  | .cut _ :: ks, a, w, h => den_ret ks a w h
theorem den_panic (ch : List PanicEntry) : ∀ (ks : List Fr) (a : Act) (w : World), Z (.panic ch) a w → den P Z ks (.panic ch) a w
  | [], _, _, h => h
  | .thn _ :: ks, a, w, h => den_panic ch ks a w h
  | .blk _ :: ks, a, w, h => den_panic ch ks a w h
  | .cut _ :: ks, a, w, h => den_panic ch ks a w h
theorem WC.ret (h : ∀ a, Ag N D sl a → Z .ret a w) : WC P Z ks N D sl .ret w := fun a ha => wp_ret (den_ret ks a w (h a ha))
theorem WC.mono {Q : Post} {c : Code} {a : Act} (h : c.wp P Q a w) (hq : ∀ e a w, Q e a w → den P Z ks e a w) : c.wp P (den P Z ks) a w := wp_mono h hq
/-- cut: what holds between two pieces of code -/
theorem WC.seqC {x y : Code} (R : Act → World → Prop) (h : WC P Z (.cut R :: ks) N D sl x w) (k : ∀ a w, R a w → y.wp P (den P Z ks) a w) : WC P Z ks N D sl (.seq x y) w := fun a ha => by
  refine wp_seq (wp_mono (h a ha) fun e a' w' q => ?_)
  cases e with
  | normal => exact k a' w' q
  | _ => exact q
/-- the same, with a letter for what is only known to be there -/
theorem WC.seqS {σ : Type} {x y : Code} (S : σ → Sl) (J : σ → World → Prop) (h : WC P Z (.cut (fun a' w' => ∃ s, Ag N D (S s) a' ∧ J s w') :: ks) N D sl x w) (k : ∀ s w, J s w → WC P Z ks N D (S s) y w) : WC P Z ks N D sl (.seq x y) w :=
  WC.seqC _ h fun a' w' ⟨s, ha, hj⟩ => k s w' hj a' ha
theorem WN.at_ {σ : Type} {S : σ → Sl} {J : σ → World → Prop} (s : σ) (hs : Sub (S s) sl) (hj : J s w) : WN P Z (.cut (fun a' w' => ∃ s, Ag N D (S s) a' ∧ J s w') :: ks) N D sl w :=
  WN.cut fun _ ha => ⟨s, ha.sub hs, hj⟩
theorem WC.loop {σ : Type} {c : Code} (S : σ → Sl) (J : σ → World → Prop) (m : σ → Nat) (s0 : σ) (hs : Sub (S s0) sl) (hj : J s0 w)
    (round : ∀ s w, J s w → WC P Z (.cut (fun a' w' => ∃ s', m s' < m s ∧ Ag N D (S s') a' ∧ J s' w') :: ks) N D (S s) c w) : WC P Z ks N D sl (.loop c) w := fun a ha => by
  refine wp_loop_ghost (fun n a' w' => ∃ s, m s = n ∧ Ag N D (S s) a' ∧ J s w') (m s0) ⟨s0, rfl, ha.sub hs, hj⟩ fun n a' w' ⟨s, hn, ha', hj'⟩ => ?_
  refine wp_mono (round s w' hj' a' ha') fun e a2 w2 q => ?_
  cases e with
  | normal =>
    obtain ⟨s', hm, h1, h2⟩ := q
    exact ⟨m s', hn ▸ hm, s', rfl, h1, h2⟩
  | _ => exact q
theorem WN.again {σ : Type} {S : σ → Sl} {J : σ → World → Prop} {m : σ → Nat} {s : σ} (s' : σ) (hm : m s' < m s) (hs : Sub (S s') sl) (hj : J s' w) :
    WN P Z (.cut (fun a' w' => ∃ s', m s' < m s ∧ Ag N D (S s') a' ∧ J s' w') :: ks) N D sl w := WN.cut fun _ ha => ⟨s', hm, ha.sub hs, hj⟩

/-! ### the function's door -/
theorem wpz_eq {fn : Func} {R : Ending → World → Prop} {c : Code} {a : Act} (h : c.wp P (den P (bodyPost P fn R) []) a w) : c.wp P (bodyPost P fn R) a w := h
def slots : Nat → List Value → Sl
  | _, [] => []
  | i, v :: r => (i, v) :: slots (i + 1) r
theorem lk_slots : ∀ (l : List Value) (i d : Nat) (v : Value), lk (slots i l) d = some v → ∃ j, d = i + j ∧ l[j]? = some v
  | [], _, _, _, h => by simp [slots, lk] at h
  | u :: r, i, d, v, h => by
    unfold slots lk at h
    by_cases e : i = d
    · subst e
      rw [show Nat.beq i i = true from Nat.beq_refl i] at h
      exact ⟨0, by omega, by simpa using h⟩
    · rw [show Nat.beq i d = false from by
        cases hh : Nat.beq i d with
        | false => rfl
        | true => exact absurd (Nat.eq_of_beq_eq_true hh) e] at h
      obtain ⟨j, hj, hv⟩ := lk_slots r (i + 1) d v h
      exact ⟨j + 1, by omega, by simpa using hv⟩
theorem enter {f : FuncId} {fn : Func} {c : Code} {args : List Value} {R : Ending → World → Prop} (hf : P.funcs[f]? = some fn) (hb : fn.body = some c) (hN : fn.ntmps = N) (hn : Nat.ble args.length N = true)
    (h : WC P (bodyPost P fn R) [] N [] (slots 0 args) c w) : Calls P f args.toArray w R := by
  have hn := Nat.le_of_ble_eq_true hn
  refine calls_of_wp hf hb (h _ ⟨rfl, by simp [hN]; omega, fun d v hl => ?_⟩)
  obtain ⟨j, hj, hv⟩ := lk_slots args 0 d v hl
  have hlt : j < args.length := (List.getElem?_eq_some_iff.1 hv).1
  simp only [Nat.zero_add] at hj
  subst hj
  rw [Array.getElem?_append_left (by simpa using hlt)]
  simpa using hv
theorem ret0 {fn : Func} {R : Ending → World → Prop} (hr : fn.results = #[]) (hR : R (.returned (.tuple #[])) w) : ∀ a, Ag N [] sl a → bodyPost P fn R .ret a w :=
  fun a ha => ⟨ha.df, .tuple #[], results_none hr _ _ _, hR⟩
theorem end0 {fn : Func} {R : Ending → World → Prop} (hr : fn.results = #[]) (hR : R (.returned (.tuple #[])) w) : WN P (bodyPost P fn R) [] N [] sl w :=
  fun a ha => ⟨ha.df, .tuple #[], results_none hr _ _ _, hR⟩
theorem ret1 {fn : Func} {R : Ending → World → Prop} {t : Tmp} {v : Value} (hr : fn.results = #[.tmp t]) (hv : lk sl t = some v) (hR : R (.returned v) w) : ∀ a, Ag N [] sl a → bodyPost P fn R .ret a w :=
  fun a ha => ⟨ha.df, v, by rw [results_tmp hr]; have := ha.ag t v hv; simp [Array.getD_eq_getD_getElem?, this], hR⟩
theorem ret2 {fn : Func} {R : Ending → World → Prop} {t u : Tmp} {v x : Value} (hr : fn.results = #[.tmp t, .tmp u]) (hv : lk sl t = some v) (hx : lk sl u = some x) (hR : R (.returned (.tuple #[v, x])) w) : ∀ a, Ag N [] sl a → bodyPost P fn R .ret a w :=
  fun a ha => ⟨ha.df, .tuple #[v, x], by rw [results_tmp2 hr]; have h1 := ha.ag t v hv; have h2 := ha.ag u x hx; simp [Array.getD_eq_getD_getElem?, h1, h2], hR⟩

/-! ### operations -/
/-- an operation that yields a value and leaves the world alone -/
def Runs (P : Program) (sl : Sl) (op : Op) (t : TypeId) (w : World) (v : Value) : Prop :=
  ∀ ρ : Operand → Value, (∀ x v, evs sl x = some v → ρ x = v) → ∀ o : Oper, o.op = op → o.type = t → (execOp ρ o).run P w = .ok (.value v) w
theorem WL.nil (h : WN P Z ks N D sl w) : WL P ops Z ks N D sl [] w := fun a ha => wpList_nil (h a ha)
theorem WL.v {d : Nat} {op : Op} {t : TypeId} {pos : String} {af : Array Edge} {v : Value} (h : Runs P sl op t w v) (hd : Nat.ble (d + 1) N = true) (k : WL P ops Z ks N D ((d, v) :: sl) rest w) :
    WL P ops Z ks N D sl ({ dst := some d, op := op, type := t, pos := pos, after := af, guard := none } :: rest) w := fun a ha =>
  wpList_plain rfl fun K hK => by
    unfold Oper.wp
    rw [h a.eval (fun x v hx => ha.ev hx) _ rfl rfl]
    exact hK _ _ (k _ (ha.put (Nat.le_of_ble_eq_true hd) v))
/-- a function that can be called by its number -/
def Can (P : Program) (f : FuncId) : Prop := ∃ fn, P.funcs[f]? = some fn ∧ (fn.name == "runtime.NumGoroutine") = false ∧ fn.body.isNone = false
def args_ (sl : Sl) : List Operand → Option (List Value)
  | [] => some []
  | x :: r => match evs sl x, args_ sl r with | some v, some l => some (v :: l) | _, _ => none
theorem args_spec {ρ : Operand → Value} (hρ : ∀ x v, evs sl x = some v → ρ x = v) : ∀ (xs : List Operand) (vs : List Value), args_ sl xs = some vs → xs.map ρ = vs
  | [], vs, h => by simp [args_] at h; simp [h]
  | x :: r, vs, h => by
    unfold args_ at h
    cases h1 : evs sl x with
    | none => rw [h1] at h; simp at h
    | some v =>
      cases h2 : args_ sl r with
      | none => rw [h1, h2] at h; simp at h
      | some l =>
        rw [h1, h2] at h
        simp only [Option.some.injEq] at h
        subst h
        simp [hρ x v h1, args_spec hρ r l h2]
theorem run_callFunc {f : FuncId} (hc : Can P f) (as : Array Value) : (callFunc f as).run P w = .ok (.enter f as) w := by
  obtain ⟨fn, h1, h2, h3⟩ := hc
  have h2' : ¬ fn.name = "runtime.NumGoroutine" := by simpa using h2
  have h3' : ¬ fn.body = none := fun e => by rw [e] at h3; cases h3
  simp [callFunc, program, Sem.run, bind, Sem.bind, h1, h2', h3', pure]
theorem exec_call {f : FuncId} (hc : Can P f) {ρ : Operand → Value} {xs : List Operand} {vs : List Value} {ts : Array TypeId} {o : Oper} (ho : o.op = .call { callee := .value (.func f), args := xs.toArray, argTypes := ts })
    (hf : ρ (.func f) = .func (.func f) #[] #[]) (hv : xs.map ρ = vs) : (execOp ρ o).run P w = .ok (.enter f vs.toArray) w := by
  have := run_callFunc (w := w) hc vs.toArray
  simp [execOp, ho, resolve, hf, Deferred.ofValue, invoke, bind, Sem.bind, pure, hv, this]
theorem WL.call {d : Nat} {f : FuncId} {xs : List Operand} {vs : List Value} {ts : Array TypeId} {t : TypeId} {pos : String} {af : Array Edge} {R : Ending → World → Prop} (hc : Can P f) (hv : args_ sl xs = some vs) (hd : Nat.ble (d + 1) N = true)
    (c : Calls P f vs.toArray w R) (k : ∀ e w', R e w' → ∃ v, e = .returned v ∧ WL P ops Z ks N D ((d, v) :: sl) rest w') :
    WL P ops Z ks N D sl ({ dst := some d, op := .call { callee := .value (.func f), args := xs.toArray, argTypes := ts }, type := t, pos := pos, after := af, guard := none } :: rest) w := fun a ha =>
  wpList_plain rfl fun K hK => by
    unfold Oper.wp
    rw [exec_call hc rfl rfl (args_spec (fun x v hx => ha.ev hx) xs vs hv)]
    refine c.mono fun e w' hr => ?_
    obtain ⟨v, rfl, hk⟩ := k e w' hr
    exact hK _ _ (hk _ (ha.put (Nat.le_of_ble_eq_true hd) v))
theorem WL.call0 {f : FuncId} {xs : List Operand} {vs : List Value} {ts : Array TypeId} {t : TypeId} {pos : String} {af : Array Edge} {R : Ending → World → Prop} (hc : Can P f) (hv : args_ sl xs = some vs)
    (c : Calls P f vs.toArray w R) (k : ∀ e w', R e w' → ∃ v, e = .returned v ∧ WL P ops Z ks N D sl rest w') :
    WL P ops Z ks N D sl ({ dst := none, op := .call { callee := .value (.func f), args := xs.toArray, argTypes := ts }, type := t, pos := pos, after := af, guard := none } :: rest) w := fun a ha =>
  wpList_plain rfl fun K hK => by
    unfold Oper.wp
    rw [exec_call hc rfl rfl (args_spec (fun x v hx => ha.ev hx) xs vs hv)]
    refine c.mono fun e w' hr => ?_
    obtain ⟨v, rfl, hk⟩ := k e w' hr
    exact hK _ _ (hk _ ha)
end
/-! short names for the lines that generated texts are full of -/
theorem lz {α : Type} {a b : α} {l : List α} : (a :: l).set 0 b = b :: l := List.set_cons_zero
theorem ls {α : Type} {a b : α} {l : List α} {n : Nat} : (a :: l).set (n + 1) b = a :: l.set n b := List.set_cons_succ
theorem ez {α : Type} {a : α} {l : List α} : (a :: l).eraseIdx 0 = l := List.eraseIdx_cons_zero
theorem es' {α : Type} {a : α} {l : List α} {n : Nat} : (a :: l).eraseIdx (n + 1) = a :: l.eraseIdx n := List.eraseIdx_cons_succ
theorem dt {p : Prop} [Decidable p] : (decide p = true) = p := decide_eq_true_eq
theorem df {p : Prop} [Decidable p] : decide p = false ↔ ¬ p := decide_eq_false_iff_not
theorem nt {b : Bool} : ((!b) = true) = (b = false) := Bool.not_eq_true' b
theorem nf {b : Bool} : ((!b) = false) = (b = true) := Bool.not_eq_false' b
theorem ba (a b : Bool) : ((a && b) = true) = (a = true ∧ b = true) := Bool.and_eq_true a b
theorem il {a b : Int} : ¬ a < b ↔ b ≤ a := Int.not_lt
theorem ie {a b : Int} : ¬ a ≤ b ↔ b < a := Int.not_le
end B
end Go.Proofs.Ythejglgnoingfaa

namespace Go.Proofs.Ythejglgnoingfaa
open Go Go.RowKit
set_option linter.unusedVariables false
set_option linter.unusedSimpArgs false
namespace B
section
variable {P : Program} {sl : Sl} {w : World} {t T T' : TypeId} {x y z : Operand} {k : IntKind} {m n : Int} {v : Value}
theorem Runs.move (hx : evs sl x = some v) : Runs P sl (.move x) t w v := fun ρ h o ho _ => by simp [execOp, ho, h x v hx, pure, Sem.run]
theorem Runs.assign (hx : evs sl x = some v) : Runs P sl (.assign x) t w v := fun ρ h o ho _ => by simp [execOp, ho, h x v hx, pure, Sem.run]
theorem Runs.pick {c : Operand} {b : Bool} {u v : Value} (hc : evs sl c = some (.bool b)) (hx : evs sl x = some u) (hy : evs sl y = some v) : Runs P sl (.pick c x y) t w (if b then u else v) := fun ρ h o ho _ => by
  cases b <;> simp [execOp, ho, h _ _ hc, h _ _ hx, h _ _ hy, pure, Sem.run, asBool, bind, Sem.bind]
theorem Runs.add (hx : evs sl x = some (.int k m)) (hy : evs sl y = some (.int k n)) : Runs P sl (.binOp .add T x y T') t w (.int k (k.wrap (m + n))) := fun ρ h o ho _ => by
  simp [execOp, ho, h _ _ hx, h _ _ hy, eqGuard, binOp, Op.intArith, pure, Sem.run, bind, Sem.bind]
theorem Runs.sub (hx : evs sl x = some (.int k m)) (hy : evs sl y = some (.int k n)) : Runs P sl (.binOp .sub T x y T') t w (.int k (k.wrap (m - n))) := fun ρ h o ho _ => by
  simp [execOp, ho, h _ _ hx, h _ _ hy, eqGuard, binOp, Op.intArith, pure, Sem.run, bind, Sem.bind]
theorem Runs.mul (hx : evs sl x = some (.int k m)) (hy : evs sl y = some (.int k n)) : Runs P sl (.binOp .mul T x y T') t w (.int k (k.wrap (m * n))) := fun ρ h o ho _ => by
  simp [execOp, ho, h _ _ hx, h _ _ hy, eqGuard, binOp, Op.intArith, pure, Sem.run, bind, Sem.bind]
theorem wrap64_in {m : Int} (h : -9223372036854775808 ≤ m ∧ m ≤ 9223372036854775807) : IntKind.i64.wrap m = m := by
  simp only [IntKind.wrap, IntKind.bits, IntKind.signed, Bool.true_and, decide_eq_true_eq]
  simp only [show (2 : Int) ^ 64 = 18446744073709551616 from rfl, show (2 : Int) ^ (64 - 1) = 9223372036854775808 from rfl]
  split <;> rename_i h' <;> simp only [decide_eq_true_eq, ge_iff_le, Int.not_le] at h' <;> omega
theorem ibeq (m n : Int) : (m == n) = decide (m = n) := by rw [Bool.eq_iff_iff]; simp
theorem Runs.addn {x y : Operand} {m n : Int} (hx : evs sl x = some (.int .i64 m)) (hy : evs sl y = some (.int .i64 n)) (hb : -9223372036854775808 ≤ m + n ∧ m + n ≤ 9223372036854775807) : Runs P sl (.binOp .add T x y T') t w (.int .i64 (m + n)) := by
  have := Runs.add (P := P) (t := t) (w := w) (T := T) (T' := T') hx hy; rwa [wrap64_in hb] at this
theorem Runs.subn {x y : Operand} {m n : Int} (hx : evs sl x = some (.int .i64 m)) (hy : evs sl y = some (.int .i64 n)) (hb : -9223372036854775808 ≤ m - n ∧ m - n ≤ 9223372036854775807) : Runs P sl (.binOp .sub T x y T') t w (.int .i64 (m - n)) := by
  have := Runs.sub (P := P) (t := t) (w := w) (T := T) (T' := T') hx hy; rwa [wrap64_in hb] at this
theorem Runs.muln {x y : Operand} {m n : Int} (hx : evs sl x = some (.int .i64 m)) (hy : evs sl y = some (.int .i64 n)) (hb : -9223372036854775808 ≤ m * n ∧ m * n ≤ 9223372036854775807) : Runs P sl (.binOp .mul T x y T') t w (.int .i64 (m * n)) := by
  have := Runs.mul (P := P) (t := t) (w := w) (T := T) (T' := T') hx hy; rwa [wrap64_in hb] at this
/-- '/' and '%' of a number that is not below 0, by one above 0 -/
theorem Runs.quon {x y : Operand} {m n : Int} (hx : evs sl x = some (.int .i64 m)) (hy : evs sl y = some (.int .i64 n)) (hm : 0 ≤ m ∧ m ≤ 9223372036854775807) (hn : 0 < n) : Runs P sl (.binOp .quo T x y T') t w (.int .i64 (m / n)) := fun ρ h o ho _ => by
  have e1 : m.tdiv n = m / n := Int.tdiv_eq_ediv_of_nonneg hm.1
  have e2 : IntKind.i64.wrap (m / n) = m / n := wrap64_in ⟨by have := Int.ediv_nonneg hm.1 (Int.le_of_lt hn); omega, by have := Int.ediv_le_self n hm.1; omega⟩
  simp [execOp, ho, h _ _ hx, h _ _ hy, eqGuard, binOp, Op.intDiv, pure, Sem.run, bind, Sem.bind, show ¬ n = 0 by omega, e1, e2]
theorem Runs.remn {x y : Operand} {k : IntKind} {m n : Int} (hx : evs sl x = some (.int k m)) (hy : evs sl y = some (.int k n)) (hm : 0 ≤ m) (hn : 0 < n) : Runs P sl (.binOp .rem T x y T') t w (.int k (m % n)) := fun ρ h o ho _ => by
  have e1 : m.tmod n = m % n := Int.tmod_eq_emod_of_nonneg hm
  simp [execOp, ho, h _ _ hx, h _ _ hy, eqGuard, binOp, Op.intDiv, pure, Sem.run, bind, Sem.bind, show ¬ n = 0 by omega, e1]
theorem Runs.lss (hx : evs sl x = some (.int k m)) (hy : evs sl y = some (.int k n)) : Runs P sl (.binOp .lss T x y T') t w (.bool (decide (m < n))) := fun ρ h o ho _ => by
  simp [execOp, ho, h _ _ hx, h _ _ hy, eqGuard, binOp, Op.intCmp, pure, Sem.run, bind, Sem.bind]
theorem Runs.leq (hx : evs sl x = some (.int k m)) (hy : evs sl y = some (.int k n)) : Runs P sl (.binOp .leq T x y T') t w (.bool (decide (m ≤ n))) := fun ρ h o ho _ => by
  simp [execOp, ho, h _ _ hx, h _ _ hy, eqGuard, binOp, Op.intCmp, pure, Sem.run, bind, Sem.bind]
theorem Runs.gtr (hx : evs sl x = some (.int k m)) (hy : evs sl y = some (.int k n)) : Runs P sl (.binOp .gtr T x y T') t w (.bool (decide (n < m))) := fun ρ h o ho _ => by
  simp [execOp, ho, h _ _ hx, h _ _ hy, eqGuard, binOp, Op.intCmp, pure, Sem.run, bind, Sem.bind]
theorem Runs.geq (hx : evs sl x = some (.int k m)) (hy : evs sl y = some (.int k n)) : Runs P sl (.binOp .geq T x y T') t w (.bool (decide (n ≤ m))) := fun ρ h o ho _ => by
  simp [execOp, ho, h _ _ hx, h _ _ hy, eqGuard, binOp, Op.intCmp, pure, Sem.run, bind, Sem.bind]
theorem Runs.eql (hx : evs sl x = some (.int k m)) (hy : evs sl y = some (.int k n)) : Runs P sl (.binOp .eql T x y T') t w (.bool (decide (m = n))) := fun ρ h o ho _ => by
  simp [execOp, ho, h _ _ hx, h _ _ hy, eqGuard, binOp, Op.intCmp, pure, Sem.run, bind, Sem.bind, ibeq]
theorem Runs.neq (hx : evs sl x = some (.int k m)) (hy : evs sl y = some (.int k n)) : Runs P sl (.binOp .neq T x y T') t w (.bool (!decide (m = n))) := fun ρ h o ho _ => by
  simp [execOp, ho, h _ _ hx, h _ _ hy, eqGuard, binOp, Op.intCmp, pure, Sem.run, bind, Sem.bind, bne, ibeq]
theorem Runs.bits {op : BinOp} {r : Value} (hx : evs sl x = some (.int k m)) (hy : evs sl y = some (.int k n)) (hr : (Op.intBits op k m n).run P w = .ok r w) (ho' : op = .and ∨ op = .or ∨ op = .xor ∨ op = .andNot) : Runs P sl (.binOp op T x y T') t w r := fun ρ h o ho _ => by
  rcases ho' with rfl | rfl | rfl | rfl <;>
  · simp only [execOp, ho, h _ _ hx, h _ _ hy, eqGuard, binOp, bind, Sem.bind, pure]
    simp only [Op.intBits, pure, Sem.run] at hr ⊢
    simpa [Sem.bind, Sem.run] using hr
theorem Runs.and (hx : evs sl x = some (.int k m)) (hy : evs sl y = some (.int k n)) : Runs P sl (.binOp .and T x y T') t w (.int k (k.wrap (BitVec.ofInt k.bits m &&& BitVec.ofInt k.bits n).toNat)) := Runs.bits hx hy rfl (.inl rfl)
theorem Runs.or (hx : evs sl x = some (.int k m)) (hy : evs sl y = some (.int k n)) : Runs P sl (.binOp .or T x y T') t w (.int k (k.wrap (BitVec.ofInt k.bits m ||| BitVec.ofInt k.bits n).toNat)) := Runs.bits hx hy rfl (.inr (.inl rfl))
theorem Runs.xor (hx : evs sl x = some (.int k m)) (hy : evs sl y = some (.int k n)) : Runs P sl (.binOp .xor T x y T') t w (.int k (k.wrap (BitVec.ofInt k.bits m ^^^ BitVec.ofInt k.bits n).toNat)) := Runs.bits hx hy rfl (.inr (.inr (.inl rfl)))
theorem Runs.not {b : Bool} (hx : evs sl x = some (.bool b)) : Runs P sl (.unOp .not T x) t w (.bool (!b)) := fun ρ h o ho _ => by
  simp [execOp, ho, h _ _ hx, Op.unary, pure, Sem.run, bind, Sem.bind]
theorem Runs.com (hx : evs sl x = some (.int k m)) : Runs P sl (.unOp .xor T x) t w (.int k (k.wrap (BitVec.ofInt k.bits (if k.signed then -1 else k.max) ^^^ BitVec.ofInt k.bits m).toNat)) := fun ρ h o ho _ => by
  simp [execOp, ho, h _ _ hx, Op.unary, Op.intBits, pure, Sem.run, bind, Sem.bind]
theorem Runs.shr {k' : IntKind} (hx : evs sl x = some (.int k m)) (hy : evs sl y = some (.int k' n)) (h0 : 0 ≤ n) : Runs P sl (.binOp .shr T x y T') t w (.int k (m / 2 ^ min n.toNat k.bits)) := fun ρ h o ho _ => by
  have : m.fdiv (2 ^ min n.toNat k.bits) = m / 2 ^ min n.toNat k.bits := Int.fdiv_eq_ediv_of_nonneg _ (Int.le_of_lt (Int.pow_pos (by decide)))
  simp [execOp, ho, h _ _ hx, h _ _ hy, eqGuard, binOp, Op.shift, pure, Sem.run, bind, Sem.bind, show ¬ n < 0 by omega, this]
theorem Runs.shl {k' : IntKind} (hx : evs sl x = some (.int k m)) (hy : evs sl y = some (.int k' n)) (h0 : 0 ≤ n) : Runs P sl (.binOp .shl T x y T') t w (.int k (k.wrap (m * 2 ^ min n.toNat k.bits))) := fun ρ h o ho _ => by
  simp [execOp, ho, h _ _ hx, h _ _ hy, eqGuard, binOp, Op.shift, pure, Sem.run, bind, Sem.bind, show ¬ n < 0 by omega]
/-! strings -/
theorem Runs.sadd {a b : ByteArray} (hx : evs sl x = some (.string a)) (hy : evs sl y = some (.string b)) (hb : a.size + b.size ≤ 9223372036854775807) : Runs P sl (.binOp .add T x y T') t w (.string (a ++ b)) := fun ρ h o ho _ => by
  have : ¬ ((a.size + b.size : Nat) : Int) > IntKind.i64.max := by
    have : IntKind.i64.max = 9223372036854775807 := by decide
    omega
  simp only [execOp, ho, h _ _ hx, h _ _ hy, eqGuard, binOp, Op.stringOp, bind, Sem.bind, pure, if_neg this, Sem.run]
  rfl
theorem seq_toList (a b : ByteArray) : (a.toList == b.toList) = decide (a = b) := by
  rw [Bool.eq_iff_iff]
  simp only [beq_iff_eq, decide_eq_true_eq]
  constructor
  · intro h
    rw [ByteArray.toList_eq, ByteArray.toList_eq] at h
    cases a; cases b
    simp only at h
    simpa using Array.toList_inj.1 h
  · rintro rfl; rfl
theorem Runs.seql {a b : ByteArray} (hx : evs sl x = some (.string a)) (hy : evs sl y = some (.string b)) : Runs P sl (.binOp .eql T x y T') t w (.bool (decide (a = b))) := fun ρ h o ho _ => by
  rw [← seq_toList]
  simp only [execOp, ho, h _ _ hx, h _ _ hy, eqGuard, binOp, Op.stringOp, bind, Sem.bind, pure, Sem.run]
  rfl
theorem Runs.sneq {a b : ByteArray} (hx : evs sl x = some (.string a)) (hy : evs sl y = some (.string b)) : Runs P sl (.binOp .neq T x y T') t w (.bool (!decide (a = b))) := fun ρ h o ho _ => by
  rw [← seq_toList]
  simp only [execOp, ho, h _ _ hx, h _ _ hy, eqGuard, binOp, Op.stringOp, bind, Sem.bind, pure, Sem.run]
  rfl
/-- bytes of a string -/
def bt (s : ByteArray) (i : Int) : Int := ((s.data[i.toNat]?).getD 0).toNat
theorem bt_range (s : ByteArray) (i : Int) : 0 ≤ bt s i ∧ bt s i < 256 := by
  unfold bt
  have := ((s.data[i.toNat]?).getD 0).toNat_lt
  omega
theorem Runs.sindex {s : ByteArray} {i : Int} (hu : P.underlying T = some .string) (hx : evs sl x = some (.string s)) (hy : evs sl y = some (.int k i)) (hi : 0 ≤ i ∧ i < s.size) : Runs P sl (.index T x y) t w (.int .u8 (bt s i)) := fun ρ h o ho _ => by
  have h2 : i.toNat < s.size := by omega
  have h3 : s[i.toNat]? = some (s[i.toNat]'h2) := getElem?_pos s i.toNat h2
  have h4 : bt s i = ((s[i.toNat]'h2).toNat : Int) := by
    unfold bt
    rw [show s.data[i.toNat]? = some (s[i.toNat]'h2) from Array.getElem?_eq_getElem (xs := s.data) h2]
    rfl
  simp [execOp, ho, h _ _ hx, h _ _ hy, Instr.index, asIntOf, underlying, program, hu, pure, Sem.run, bind, Sem.bind, hi.1, h3, h4]
theorem Runs.slen {s : ByteArray} {ts : Array TypeId} (hu : P.underlying T = some .string) (hts : ts = #[T]) (hx : evs sl x = some (.string s)) :
    Runs P sl (.call { callee := .builtin .len, args := #[x], argTypes := ts }) t w (.int .i64 s.size) := fun ρ h o ho _ => by
  subst hts
  simp [execOp, ho, h _ _ hx, resolve, invoke, builtin, Builtin.len_, underlying, program, hu, pure, Sem.run, bind, Sem.bind, goInt]
theorem Runs.llen {A : Option Addr} {len cap : Nat} {E : TypeId} {ts : Array TypeId} (hu : P.underlying T = some (.slice E)) (hts : ts = #[T]) (hx : evs sl x = some (.slice A len cap)) :
    Runs P sl (.call { callee := .builtin .len, args := #[x], argTypes := ts }) t w (.int .i64 len) := fun ρ h o ho _ => by
  subst hts
  simp [execOp, ho, h _ _ hx, resolve, invoke, builtin, Builtin.len_, underlying, program, hu, pure, Sem.run, bind, Sem.bind, goInt]
theorem Runs.min {ts : Array TypeId} (hx : evs sl x = some (.int k m)) (hy : evs sl y = some (.int k n)) :
    Runs P sl (.call { callee := .builtin .min, args := #[x, y], argTypes := ts }) t w (.int k (if n < m then n else m)) := fun ρ h o ho _ => by
  simp [execOp, ho, h _ _ hx, h _ _ hy, resolve, invoke, builtin, Builtin.min_, Builtin.min2, pure, Sem.run, bind, Sem.bind]
theorem Runs.max {ts : Array TypeId} (hx : evs sl x = some (.int k m)) (hy : evs sl y = some (.int k n)) :
    Runs P sl (.call { callee := .builtin .max, args := #[x, y], argTypes := ts }) t w (.int k (if m < n then n else m)) := fun ρ h o ho _ => by
  simp [execOp, ho, h _ _ hx, h _ _ hy, resolve, invoke, builtin, Builtin.max_, Builtin.max2, pure, Sem.run, bind, Sem.bind]
theorem Runs.toInt {k' : IntKind} (hu : P.underlying T = some (.int k')) (hu' : P.underlying T' = some (.int k)) (hx : evs sl x = some (.int k' m)) : Runs P sl (.convert T T' x) t w (.int k (k.wrap m)) := fun ρ h o ho _ => by
  simp [execOp, ho, h _ _ hx, convert, underlying, program, hu, hu', Conv.intToInt, pure, Sem.run, bind, Sem.bind]
theorem Runs.sconv {s : ByteArray} (hu : P.underlying T = some .string) (hu' : P.underlying T' = some .string) (hx : evs sl x = some (.string s)) : Runs P sl (.convert T T' x) t w (.string s) := fun ρ h o ho _ => by
  simp [execOp, ho, h _ _ hx, convert, underlying, program, hu, hu', pure, Sem.run, bind, Sem.bind]
theorem bound_in {x : Value} {i : Int} {y : Nat} {c : BoundsCode} (hx : x = .int k i) (h : 0 ≤ i ∧ i ≤ y) : Instr.sliceBound x y c = .pure i.toNat := by
  subst hx
  simp [Instr.sliceBound, asIntOf, bind, Sem.bind, pure, h]
/-- the bounds of a slice expression -/
def lo_ (lo : Option Int) : Nat := (lo.map Int.toNat).getD 0
def hi_ (hi : Option Int) (n : Nat) : Nat := (hi.map Int.toNat).getD n
def evo (sl : Sl) : Option Operand → Option (Option Int)
  | none => some none
  | some x => match evs sl x with | some (.int .i64 i) => some (some i) | _ => none
def okb (lo hi : Option Int) (len cap : Nat) : Prop := (∀ h, hi = some h → 0 ≤ h ∧ h ≤ cap) ∧ (∀ l, lo = some l → 0 ≤ l ∧ l ≤ hi_ hi len)
theorem bounds_run {ρ : Operand → Value} (hρ : ∀ x v, evs sl x = some v → ρ x = v) {lo hi : Option Operand} {l h : Option Int} {b : Bool} {len cap : Nat} (h1 : evo sl lo = some l) (h2 : evo sl hi = some h) (hb : okb l h len cap) :
    Instr.sliceBounds b len cap (lo.map ρ) (hi.map ρ) none = .pure (lo_ l, hi_ h len, cap) := by
  have key : ∀ {o : Option Operand} {r : Option Int}, evo sl o = some r → (r = none ∧ o = none) ∨ ∃ x i, o = some x ∧ r = some i ∧ ρ x = .int .i64 i := by
    intro o r hr
    cases o with
    | none => left; simpa [evo, eq_comm] using hr
    | some x =>
      right
      simp only [evo] at hr
      cases hx : evs sl x with
      | none => rw [hx] at hr; simp at hr
      | some v =>
        rw [hx] at hr
        split at hr
        · rename_i i he
          simp only [Option.some.injEq] at hr he
          exact ⟨x, i, rfl, hr.symm, by rw [hρ x v hx, he]⟩
        · simp at hr
  rcases key h2 with ⟨rfl, rfl⟩ | ⟨xh, ih, rfl, rfl, eh⟩ <;> rcases key h1 with ⟨rfl, rfl⟩ | ⟨xl, il, rfl, rfl, el⟩
  · simp [Instr.sliceBounds, lo_, hi_, pure, bind, Sem.bind]
  · have hl := hb.2 il rfl
    simp only [Instr.sliceBounds, lo_, hi_, pure, bind, Sem.bind, Option.map_some, Option.map_none, el, Option.getD_some, Option.getD_none, Option.isSome_none] at *
    rw [bound_in rfl hl]; rfl
  · have hh := hb.1 ih rfl
    simp only [Instr.sliceBounds, lo_, hi_, pure, bind, Sem.bind, Option.map_some, Option.map_none, eh, Option.getD_some, Option.getD_none] at *
    rw [bound_in rfl hh]; rfl
  · have hh := hb.1 ih rfl
    have hl := hb.2 il rfl
    simp only [Instr.sliceBounds, lo_, hi_, pure, bind, Sem.bind, Option.map_some, eh, el, Option.getD_some, Option.isSome_none] at *
    rw [bound_in rfl hh]
    simp only [Sem.bind]
    rw [bound_in rfl hl]; rfl
theorem Runs.sslice {s : ByteArray} {lo hi : Option Operand} {l h : Option Int} (hu : P.underlying T = some .string) (hx : evs sl x = some (.string s)) (h1 : evo sl lo = some l) (h2 : evo sl hi = some h) (hb : okb l h s.size s.size) :
    Runs P sl (.slice T x lo hi none) t w (.string (s.extract (lo_ l) (hi_ h s.size))) := fun ρ hρ o ho _ => by
  have := bounds_run (b := false) hρ h1 h2 hb
  simp [execOp, ho, hρ _ _ hx, Instr.sliceAt, Instr.slice, underlying, program, hu, pure, Sem.run, bind, Sem.bind, this]
theorem Runs.lslice {A : Option Addr} {len cap size : Nat} {E : TypeId} {i : TypeInfo} {lo hi' : Option Operand} {l h : Option Int} (hu : P.underlying T = some (.slice E)) (hi : P.info? E = some i) (hz : i.size = size) (hx : evs sl x = some (.slice A len cap)) (h1 : evo sl lo = some l) (h2 : evo sl hi' = some h) (hb : okb l h len cap) :
    Runs P sl (.slice T x lo hi' none) t w (.slice (if cap = lo_ l then A else A.map (·.add (lo_ l * size))) (hi_ h len - lo_ l) (cap - lo_ l)) := fun ρ hρ o ho _ => by
  have := bounds_run (b := true) hρ h1 h2 hb
  simp [execOp, ho, hρ _ _ hx, Instr.sliceAt, Instr.slice, underlying, program, hu, sizeOf, typeInfo, hi, hz, pure, Sem.run, bind, Sem.bind, this]
/-- a slice of a whole array in memory -/
theorem Runs.aslice {a : Addr} {n size : Nat} {E : TypeId} {i : TypeInfo} {lo hi' : Option Operand} {l h : Option Int} (hu : P.underlying T = some (.array n E)) (hi : P.info? E = some i) (hz : i.size = size) (hx : evs sl x = some (.pointer (some a))) (h1 : evo sl lo = some l) (h2 : evo sl hi' = some h) (hb : okb l h n n) :
    Runs P sl (.slice T x lo hi' none) t w (.slice (some (if n = lo_ l then a else a.add (lo_ l * size))) (hi_ h n - lo_ l) (n - lo_ l)) := fun ρ hρ o ho _ => by
  have := bounds_run (b := false) hρ h1 h2 hb
  simp [execOp, ho, hρ _ _ hx, Instr.sliceAt, Instr.sureAddr, underlying, program, hu, sizeOf, typeInfo, hi, hz, pure, Sem.run, bind, Sem.bind, this]
theorem Runs.aindex {a : Addr} {n size : Nat} {E : TypeId} {i : TypeInfo} {j : Int} (hu : P.underlying T = some (.array n E)) (hi : P.info? E = some i) (hz : i.size = size) (hx : evs sl x = some (.pointer (some a))) (hy : evs sl y = some (.int k j)) (hj : 0 ≤ j ∧ j < n) :
    Runs P sl (.indexAddr T x y) t w (.pointer (some (a.add (j.toNat * size)))) := fun ρ hρ o ho _ => by
  simp [execOp, ho, hρ _ _ hx, hρ _ _ hy, Instr.indexAt, asIntOf, Instr.sureAddr, underlying, program, hu, sizeOf, typeInfo, hi, hz, pure, Sem.run, bind, Sem.bind, hj.1, hj.2]
theorem Runs.lindex {a : Addr} {len cap size : Nat} {E : TypeId} {i : TypeInfo} {j : Int} (hu : P.underlying T = some (.slice E)) (hi : P.info? E = some i) (hz : i.size = size) (hx : evs sl x = some (.slice (some a) len cap)) (hy : evs sl y = some (.int k j)) (hj : 0 ≤ j ∧ j < len) :
    Runs P sl (.indexAddr T x y) t w (.pointer (some (a.add (j.toNat * size)))) := fun ρ hρ o ho _ => by
  simp [execOp, ho, hρ _ _ hx, hρ _ _ hy, Instr.indexAt, asIntOf, underlying, program, hu, sizeOf, typeInfo, hi, hz, pure, Sem.run, bind, Sem.bind, hj.1, hj.2]
theorem Runs.nilCheckP {a : Addr} (hx : evs sl x = some (.pointer (some a))) : Runs P sl (.nilCheck x) t w (.pointer (some a)) := fun ρ hρ o ho _ => by
  simp [execOp, ho, hρ _ _ hx, pure, Sem.run, bind, Sem.bind]
theorem Runs.nilCheckF {f : FuncId} {u c : Array Value} (hx : evs sl x = some (.func (.func f) u c)) : Runs P sl (.nilCheck x) t w (.func (.func f) u c) := fun ρ hρ o ho _ => by
  simp [execOp, ho, hρ _ _ hx, pure, Sem.run, bind, Sem.bind]
theorem Runs.makeFunc {f : FuncId} {xs ys : List Operand} {us vs : List Value} (hx : args_ sl xs = some us) (hy : args_ sl ys = some vs) : Runs P sl (.makeFunc (.func f) xs.toArray ys.toArray) t w (.func (.func f) us.toArray vs.toArray) := fun ρ hρ o ho _ => by
  simp [execOp, ho, Instr.makeFunc, args_spec hρ xs us hx, args_spec hρ ys vs hy, pure, Sem.run, bind, Sem.bind]
theorem Runs.extract {vs : Array Value} {j : Nat} {v : Value} (hx : evs sl x = some (.tuple vs)) (hj : vs[j]? = some v) : Runs P sl (.extract x j) t w v := fun ρ hρ o ho _ => by
  simp [execOp, ho, hρ _ _ hx, Instr.extract, hj, pure, Sem.run, bind, Sem.bind]
/-- a value's run, out of what the instruction does -/
theorem Runs.of {op : Op} {s : (Operand → Value) → Sem Value} (h : ∀ ρ o, o.op = op → execOp ρ o = (do pure (.value (← s ρ)))) (hr : ∀ ρ : Operand → Value, (∀ x v, evs sl x = some v → ρ x = v) → (s ρ).run P w = .ok v w) : Runs P sl op t w v := fun ρ hρ o ho _ => by
  rw [h ρ o ho, Sem.run_bind, hr ρ hρ]
  rfl
end
end B
end Go.Proofs.Ythejglgnoingfaa

namespace Go.Proofs.Ythejglgnoingfaa
open Go Go.RowKit
set_option linter.unusedVariables false
set_option linter.unusedSimpArgs false
namespace B
abbrev Snap := Nat → Option Obj
def Le (F G : Snap) : Prop := ∀ k o, F k = some o → G k = some o
theorem Le.refl (F : Snap) : Le F F := fun _ _ h => h
theorem Le.trans {F G H : Snap} (h : Le F G) (k : Le G H) : Le F H := fun i o e => k i o (h i o e)
abbrev Res := List (Nat × Obj)
structure St (W : World) (F : Snap) (cs : List Res) (w : World) : Prop where
  bel : Below W.heap.size W w
  imm : ∀ k o, F k = some o → w.heap[k]? = some o
  own : ∀ p ∈ cs.flatten, w.heap[p.1]? = some p.2 ∧ W.heap.size ≤ p.1 ∧ F p.1 = none
  nd : (cs.flatten.map (·.1)).Nodup
section
variable {W w w' : World} {F G : Snap} {cs cs' : List Res} {r r' : Res} {b : Nat} {o o' : Obj}
theorem St.start (w : World) : St w (fun k => w.heap[k]?) [] w := ⟨Below.refl _ _, fun _ _ h => h, by simp, by simp⟩
theorem St.weak (h : St W G cs w) (hle : Le F G) : St W F cs w :=
  ⟨h.bel, fun k o e => h.imm k o (hle k o e), fun p hp => ⟨(h.own p hp).1, (h.own p hp).2.1, by
    cases e : F p.1 with
    | none => rfl
    | some o => have := hle _ _ e; rw [(h.own p hp).2.2] at this; cases this⟩, h.nd⟩
theorem St.lt (h : St W F cs w) {p : Nat × Obj} (hp : p ∈ cs.flatten) : p.1 < w.heap.size := (Array.getElem?_eq_some_iff.1 (h.own p hp).1).1
theorem St.immlt (h : St W F cs w) {k : Nat} {o : Obj} (e : F k = some o) : k < w.heap.size := (Array.getElem?_eq_some_iff.1 (h.imm k o e)).1
/-- a call that leaves all that was there as it was -/
theorem St.below (h : St W F cs w) (hb : Below w.heap.size w w') : St W F cs w' :=
  ⟨h.bel.trans (hb.mono h.bel.size), fun k o e => by rw [hb.block k (h.immlt e)]; exact h.imm k o e,
    fun p hp => ⟨by rw [hb.block p.1 (h.lt hp)]; exact (h.own p hp).1, (h.own p hp).2⟩, h.nd⟩
theorem St.drew (h : St W F cs w) : St W F cs { w with drawn := w.drawn + 1 } := h.below ⟨rfl, rfl, rfl, Nat.le_refl _, fun _ _ => rfl⟩
theorem St.subl (h : St W F cs w) (hs : List.Sublist cs'.flatten cs.flatten) : St W F cs' w :=
  ⟨h.bel, h.imm, fun p hp => h.own p (hs.subset hp), h.nd.sublist (hs.map _)⟩
theorem St.perm (h : St W F cs w) (hs : List.Perm cs' cs) : St W F cs' w :=
  ⟨h.bel, h.imm, fun p hp => h.own p ((hs.flatten).subset hp), ((hs.flatten.map (·.1)).nodup_iff).2 h.nd⟩
theorem flat_erase : ∀ (l : List Res) (i : Nat), List.Sublist (l.eraseIdx i).flatten l.flatten
  | [], _ => by simp
  | a :: l, 0 => by simp
  | a :: l, i + 1 => by simpa using (flat_erase l i)
theorem St.drop (h : St W F cs w) (i : Nat) : St W F (cs.eraseIdx i) w := h.subl (flat_erase cs i)
theorem St.alloc (h : St W F cs w) (o : Obj) : St W F ([(w.heap.size, o)] :: cs) (w.alloc o) := by
  have hb : Below w.heap.size w (w.alloc o) := (Below.refl _ _).alloc (Nat.le_refl _) o
  have h' := h.below hb
  refine ⟨h'.bel, h'.imm, fun p hp => ?_, ?_⟩
  · simp only [List.flatten_cons, List.singleton_append, List.mem_cons] at hp
    rcases hp with rfl | hp
    · refine ⟨heap_alloc_new w _, h.bel.size, ?_⟩
      cases e : F w.heap.size with
      | none => rfl
      | some o' => have := h.immlt e; omega
    · exact h'.own p hp
  · simp only [List.flatten_cons, List.singleton_append, List.map_cons, List.nodup_cons]
    refine ⟨fun hm => ?_, h.nd⟩
    obtain ⟨p, hp, e⟩ := List.mem_map.1 hm
    have := h.lt hp
    omega
theorem split_at {α : Type} : ∀ (l : List α) (i : Nat) (x : α), l[i]? = some x → ∃ l1 l2, l = l1 ++ x :: l2 ∧ (∀ y, l.set i y = l1 ++ y :: l2) ∧ l.eraseIdx i = l1 ++ l2
  | [], _, _, h => by simp at h
  | a :: l, 0, x, h => by
    simp only [List.getElem?_cons_zero, Option.some.injEq] at h
    subst h
    exact ⟨[], l, rfl, fun _ => rfl, rfl⟩
  | a :: l, i + 1, x, h => by
    simp only [List.getElem?_cons_succ] at h
    obtain ⟨l1, l2, e1, e2, e3⟩ := split_at l i x h
    exact ⟨a :: l1, l2, by rw [e1]; rfl, fun y => by simp [e2 y], by simp [e3]⟩
/-- a resource of one block is written -/
def World.setBlk (w : World) (b : Nat) (o : Obj) : World := { w with heap := w.heap.setIfInBounds b o }
theorem St.set1 (h : St W F cs w) {i : Nat} (hi : cs[i]? = some [(b, o)]) (o' : Obj) : St W F (cs.set i [(b, o')]) (World.setBlk w b o') := by
  obtain ⟨l1, l2, e1, e2, _⟩ := split_at cs i _ hi
  rw [e2]
  subst e1
  have hb := h.own (b, o) (by simp)
  have hlt : b < w.heap.size := h.lt (p := (b, o)) (by simp)
  have hnd := h.nd
  simp only [List.flatten_append, List.flatten_cons, List.singleton_append, List.map_append, List.map_cons] at hnd
  have hne : ∀ p ∈ l1.flatten ++ l2.flatten, p.1 ≠ b := by
    intro p hp e
    rw [List.nodup_append] at hnd
    obtain ⟨_, hnd2, hnd3⟩ := hnd
    rcases List.mem_append.1 hp with hp | hp
    · exact hnd3 p.1 (List.mem_map_of_mem hp) b (by simp) e
    · exact (List.nodup_cons.1 hnd2).1 (e ▸ List.mem_map_of_mem hp)
  have hk : ∀ k, k ≠ b → (World.setBlk w b o').heap[k]? = w.heap[k]? := fun k e => by simp [World.setBlk, Array.getElem?_setIfInBounds_ne (Ne.symm e)]
  refine ⟨⟨h.bel.os, h.bel.tape, h.bel.output, by simp [World.setBlk]; exact h.bel.size, fun k hkk => ?_⟩, fun k q e => ?_, fun p hp => ?_, ?_⟩
  · rw [hk k (fun e => by subst e; have := hb.2.1; simp only at this; omega)]; exact h.bel.block k hkk
  · rw [hk k (fun e' => by subst e'; rw [hb.2.2] at e; cases e)]; exact h.imm k q e
  · simp only [List.flatten_append, List.flatten_cons, List.singleton_append, List.mem_append, List.mem_cons] at hp
    rcases hp with hp | rfl | hp
    · rw [hk p.1 (hne p (by simp [hp]))]; exact h.own p (by simp [hp])
    · exact ⟨by simp [World.setBlk, hlt], hb.2⟩
    · rw [hk p.1 (hne p (by simp [hp]))]; exact h.own p (by simp [hp])
  · simpa using hnd
theorem setCell_blk {arr : Array Value} {t : TypeId} {fz : Nat × Nat} (h : w.heap[b]? = some (.cells arr t fz)) (off : Nat) (v : Value) : w.setCell ⟨b, off, none⟩ v = World.setBlk w b (.cells (arr.setIfInBounds off v) t fz) := by
  have hlt := (Array.getElem?_eq_some_iff.1 h).1
  have : w.heap.modify b (fun | .cells c elem frozen => .cells (if (none : Option Nat).isSome then c else c.setIfInBounds off v) elem frozen | o => o) = w.heap.setIfInBounds b (.cells (arr.setIfInBounds off v) t fz) := by
    apply Array.ext_getElem?
    intro i
    rw [Array.getElem?_modify]
    by_cases e : b = i
    · subst e
      rw [if_pos rfl, h]
      simp [hlt]
    · rw [if_neg e, Array.getElem?_setIfInBounds_ne e]
  unfold World.setCell World.setBlk
  simp only
  exact congrArg (fun hp => ({ w with heap := hp } : World)) this
/-- what is the call's own is let go: it never changes any more -/
theorem St.freeze (h : St W F cs w) {i : Nat} (hi : cs[i]? = some r) : ∃ G, Le F G ∧ (∀ p ∈ r, G p.1 = some p.2) ∧ St W G (cs.eraseIdx i) w := by
  obtain ⟨l1, l2, e1, _, e3⟩ := split_at cs i _ hi
  rw [e3]
  subst e1
  have hnd := h.nd
  simp only [List.flatten_append, List.flatten_cons, List.map_append] at hnd
  let G : Snap := fun k => if k ∈ (r.map (·.1)) then w.heap[k]? else F k
  have hr : ∀ p ∈ r, p ∈ (l1 ++ r :: l2).flatten := fun p hp => by simp [hp]
  refine ⟨G, fun k o e => ?_, fun p hp => ?_, h.bel, fun k o e => ?_, fun p hp => ?_, ?_⟩
  · show (if k ∈ (r.map (·.1)) then w.heap[k]? else F k) = some o
    split
    · exact h.imm k o e
    · exact e
  · show (if p.1 ∈ (r.map (·.1)) then w.heap[p.1]? else F p.1) = some p.2
    rw [if_pos (List.mem_map_of_mem hp)]
    exact (h.own p (hr p hp)).1
  · have e' : (if k ∈ (r.map (·.1)) then w.heap[k]? else F k) = some o := e
    split at e'
    · exact e'
    · exact h.imm k o e'
  · have hp' : p ∈ (l1 ++ r :: l2).flatten := by
      simp only [List.flatten_append, List.mem_append, List.flatten_cons] at hp ⊢
      rcases hp with hp | hp
      · exact .inl hp
      · exact .inr (.inr hp)
    refine ⟨(h.own p hp').1, (h.own p hp').2.1, ?_⟩
    show (if p.1 ∈ (r.map (·.1)) then w.heap[p.1]? else F p.1) = none
    rw [if_neg]
    · exact (h.own p hp').2.2
    · intro hm
      rw [List.nodup_append] at hnd
      obtain ⟨_, hnd2, hnd3⟩ := hnd
      rw [List.nodup_append] at hnd2
      simp only [List.flatten_append, List.mem_append] at hp
      rcases hp with hp | hp
      · exact hnd3 p.1 (List.mem_map_of_mem hp) p.1 (List.mem_append_left _ hm) rfl
      · exact hnd2.2.2 p.1 hm p.1 (List.mem_map_of_mem hp) rfl
  · simp only [List.flatten_append, List.map_append]
    refine hnd.sublist ?_
    exact List.Sublist.append (List.Sublist.refl _) (List.sublist_append_right _ _)
/-- all that is there now, but the call's own -/
theorem St.max (h : St W F cs w) : ∃ G, Le F G ∧ St W G cs w ∧ ∀ k o, w.heap[k]? = some o → k ∉ cs.flatten.map (·.1) → G k = some o := by
  refine ⟨fun k => if k ∈ cs.flatten.map (·.1) then none else w.heap[k]?, fun k o e => ?_, ⟨h.bel, fun k o e => ?_, fun p hp => ⟨(h.own p hp).1, (h.own p hp).2.1, ?_⟩, h.nd⟩, fun k o e hn => ?_⟩
  · show (if k ∈ cs.flatten.map (·.1) then none else w.heap[k]?) = some o
    rw [if_neg]
    · exact h.imm k o e
    · intro hm
      obtain ⟨p, hp, rfl⟩ := List.mem_map.1 hm
      rw [(h.own p hp).2.2] at e; cases e
  · have e' : (if k ∈ cs.flatten.map (·.1) then none else w.heap[k]?) = some o := e
    split at e'
    · cases e'
    · exact e'
  · show (if p.1 ∈ cs.flatten.map (·.1) then none else w.heap[p.1]?) = none
    rw [if_pos (List.mem_map_of_mem hp)]
  · show (if k ∈ cs.flatten.map (·.1) then none else w.heap[k]?) = some o
    rw [if_neg hn]; exact e
end

/-! ### addresses and cells -/
theorem add_mk (b o n : Nat) : (⟨b, o, none⟩ : Addr).add n = ⟨b, o + n, none⟩ := by
  unfold Addr.add
  split
  · simp [*]
  · rfl
theorem add_add (a : Addr) (m n : Nat) : (a.add m).add n = a.add (m + n) := by
  unfold Addr.add
  by_cases hm : m = 0 <;> by_cases hn : n = 0 <;> simp [hm, hn, Nat.add_assoc]
def cellF (F : Snap) (a : Addr) : Option Value :=
  match F a.block with
  | some (.cells c _ _) => if a.spot.isSome then none else c[a.off]?
  | _ => none
theorem cellF_le {F G : Snap} (h : Le F G) {a : Addr} {v : Value} (e : cellF F a = some v) : cellF G a = some v := by
  unfold cellF at *
  cases hF : F a.block with
  | none => rw [hF] at e; cases e
  | some o => rw [h _ _ hF]; rw [hF] at e; exact e
theorem St.cell {W w : World} {F : Snap} {cs : List Res} (h : St W F cs w) {a : Addr} {v : Value} (e : cellF F a = some v) : w.cell? a = some v := by
  unfold cellF at e
  unfold World.cell?
  cases hF : F a.block with
  | none => rw [hF] at e; cases e
  | some o => rw [h.imm _ _ hF]; rw [hF] at e; exact e
theorem St.ocell {W w : World} {F : Snap} {cs : List Res} (h : St W F cs w) {i : Nat} {b off : Nat} {arr : Array Value} {t : TypeId} {fz : Nat × Nat} (hi : cs[i]? = some [(b, .cells arr t fz)]) {v : Value} (e : arr[off]? = some v) : w.cell? ⟨b, off, none⟩ = some v := by
  have := (h.own (b, .cells arr t fz) (List.mem_flatten.2 ⟨_, List.mem_of_getElem? hi, by simp⟩)).1
  simp only at this
  simp [World.cell?, this, e]
theorem St.blk {W w : World} {F : Snap} {cs : List Res} (h : St W F cs w) {i : Nat} {b : Nat} {o : Obj} (hi : cs[i]? = some [(b, o)]) : w.heap[b]? = some o :=
  (h.own (b, o) (List.mem_flatten.2 ⟨_, List.mem_of_getElem? hi, by simp⟩)).1

/-! ### kinds of data, as they lie in cells that never change -/
structure Kd (α : Type) where
  sz : Nat
  K : Snap → α → List Value → Prop
  len : ∀ {F x c}, K F x c → c.length = sz
  mono : ∀ {F G x c}, Le F G → K F x c → K G x c
/-- a slice's elements: from address A on -/
def RdS {α : Type} (d : Kd α) (F : Snap) (A : Option Addr) (xs : List α) : Prop :=
  xs = [] ∨ ∃ ad, A = some ad ∧ ∀ i x, xs[i]? = some x → ∃ c, d.K F x c ∧ ∀ j v, c[j]? = some v → cellF F (ad.add (i * d.sz + j)) = some v
theorem RdS.mono {α : Type} {d : Kd α} {F G : Snap} {A : Option Addr} {xs : List α} (hle : Le F G) (h : RdS d F A xs) : RdS d G A xs := by
  rcases h with h | ⟨ad, hA, h⟩
  · exact .inl h
  · exact .inr ⟨ad, hA, fun i x hx => by
      obtain ⟨c, h1, h2⟩ := h i x hx
      exact ⟨c, d.mono hle h1, fun j v hv => cellF_le hle (h2 j v hv)⟩⟩
theorem RdS.at_ {α : Type} {d : Kd α} {F : Snap} {A : Option Addr} {xs : List α} (h : RdS d F A xs) {i : Nat} {x : α} (hx : xs[i]? = some x) : ∃ ad c, A = some ad ∧ d.K F x c ∧ ∀ j v, c[j]? = some v → cellF F (ad.add (i * d.sz + j)) = some v := by
  rcases h with h | ⟨ad, hA, h⟩
  · rw [h] at hx; simp at hx
  · obtain ⟨c, h1, h2⟩ := h i x hx
    exact ⟨ad, c, hA, h1, h2⟩
/-- a slice of a slice -/
theorem RdS.drop {α : Type} {d : Kd α} {F : Snap} {A : Option Addr} {xs : List α} (h : RdS d F A xs) (k : Nat) {cap : Nat} (hc : cap = k → xs.length ≤ k) : RdS d F (if cap = k then A else A.map (·.add (k * d.sz))) (xs.drop k) := by
  by_cases hk : xs.length ≤ k
  · exact .inl (List.drop_eq_nil_of_le hk)
  · rw [if_neg (fun e => hk (hc e))]
    rcases h with h | ⟨ad, hA, h⟩
    · rw [h] at hk; simp at hk
    · refine .inr ⟨ad.add (k * d.sz), by rw [hA]; rfl, fun i x hx => ?_⟩
      rw [List.getElem?_drop] at hx
      obtain ⟨c, h1, h2⟩ := h _ _ hx
      refine ⟨c, h1, fun j v hv => ?_⟩
      rw [add_add, ← Nat.add_assoc, ← Nat.add_mul]
      exact h2 j v hv
theorem RdS.take {α : Type} {d : Kd α} {F : Snap} {A : Option Addr} {xs : List α} (h : RdS d F A xs) (k : Nat) : RdS d F A (xs.take k) := by
  rcases h with h | ⟨ad, hA, h⟩
  · exact .inl (by rw [h]; simp)
  · exact .inr ⟨ad, hA, fun i x hx => h i x (by
      rw [List.getElem?_take] at hx
      split at hx
      · exact hx
      · cases hx)⟩
def Kd.one {α : Type} (f : α → Value) : Kd α := ⟨1, fun _ x c => c = [f x], fun h => by rw [h]; rfl, fun _ h => h⟩
abbrev Kd.int (k : IntKind) : Kd Int := Kd.one (Value.int k)
abbrev Kd.bool : Kd Bool := Kd.one Value.bool
abbrev Kd.str : Kd ByteArray := Kd.one Value.string
abbrev Kd.u8 : Kd UInt8 := Kd.one fun x => Value.int .u8 x.toNat
/-- element i of a slice of cells -/
theorem RdS.get1 {α : Type} {f : α → Value} {F : Snap} {A : Option Addr} {xs : List α} (h : RdS (Kd.one f) F A xs) {i : Nat} {x : α} (hx : xs[i]? = some x) : ∃ ad, A = some ad ∧ cellF F (ad.add i) = some (f x) := by
  obtain ⟨ad, c, hA, h1, h2⟩ := h.at_ hx
  have h1 : c = [f x] := h1
  subst h1
  exact ⟨ad, hA, by have := h2 0 (f x) rfl; simpa [Kd.one] using this⟩
def Kd.pair {α β : Type} (d : Kd α) (e : Kd β) : Kd (α × β) := ⟨d.sz + e.sz, fun F x c => ∃ c1 c2, c = c1 ++ c2 ∧ d.K F x.1 c1 ∧ e.K F x.2 c2,
  fun h => by obtain ⟨c1, c2, rfl, h1, h2⟩ := h; simp [d.len h1, e.len h2],
  fun hle h => by obtain ⟨c1, c2, rfl, h1, h2⟩ := h; exact ⟨c1, c2, rfl, d.mono hle h1, e.mono hle h2⟩⟩
def Kd.iso {α β : Type} (d : Kd α) (f : β → α) : Kd β := ⟨d.sz, fun F x c => d.K F (f x) c, fun h => d.len h, fun hle h => d.mono hle h⟩
def Kd.slice {α : Type} (d : Kd α) : Kd (List α) := ⟨1, fun F xs c => ∃ A cap, c = [.slice A xs.length cap] ∧ xs.length ≤ cap ∧ RdS d F A xs,
  fun h => by obtain ⟨A, cap, rfl, _⟩ := h; rfl,
  fun hle h => by obtain ⟨A, cap, rfl, h1, h2⟩ := h; exact ⟨A, cap, rfl, h1, h2.mono hle⟩⟩
end B
end Go.Proofs.Ythejglgnoingfaa

namespace Go.Proofs.Ythejglgnoingfaa
open Go Go.RowKit
set_option linter.unusedVariables false
set_option linter.unusedSimpArgs false
namespace B
/-- the value of one cell -/
def one_ : Value → Bool
  | .agg _ => false
  | .tuple _ => false
  | _ => true
def scal : TypeDesc → Bool
  | .struct _ => false
  | .array _ _ => false
  | _ => true
section
variable {P : Program} {sl : Sl} {W w : World} {F : Snap} {cs : List Res} {t T T' : TypeId} {x y z : Operand} {k : IntKind} {m n : Int} {v : Value}
theorem run_load {a : Addr} (hc : w.cell? a = some v) : (load a).run P w = .ok v w := by simp [load, Sem.run, hc]
theorem Runs.load1 {a : Addr} {d : TypeDesc} (hu : P.underlying T = some d) (hs : scal d = true) (hx : evs sl x = some (.pointer (some a))) (hc : w.cell? a = some v) : Runs P sl (.load T x) t w v := fun ρ h o ho _ => by
  have h1 : (isAgg T).run P w = .ok false w := by
    cases d <;> simp_all [isAgg, underlying, program, scal, Sem.run, bind, Sem.bind, pure]
  have h2 : (loadVar T a).run P w = .ok v w := by
    unfold loadVar
    rw [Sem.run_bind, h1]
    simp [Result.andThen, run_load hc]
  simp only [execOp, ho, h _ _ hx]
  rw [Sem.run_bind]
  have h3 : (Instr.loadAt T (.pointer (some a))).run P w = .ok v w := by
    unfold Instr.loadAt
    rw [Sem.run_bind]
    simpa [Instr.sureAddr, Sem.run, pure, Result.andThen] using h2
  rw [h3]
  rfl
theorem run_loadCells {a : Addr} (vs : List Value) : ∀ (i : Nat) (acc : Array Value), (∀ j v, vs[j]? = some v → w.cell? (a.add (i + j)) = some v) → (loadCellsFrom a i vs.length acc).run P w = .ok (acc ++ vs.toArray) w := by
  induction vs with
  | nil => intro i acc _; simp [loadCellsFrom, Sem.run, pure]
  | cons v r ih =>
    intro i acc h
    simp only [List.length_cons, loadCellsFrom]
    rw [Sem.run_bind, run_load (by simpa using h 0 v rfl)]
    simp only [Result.andThen]
    rw [ih (i + 1) (acc.push v) (fun j u hj => by have := h (j + 1) u (by simpa using hj); rw [show i + 1 + j = i + (j + 1) by omega]; exact this)]
    simp
theorem Runs.loadA {a : Addr} {d : TypeDesc} {ti : TypeInfo} {vs : List Value} (hu : P.underlying T = some d) (hs : scal d = false) (hi : P.info? T = some ti) (hz : ti.size = vs.length) (hx : evs sl x = some (.pointer (some a)))
    (hc : ∀ j v, vs[j]? = some v → w.cell? (a.add j) = some v) : Runs P sl (.load T x) t w (.agg vs.toArray) := fun ρ h o ho _ => by
  have h1 : (isAgg T).run P w = .ok true w := by
    cases d <;> simp_all [isAgg, underlying, program, scal, Sem.run, bind, Sem.bind, pure]
  have h2 : (loadVar T a).run P w = .ok (.agg vs.toArray) w := by
    unfold loadVar
    rw [Sem.run_bind, h1]
    have h3 := run_loadCells (P := P) (w := w) (a := a) vs 0 #[] (fun j v hj => by simpa using hc j v hj)
    simp only [Result.andThen, if_true]
    simp only [sizeOf, typeInfo, program, bind, Sem.bind, pure]
    simp only [Sem.run, hi, Sem.bind, hz]
    rw [show loadCells a vs.length = loadCellsFrom a 0 vs.length #[] from rfl]
    have := Sem.run_bind (P := P) (w := w) (loadCellsFrom a 0 vs.length #[]) (fun cs => (pure (Value.agg cs) : Sem Value))
    simp only [bind, pure] at this
    rw [this, h3]
    simp [Result.andThen, Sem.run]
  simp only [execOp, ho, h _ _ hx]
  rw [Sem.run_bind]
  have h3 : (Instr.loadAt T (.pointer (some a))).run P w = .ok (.agg vs.toArray) w := by
    unfold Instr.loadAt
    rw [Sem.run_bind]
    simpa [Instr.sureAddr, Sem.run, pure, Result.andThen] using h2
  rw [h3]
  rfl
/-! stores -/
def blit : Array Value → Nat → List Value → Array Value
  | arr, _, [] => arr
  | arr, off, v :: r => blit (arr.setIfInBounds off v) (off + 1) r
theorem blit_size : ∀ (vs : List Value) (arr : Array Value) (off : Nat), (blit arr off vs).size = arr.size
  | [], _, _ => rfl
  | v :: r, arr, off => by simp [blit, blit_size r]
theorem blit_toList : ∀ (vs : List Value) (arr : Array Value) (off : Nat), off + vs.length ≤ arr.size → (blit arr off vs).toList = arr.toList.take off ++ vs ++ arr.toList.drop (off + vs.length)
  | [], arr, off, _ => by simp [blit]
  | v :: r, arr, off, h => by
    simp only [List.length_cons] at h
    simp only [blit]
    rw [blit_toList r _ _ (by simp; omega)]
    simp only [Array.toList_setIfInBounds, List.length_cons]
    rw [List.take_succ_eq_append_getElem (by simp; omega), List.take_set_of_le (by omega : off ≤ off), List.drop_set_of_lt (by omega)]
    simp [Nat.add_assoc, Nat.add_comm 1]
theorem blit_all (vs : List Value) (arr : Array Value) (h : vs.length = arr.size) : blit arr 0 vs = vs.toArray := by
  apply Array.toList_inj.1
  rw [blit_toList vs arr 0 (by omega)]
  simp [← h]
theorem blit_one (arr : Array Value) (off : Nat) (v : Value) : blit arr off [v] = arr.setIfInBounds off v := rfl
def Free (fz : Nat × Nat) (n : Nat) : Prop := ∀ j, j < n → ¬ (fz.1 ≤ j ∧ j < fz.2)
theorem Free.zero (n : Nat) : Free (0, 0) n := fun _ _ h => by have := h.2; simp at this
theorem setBlk_blk (w : World) (b : Nat) (o o' : Obj) : World.setBlk (World.setBlk w b o) b o' = World.setBlk w b o' := by
  simp [World.setBlk]
theorem run_store {b off : Nat} {arr : Array Value} {tt : TypeId} {fz : Nat × Nat} (hb : w.heap[b]? = some (.cells arr tt fz)) (hf : Free fz arr.size) (ho : off < arr.size) (hv : one_ v = true) :
    (store ⟨b, off, none⟩ v).run P w = .ok () (World.setBlk w b (.cells (arr.setIfInBounds off v) tt fz)) := by
  have hc : w.cell? ⟨b, off, none⟩ = some arr[off] := by simp [World.cell?, hb, ho]
  have hz : w.frozen? ⟨b, off, none⟩ = false := by
    have := hf off ho
    simp only [World.frozen?, hb]
    simpa using this
  have : (store ⟨b, off, none⟩ v).run P w = .ok () (w.setCell ⟨b, off, none⟩ v) := by
    cases v <;> simp_all [store, Sem.run, one_]
  rw [this, setCell_blk hb]
theorem run_storeCells {b : Nat} {tt : TypeId} {fz : Nat × Nat} (vs : List Value) : ∀ (w : World) (off i : Nat) (arr : Array Value), w.heap[b]? = some (.cells arr tt fz) → Free fz arr.size → off + i + vs.length ≤ arr.size → (∀ v ∈ vs, one_ v = true) →
    (storeCells ⟨b, off, none⟩ vs i).run P w = .ok () (World.setBlk w b (.cells (blit arr (off + i) vs) tt fz)) := by
  induction vs with
  | nil =>
    intro w off i arr hb _ _ _
    have hlt := (Array.getElem?_eq_some_iff.1 hb)
    obtain ⟨hlt, he⟩ := hlt
    have : World.setBlk w b (.cells arr tt fz) = w := by
      unfold World.setBlk
      have : w.heap.setIfInBounds b (.cells arr tt fz) = w.heap := by
        apply Array.ext_getElem?
        intro j
        by_cases e : b = j
        · subst e; simp [hlt, he]
        · rw [Array.getElem?_setIfInBounds_ne e]
      rw [this]
    simp [storeCells, Sem.run, pure, blit, this]
  | cons v r ih =>
    intro w off i arr hb hf hs h1
    simp only [List.length_cons] at hs
    simp only [storeCells, add_mk]
    rw [Sem.run_bind, run_store hb hf (by omega) (h1 v (by simp))]
    simp only [Result.andThen]
    have hlt := (Array.getElem?_eq_some_iff.1 hb).1
    rw [ih (World.setBlk w b (.cells (arr.setIfInBounds (off + i) v) tt fz)) off (i + 1) (arr.setIfInBounds (off + i) v) (by simp [World.setBlk, hlt]) (by simpa using hf) (by simp; omega) (fun u hu => h1 u (by simp [hu]))]
    rw [setBlk_blk]
    rfl
end
section
variable {P : Program} {Z : Post} {ks : List Fr} {N : Nat} {D : List Deferred} {sl : Sl} {W w : World} {ops : Array Oper} {rest : List Oper} {F : Snap} {cs : List Res} {t T T' : TypeId} {x y z : Operand} {v : Value} {pos : String} {af : Array Edge}
/-- an operation that changes the world: its run -/
theorem WL.skip_ {op : Op} {w' : World} (h : ∀ (ρ : Operand → Value), (∀ x v, evs sl x = some v → ρ x = v) → ∀ o : Oper, o.op = op → (execOp ρ o).run P w = .ok .skip w') (k : WL P ops Z ks N D sl rest w') :
    WL P ops Z ks N D sl ({ dst := none, op := op, type := t, pos := pos, after := af, guard := none } :: rest) w := fun a ha =>
  wpList_plain rfl fun K hK => by
    unfold Oper.wp
    rw [h a.eval (fun x v hx => ha.ev hx) _ rfl]
    exact hK _ _ (k _ ha)
theorem WL.val_ {d : Nat} {op : Op} {w' : World} (hd : Nat.ble (d + 1) N = true) (h : ∀ (ρ : Operand → Value), (∀ x v, evs sl x = some v → ρ x = v) → ∀ o : Oper, o.op = op → o.type = t → (execOp ρ o).run P w = .ok (.value v) w') (k : WL P ops Z ks N D ((d, v) :: sl) rest w') :
    WL P ops Z ks N D sl ({ dst := some d, op := op, type := t, pos := pos, after := af, guard := none } :: rest) w := fun a ha =>
  wpList_plain rfl fun K hK => by
    unfold Oper.wp
    rw [h a.eval (fun x v hx => ha.ev hx) _ rfl rfl]
    exact hK _ _ (k _ (ha.put (Nat.le_of_ble_eq_true hd) v))
theorem WL.store (h : St W F cs w) (i : Nat) {b off : Nat} {arr : Array Value} {tt : TypeId} {fz : Nat × Nat} {ti : TypeInfo} (hi : cs[i]? = some [(b, .cells arr tt fz)]) (hx : evs sl x = some (.pointer (some ⟨b, off, none⟩))) (hy : evs sl y = some v)
    (hT : P.info? T = some ti) (hz : ti.size = v.cells.size) (h1 : v.cells.toList.all one_ = true) (hf : Free fz arr.size) (ho : off + v.cells.size ≤ arr.size)
    (k : ∀ w', St W F (cs.set i [(b, .cells (blit arr off v.cells.toList) tt fz)]) w' → WL P ops Z ks N D sl rest w') :
    WL P ops Z ks N D sl ({ dst := none, op := .store T x y, type := t, pos := pos, after := af, guard := none } :: rest) w := by
  refine WL.skip_ (w' := World.setBlk w b (.cells (blit arr off v.cells.toList) tt fz)) (fun ρ hρ o ho' => ?_) (k _ (h.set1 hi _))
  have hs : (sizeOf T).run P w = .ok v.cells.size w := by simp [sizeOf, typeInfo, program, bind, Sem.bind, pure, Sem.run, hT, hz]
  have h2 := run_storeCells (P := P) v.cells.toList w off 0 arr (h.blk hi) hf (by simpa using ho) (fun u hu => List.all_eq_true.1 h1 u hu)
  have h3 : (storeVar T ⟨b, off, none⟩ v).run P w = .ok () (World.setBlk w b (.cells (blit arr off v.cells.toList) tt fz)) := by
    unfold storeVar
    rw [Sem.run_bind, hs]
    simp only [Result.andThen, ne_eq, not_true_eq_false, if_false]
    have := Sem.run_bind (P := P) (w := w) (pure () : Sem PUnit) (fun _ => storeCells ⟨b, off, none⟩ v.cells.toList)
    simpa [Sem.run, pure, bind, Sem.bind] using h2
  simp only [execOp, ho', hρ _ _ hx, hρ _ _ hy, Instr.storeAt, Instr.sureAddr]
  rw [Sem.run_bind]
  have h4 : (do storeVar T (← (pure ⟨b, off, none⟩ : Sem Addr)) v : Sem Unit).run P w = .ok () (World.setBlk w b (.cells (blit arr off v.cells.toList) tt fz)) := by
    rw [Sem.run_bind]
    simpa [Sem.run, pure, Result.andThen] using h3
  rw [h4]
  rfl
theorem run_newRow (E : TypeId) (c : Array Value) : (newRow E c).run P w = .ok ⟨w.heap.size, 0, none⟩ (w.alloc (.cells c E)) := by
  simp [newRow, newObj, Sem.run, bind, Sem.bind, pure]
theorem WL.alloc {d : Nat} {zv : Value} {ti : TypeInfo} (hd : Nat.ble (d + 1) N = true) (h : St W F cs w) (hT : P.info? T = some ti) (hz : ti.zero = some zv)
    (k : ∀ b w', St W F ([(b, .cells zv.cells T (0, 0))] :: cs) w' → WL P ops Z ks N D ((d, .pointer (some ⟨b, 0, none⟩)) :: sl) rest w') :
    WL P ops Z ks N D sl ({ dst := some d, op := .alloc T, type := t, pos := pos, after := af, guard := none } :: rest) w := by
  refine WL.val_ (w' := w.alloc (.cells zv.cells T)) hd (fun ρ hρ o ho _ => ?_) (k _ _ (h.alloc _))
  simp [execOp, ho, Instr.alloc, zeroValue, typeInfo, program, bind, Sem.bind, pure, Sem.run, hT, hz, newVar, newRow, newObj]
theorem WL.box {d : Nat} (hd : Nat.ble (d + 1) N = true) (h : St W F cs w) (hx : evs sl x = some v)
    (k : ∀ b w', St W F ([(b, .cells v.cells T (0, 0))] :: cs) w' → WL P ops Z ks N D ((d, .pointer (some ⟨b, 0, none⟩)) :: sl) rest w') :
    WL P ops Z ks N D sl ({ dst := some d, op := .box T x, type := t, pos := pos, after := af, guard := none } :: rest) w := by
  refine WL.val_ (w' := w.alloc (.cells v.cells T)) hd (fun ρ hρ o ho _ => ?_) (k _ _ (h.alloc _))
  simp [execOp, ho, hρ _ _ hx, Instr.box, bind, Sem.bind, pure, Sem.run, newVar, newRow, newObj]
end

/-! ### rows of the call's own -/
def IsRow (E : TypeId) (sz : Nat) (r : Res) (v : Value) (n : Nat) (cl : List Value) : Prop :=
  (r = [] ∧ v = .slice none 0 0 ∧ n = 0 ∧ cl = []) ∨
  ∃ b cap arr fz, r = [(b, .cells arr E fz)] ∧ v = .slice (some ⟨b, 0, none⟩) n cap ∧ arr.size = cap * sz ∧ n ≤ cap ∧ cl = arr.toList.take (n * sz) ∧ Free fz arr.size
theorem IsRow.nil (E : TypeId) (sz : Nat) : IsRow E sz [] (.slice none 0 0) 0 [] := .inl ⟨rfl, rfl, rfl, rfl⟩
theorem IsRow.len {E : TypeId} {sz n : Nat} {r : Res} {v : Value} {cl : List Value} (h : IsRow E sz r v n cl) : cl.length = n * sz := by
  rcases h with ⟨_, _, rfl, rfl⟩ | ⟨b, cap, arr, fz, _, _, hs, hn, rfl, _⟩
  · simp
  · have : n * sz ≤ cap * sz := Nat.mul_le_mul_right _ hn
    rw [List.length_take, Array.length_toList, hs]; omega
theorem IsRow.val {E : TypeId} {sz n : Nat} {r : Res} {v : Value} {cl : List Value} (h : IsRow E sz r v n cl) : ∃ A cap, v = .slice A n cap ∧ n ≤ cap := by
  rcases h with ⟨_, rfl, rfl, _⟩ | ⟨b, cap, arr, fz, _, rfl, _, hn, _, _⟩
  · exact ⟨none, 0, rfl, Nat.le_refl _⟩
  · exact ⟨_, cap, rfl, hn⟩
/-- what is appended, as it is read -/
structure Src (P : Program) (w : World) (sz : Nat) (x : Value) (m : Nat) (src : List Value) : Prop where
  len : ∀ j, (Builtin.lenOf x).run P (w.drewN j) = .ok m (w.drewN j)
  cells : ∀ j, (Builtin.firstCells sz m x).run P (w.drewN j) = .ok src.toArray (w.drewN j)
  size : src.length = m * sz
  one : src.all one_ = true
section
variable {P : Program} {W w : World} {F : Snap} {cs : List Res}
theorem Src.nil {sz c : Nat} : Src P w sz (.slice none 0 c) 0 [] :=
  ⟨fun _ => by simp [Builtin.lenOf, Sem.run, pure], fun _ => by simp [Builtin.firstCells, Sem.run, pure], by simp, rfl⟩
theorem Src.str {s : ByteArray} : Src P w 1 (.string s) s.size (s.data.toList.map fun b => Value.int .u8 b.toNat) := by
  refine ⟨fun _ => by simp [Builtin.lenOf, Sem.run, pure], fun _ => ?_, by simp, by rw [List.all_eq_true]; intro u hu; obtain ⟨b, _, rfl⟩ := List.mem_map.1 hu; rfl⟩
  have : s.extract 0 s.size = s := ByteArray.extract_zero_size
  simp only [Builtin.firstCells, Sem.run, pure, this]
  congr 1
  apply Array.toList_inj.1
  simp
theorem Src.slice {sz m c : Nat} {A : Option Addr} {src : List Value} (hl : src.length = m * sz) (h : src = [] ∨ ∃ ad, A = some ad ∧ ∀ j v, src[j]? = some v → w.cell? (ad.add j) = some v) (h1 : src.all one_ = true) : Src P w sz (.slice A m c) m src := by
  refine ⟨fun _ => by simp [Builtin.lenOf, Sem.run, pure], fun j => ?_, hl, h1⟩
  cases A with
  | none =>
    have : src = [] := by
      rcases h with h | ⟨ad, h, _⟩
      · exact h
      · cases h
    subst this
    simp [Builtin.firstCells, Sem.run, pure]
  | some ad =>
    have hc : ∀ i v, src[i]? = some v → (w.drewN j).cell? (ad.add (0 + i)) = some v := by
      intro i v hv
      rcases h with h | ⟨ad', h, hh⟩
      · rw [h] at hv; simp at hv
      · cases h; rw [Nat.zero_add]; exact hh i v hv
    have := run_loadCells (P := P) (w := w.drewN j) (a := ad) src 0 #[] hc
    simp only [Builtin.firstCells, loadCells]
    rw [← hl]
    simpa using this
end
section
variable {P : Program} {W w : World} {F : Snap} {cs : List Res} {E t t' ty : TypeId} {ti : TypeInfo} {zv : Value} {sz bytes : Nat}
theorem growBy_le (need : Nat) : ∀ (r c : Nat), c ≤ 2 * need + 1024 → Builtin.growBy need r c ≤ 4 * need + 4096
  | 0, c, h => by simp only [Builtin.growBy]; omega
  | r + 1, c, h => by
    simp only [Builtin.growBy]
    split
    · omega
    · rename_i hlt
      refine growBy_le need r _ ?_
      omega
theorem cap_le {need old : Nat} (h : old < need) : Builtin.nextslicecap need old ≤ 4 * need + 4096 := by
  unfold Builtin.nextslicecap
  split
  · omega
  · split
    · omega
    · exact growBy_le need 4 old (by omega)
theorem zeroCells_one {z : Array Value} (h : z.all one_ = true) (n : Nat) : True := trivial
structure ElemOk (P : Program) (E : TypeId) (sz bytes : Nat) : Prop where
  ok : ∃ ti zv, P.info? E = some ti ∧ ti.zero = some zv ∧ ti.size = sz ∧ ti.bytes = bytes ∧ zv.cells.size = sz ∧ 0 < sz
theorem run_append {r : Res} {v x : Value} {n m : Nat} {cl src : List Value} {d' : TypeDesc} (ht : P.underlying t = some (.slice E)) (ht' : P.underlying t' = some d') (hd' : d' = .string ∨ ∃ e, d' = .slice e) (hE : ElemOk P E sz bytes)
    (hr : IsRow E sz r v n cl) (hw : ∀ p ∈ r, w.heap[p.1]? = some p.2) (hs : Src P w sz x m src) (hsmall : (4 * (n + m) + 4096) * bytes ≤ 281474976710656) (hnm : n + m ≤ 9223372036854775807) :
    ∃ v' w' r', (Builtin.append_ #[t, t'] ty #[v, x]).run P w = .ok v' w' ∧ IsRow E sz r' v' (n + m) (cl ++ src) ∧
      ((∃ b o o', r = [(b, o)] ∧ r' = [(b, o')] ∧ w' = World.setBlk w b o') ∨ (r = [] ∧ r' = [] ∧ w' = w) ∨ (∃ o', r' = [(w.heap.size, o')] ∧ w' = (w.drewN 1).alloc o')) := by
  obtain ⟨ti, zv, hi, hz, hsz, hby, hzs, hpos⟩ := hE.ok
  obtain ⟨A, cap, hv, hncap⟩ := hr.val
  have hd0 : w.drewN 0 = w := rfl
  have hlen := hs.len 0
  have hcells0 := hs.cells 0
  have hcells1 := hs.cells 1
  rw [hd0] at hlen hcells0
  subst hsz; subst hby
  have hzeros : (do let u ← underlying t'; pure ((u matches .int _) : Bool) : Sem Bool).run P w = .ok false w := by
    rcases hd' with rfl | ⟨e, rfl⟩ <;> simp [run_underlying ht', Sem.run_bind, Result.andThen, Sem.run, pure]
  by_cases hfit : n + m ≤ cap
  · -- in place
    rcases hr with ⟨rfl, hv', rfl, rfl⟩ | ⟨b, cap', arr, fz, rfl, hv', hsize, hn', rfl, hfree⟩
    · rw [hv] at hv'
      injection hv' with hA _ hc
      subst hA; subst hc
      have hm : m = 0 := by omega
      subst hm
      have : src = [] := by have := hs.size; simpa using this
      subst this
      refine ⟨.slice none 0 0, w, [], ?_, .inl ⟨rfl, rfl, rfl, rfl⟩, .inr (.inl ⟨rfl, rfl, rfl⟩)⟩
      subst hv
      rcases hd' with rfl | ⟨e, rfl⟩ <;> simp [Builtin.append_, run_underlying ht, run_underlying ht', sizeOf, typeInfo, hi, hlen, hcells0]
    · rw [hv] at hv'
      injection hv' with hA _ hc
      subst hA; subst hc
      subst hv
      have hb : w.heap[b]? = some (.cells arr E fz) := hw (b, .cells arr E fz) (by simp)
      have hcap : n * ti.size + src.length ≤ arr.size := by rw [hs.size, ← Nat.add_mul, hsize]; exact Nat.mul_le_mul_right _ hfit
      have hst := run_storeCells (P := P) src w (n * ti.size) 0 arr hb hfree (by simpa using hcap) (fun u hu => List.all_eq_true.1 hs.one u hu)
      refine ⟨.slice (some ⟨b, 0, none⟩) (n + m) cap, World.setBlk w b (.cells (blit arr (n * ti.size) src) E fz), [(b, .cells (blit arr (n * ti.size) src) E fz)], ?_, .inr ⟨b, cap, _, fz, rfl, rfl, by rw [blit_size, hsize], hfit, ?_, by rw [blit_size]; exact hfree⟩, .inl ⟨b, _, _, rfl, rfl, rfl⟩⟩
      · rcases hd' with rfl | ⟨e, rfl⟩ <;> simp [Builtin.append_, run_underlying ht, run_underlying ht', sizeOf, typeInfo, hi, hlen, hcells0, hfit, add_mk, hst]
      · rw [blit_toList _ _ _ hcap, Nat.add_mul, ← hs.size]
        exact (List.take_left' (by rw [List.length_append, List.length_take, Array.length_toList]; omega)).symm
  · -- a new block
    have hold : (Builtin.firstCells ti.size n v).run P w.drew = .ok cl.toArray w.drew := by
      rcases hr with ⟨rfl, rfl, rfl, rfl⟩ | ⟨b, cap', arr, fz, rfl, rfl, hsize, hn', rfl, hfree⟩
      · simp [Builtin.firstCells, Sem.run, pure]
      · have hb : w.heap[b]? = some (.cells arr E fz) := hw (b, .cells arr E fz) (by simp)
        have hl : (arr.toList.take (n * ti.size)).length = n * ti.size := by
          have : n * ti.size ≤ cap' * ti.size := Nat.mul_le_mul_right _ hn'
          rw [List.length_take, Array.length_toList, hsize]; omega
        have := run_loadCells (P := P) (w := w.drew) (a := ⟨b, 0, none⟩) (arr.toList.take (n * ti.size)) 0 #[] (fun i u hu => by
          rw [add_mk]
          have hb' : w.drew.heap[b]? = some (.cells arr E fz) := hb
          rw [List.getElem?_take] at hu
          split at hu
          · simp only [World.cell?, hb']
            simpa using hu
          · cases hu)
        rw [hl] at this
        simpa [Builtin.firstCells, loadCells] using this
    have hnew : (Builtin.firstCells ti.size m x).run P w.drew = .ok src.toArray w.drew := hcells1
    have hcap : Builtin.nextslicecap (n + m) cap * ti.bytes ≤ 281474976710656 := by
      have h1 := cap_le (need := n + m) (old := cap) (by omega)
      exact Nat.le_trans (Nat.mul_le_mul_right _ h1) hsmall
    have hmax : IntKind.i64.max = 9223372036854775807 := by decide
    obtain ⟨c', hc'⟩ : ∃ c', c' = (n + m) + w.tape w.drawn (.appendCap (n + m) cap E) % (2 ^ 63 - (n + m)) := ⟨_, rfl⟩
    have hge : n + m ≤ c' := by omega
    have hroom : ∀ w0 : World, (askRoom (c' * ti.bytes)).run P w0 = .ok () w0 := by
      intro w0; unfold askRoom; split <;> simp [mark, Sem.run, pure]
    refine ⟨.slice (some ⟨w.heap.size, 0, none⟩) (n + m) c', (w.drewN 1).alloc (.cells (cl.toArray ++ (src.toArray ++ Builtin.zeroCells zv.cells (c' - (n + m)))) E), [(w.heap.size, .cells (cl.toArray ++ (src.toArray ++ Builtin.zeroCells zv.cells (c' - (n + m)))) E)], ?_, .inr ⟨w.heap.size, c', _, (0, 0), rfl, rfl, ?_, hge, ?_, Free.zero _⟩, .inr (.inr ⟨_, rfl, rfl⟩)⟩
    · have hfor : (Question.appendCap (n + m) cap E).forced = false := rfl
      have hcut : (Question.appendCap (n + m) cap E).cut (w.tape w.drawn (.appendCap (n + m) cap E)) = c' := hc'.symm
      have hn1 : ¬ ((9223372036854775807 : Int) < (n : Int) + m) := by omega
      have hn2 : ¬ (281474976710656 < Builtin.nextslicecap (n + m) cap * ti.bytes) := by omega
      subst hv
      have e48 : (2 : Nat) ^ 48 = 281474976710656 := rfl
      rcases hd' with rfl | ⟨e, rfl⟩ <;> simp [Builtin.append_, run_underlying ht, run_underlying ht', sizeOf, typeInfo, hi, hlen, hfit, hn1, hn2, e48, hfor, hcut, hroom, hold, hnew, zeroValue, hz, run_newRow] <;> rfl
    · simp only [Array.size_append, List.size_toArray, size_zeroCells, hzs, hr.len, hs.size, ← Nat.add_mul]
      congr 1; omega
    · simp only [Array.toList_append, List.append_assoc]
      rw [← List.append_assoc]
      exact (List.take_left' (by rw [List.length_append, hr.len, hs.size, ← Nat.add_mul])).symm
end
end B
end Go.Proofs.Ythejglgnoingfaa

namespace Go.Proofs.Ythejglgnoingfaa
open Go Go.RowKit
set_option linter.unusedVariables false
set_option linter.unusedSimpArgs false
namespace B
section
variable {P : Program} {Z : Post} {ks : List Fr} {N : Nat} {D : List Deferred} {sl : Sl} {W w : World} {ops : Array Oper} {rest : List Oper} {F : Snap} {cs : List Res} {t t' T T' E : TypeId} {x y z : Operand} {v : Value} {pos : String} {af : Array Edge} {sz bytes : Nat}
theorem St.setNew {r : Res} (h : St W F cs w) {i : Nat} (hi : cs[i]? = some r) (o : Obj) : St W F (cs.set i [(w.heap.size, o)]) (w.alloc o) := by
  obtain ⟨l1, l2, e1, e2, e3⟩ := split_at cs i _ hi
  rw [e2]
  have h1 := (h.alloc o).drop (i + 1)
  simp only [List.eraseIdx_cons_succ, e3] at h1
  exact h1.perm List.perm_middle
theorem set_self {α : Type} : ∀ (l : List α) (i : Nat) (x : α), l[i]? = some x → l.set i x = l
  | [], _, _, h => by simp at h
  | a :: l, 0, x, h => by simp only [List.getElem?_cons_zero, Option.some.injEq] at h; subst h; rfl
  | a :: l, i + 1, x, h => by simp only [List.getElem?_cons_succ] at h; simp [set_self l i x h]
theorem WL.append (i : Nat) (h : St W F cs w) {r : Res} (hi : cs[i]? = some r) {d : Nat} (hd : Nat.ble (d + 1) N = true) {xv : Value} {n m : Nat} {cl src : List Value} {d' : TypeDesc} (hx : evs sl x = some v) (hy : evs sl y = some xv)
    (ht : P.underlying T = some (.slice E)) (ht' : P.underlying T' = some d') (hd' : d' = .string ∨ ∃ e, d' = .slice e) (hE : ElemOk P E sz bytes)
    (hr : IsRow E sz r v n cl) (hs : Src P w sz xv m src) (hsmall : (4 * (n + m) + 4096) * bytes ≤ 281474976710656) (hnm : n + m ≤ 9223372036854775807)
    (k : ∀ r' v' w', IsRow E sz r' v' (n + m) (cl ++ src) → St W F (cs.set i r') w' → WL P ops Z ks N D ((d, v') :: sl) rest w') :
    WL P ops Z ks N D sl ({ dst := some d, op := .call { callee := .builtin .append, args := #[x, y], argTypes := #[T, T'] }, type := t, pos := pos, after := af, guard := none } :: rest) w := by
  obtain ⟨v', w', r', hrun, hr', hw'⟩ := run_append (ty := t) ht ht' hd' hE hr (fun p hp => (h.own p (List.mem_flatten.2 ⟨_, List.mem_of_getElem? hi, hp⟩)).1) hs hsmall hnm
  have hst : St W F (cs.set i r') w' := by
    rcases hw' with ⟨b, o, o', rfl, rfl, rfl⟩ | ⟨rfl, rfl, rfl⟩ | ⟨o', rfl, rfl⟩
    · exact h.set1 hi o'
    · rw [set_self _ _ _ hi]; exact h
    · exact (h.below (w' := w.drewN 1) ⟨rfl, rfl, rfl, Nat.le_refl _, fun _ _ => rfl⟩).setNew hi o'
  refine WL.val_ (w' := w') hd (fun ρ hρ o ho hty => ?_) (k r' v' w' hr' hst)
  simp [execOp, ho, hρ _ _ hx, hρ _ _ hy, resolve, invoke, builtin, hty, hrun]
def pargs (sl : Sl) : List (Nat × Operand) → Option (List (Nat × Value))
  | [] => some []
  | (i, x) :: r => match evs sl x, pargs sl r with | some v, some l => some ((i, v) :: l) | _, _ => none
theorem pargs_spec {ρ : Operand → Value} (hρ : ∀ x v, evs sl x = some v → ρ x = v) : ∀ (xs : List (Nat × Operand)) (vs : List (Nat × Value)), pargs sl xs = some vs → xs.map (fun p => (p.1, ρ p.2)) = vs
  | [], vs, h => by simp [pargs] at h; simp [h]
  | (i, x) :: r, vs, h => by
    unfold pargs at h
    cases h1 : evs sl x with
    | none => rw [h1] at h; simp at h
    | some v =>
      cases h2 : pargs sl r with
      | none => rw [h1, h2] at h; simp at h
      | some l =>
        rw [h1, h2] at h
        simp only [Option.some.injEq] at h
        subst h
        simp [hρ x v h1, pargs_spec hρ r l h2]
def numbered : Nat → List Value → List (Nat × Value)
  | _, [] => []
  | i, v :: r => (i, v) :: numbered (i + 1) r
theorem foldl_blit (c : Array Value) : ∀ (l : List Value) (cells : Array Value) (off j : Nat), (l.zipIdx j).foldl (fun cs (p : Value × Nat) => cs.setIfInBounds (off + p.2) p.1) cells = blit cells (off + j) l
  | [], _, _, _ => rfl
  | v :: r, cells, off, j => by
    simp only [List.zipIdx_cons, List.foldl_cons, blit]
    exact foldl_blit c r _ off (j + 1)
theorem fill_all {place : Nat → Option (Nat × Nat)} (hp : ∀ i, place i = some (i * sz, sz)) : ∀ (vs : List Value) (i : Nat) (pre : List Value) (cells : Array Value), pre.length = i * sz → (∀ v ∈ vs, v.cells.size = sz) →
    cells.toList.take (i * sz) = pre → cells.size = (i + vs.length) * sz → Instr.fill place cells (numbered i vs) = some (pre ++ vs.flatMap (·.cells.toList)).toArray
  | [], i, pre, cells, hl, _, ht, hs => by
    simp only [numbered, Instr.fill, List.flatMap_nil, List.append_nil, Option.some.injEq]
    apply Array.toList_inj.1
    rw [← ht, List.take_of_length_le (by rw [Array.length_toList, hs]; simp)]
  | v :: r, i, pre, cells, hl, hv, ht, hs => by
    have h1 : v.cells.size = sz := hv v (by simp)
    simp only [List.length_cons] at hs
    have h2 : i * sz + sz ≤ cells.size := by
      rw [hs, show i * sz + sz = (i + 1) * sz by rw [Nat.add_mul, Nat.one_mul]]
      exact Nat.mul_le_mul_right _ (by omega)
    simp only [numbered, Instr.fill, hp, h1, ne_eq, not_true_eq_false, decide_false, Bool.false_or, decide_eq_true_eq]
    rw [if_neg (by omega)]
    have e : (v.cells.zipIdx.foldl (fun cs (x : Value × Nat) => cs.setIfInBounds (i * sz + x.2) x.1) cells) = blit cells (i * sz) v.cells.toList := by
      rw [← Array.foldl_toList, Array.toList_zipIdx]
      exact foldl_blit cells v.cells.toList cells (i * sz) 0
    have hb := blit_toList v.cells.toList cells (i * sz) (by simpa [h1] using h2)
    have key := fill_all hp r (i + 1) (pre ++ v.cells.toList) (blit cells (i * sz) v.cells.toList) (by simp [hl, h1, Nat.add_mul]) (fun u hu => hv u (by simp [hu])) (by
      rw [hb, ht]
      exact List.take_left' (by simp [hl, h1, Nat.add_mul])) (by rw [blit_size, hs]; congr 1; omega)
    have e2 : (v.cells.zipIdx.foldl (fun cs x => match x with | (c, j) => cs.setIfInBounds (i * sz + j) c) cells) = blit cells (i * sz) v.cells.toList := e
    rw [e2, key]
    simp
theorem WL.buildSlice (h : St W F cs w) {d : Nat} (hd : Nat.ble (d + 1) N = true) {n : Nat} {ps : List (Nat × Operand)} {vs : List Value} (hT : P.underlying T = some (.slice E)) (hE : ElemOk P E sz bytes) (hp : pargs sl ps = some (numbered 0 vs)) (hn : vs.length = n)
    (hv : vs.all (fun v => v.cells.size == sz) = true) (hbig : n * sz ≤ 16777216)
    (k : ∀ b w', St W F ([(b, .cells (vs.flatMap (·.cells.toList)).toArray E (0, 0))] :: cs) w' → WL P ops Z ks N D ((d, .slice (some ⟨b, 0, none⟩) n n) :: sl) rest w') :
    WL P ops Z ks N D sl ({ dst := some d, op := .buildSlice T n ps.toArray, type := t, pos := pos, after := af, guard := none } :: rest) w := by
  obtain ⟨ti, zv, hi, hz, hsz, hby, hzs, hpos⟩ := hE.ok
  refine WL.val_ (w' := w.alloc (.cells (vs.flatMap (·.cells.toList)).toArray E)) hd (fun ρ hρ o ho _ => ?_) (k _ _ (h.alloc _))
  subst hn
  have hf : ∀ cells : Array Value, cells.size = vs.length * sz → Instr.fill (fun i => some (i * sz, sz)) cells (numbered 0 vs) = some (vs.flatMap (·.cells.toList)).toArray := by
    intro cells hc
    have := fill_all (place := fun i => some (i * sz, sz)) (fun _ => rfl) vs 0 [] cells (by simp) (fun v hvv => by simpa using List.all_eq_true.1 hv v hvv) (by simp) (by simpa using hc)
    simpa using this
  have hps : (ps.toArray.map fun (p : Nat × Operand) => (p.1, ρ p.2)) = (numbered 0 vs).toArray := by rw [List.map_toArray, pargs_spec hρ ps _ hp]
  have hrun : (Instr.buildSlice T vs.length (numbered 0 vs).toArray).run P w = .ok (.slice (some ⟨w.heap.size, 0, none⟩) vs.length vs.length) (w.alloc (.cells (vs.flatMap (·.cells.toList)).toArray E)) := by
    have hb : ¬ (16777216 < vs.length * sz) := by omega
    have e24 : (2 : Nat) ^ 24 = 16777216 := rfl
    by_cases h0 : vs.length * sz = 0
    · have hvs : vs = [] := by
        have : vs.length = 0 := by
          rcases Nat.mul_eq_zero.1 h0 with h | h
          · exact h
          · omega
        exact List.eq_nil_of_length_eq_zero this
      subst hvs
      simp [Instr.buildSlice, run_underlying hT, sizeOf, typeInfo, hi, hsz, e24, numbered, Instr.fill, run_newRow]
      exact congrArg (fun c => w.alloc (.cells c E)) (Array.eq_empty_of_size_eq_zero (by simp))
    · have hff := hf ((Array.range (vs.length * sz)).map (fun i => zv.cells[i % zv.cells.size]!)) (by simp)
      simp [Instr.buildSlice, run_underlying hT, sizeOf, typeInfo, hi, hsz, e24, hb, h0, zeroValue, hz, hff, run_newRow]
  simp only [execOp, ho]
  rw [Sem.run_bind]
  have : (ps.toArray.map fun x => match x with | (i, x) => (i, ρ x)) = (numbered 0 vs).toArray := hps
  rw [this, hrun]
  rfl
/-! bytes and strings -/
theorem Runs.b2s {A : Option Addr} {len cap : Nat} {bs : List UInt8} (hs : P.underlying T = some (.slice E)) (he : P.underlying E = some (.int .u8)) (hd : P.underlying T' = some .string) (hx : evs sl x = some (.slice A len cap)) (hl : len = bs.length)
    (hc : bs = [] ∨ ∃ ad, A = some ad ∧ ∀ j b, bs[j]? = some b → w.cell? (ad.add j) = some (.int .u8 b.toNat)) : Runs P sl (.convert T T' x) t w (.string ⟨bs.toArray⟩) := fun ρ hρ o ho _ => by
  subst hl
  have key : (convert T T' (.slice A bs.length cap)).run P w = .ok (.string ⟨bs.toArray⟩) w := by
    cases A with
    | none =>
      have : bs = [] := by
        rcases hc with h | ⟨ad, h, _⟩
        · exact h
        · cases h
      subst this
      rw [run_convert_bytes_string w T T' E none _ _ hs he hd]
      simp [Conv.bytesToString, Sem.run, pure]
      rfl
    | some ad =>
      refine run_convert_bytes_back w T T' E ad cap bs hs he hd (fun j hj => ?_)
      rcases hc with h | ⟨ad', h, hh⟩
      · subst h; simp at hj
      · cases h; exact hh j _ (List.getElem?_eq_getElem hj)
  simp [execOp, ho, hρ _ _ hx, key]
theorem WL.s2b (h : St W F cs w) {d : Nat} (hd : Nat.ble (d + 1) N = true) {s : ByteArray} (hs : P.underlying T = some .string) (hT : P.underlying T' = some (.slice E)) (hE : P.underlying E = some (.int .u8)) (hx : evs sl x = some (.string s))
    (k : ∀ r v' w', IsRow E 1 r v' s.size (s.data.toList.map fun b => Value.int .u8 b.toNat) → St W F (r :: cs) w' → WL P ops Z ks N D ((d, v') :: sl) rest w') :
    WL P ops Z ks N D sl ({ dst := some d, op := .convert T T' x, type := t, pos := pos, after := af, guard := none } :: rest) w := by
  have hrun := run_bytes_of_string (P := P) w T T' E s hs hT hE
  have hge : s.size ≤ grownCap w s.size 0 E := grownCap_ge w s.size 0 E
  refine WL.val_ (w' := w.drew.alloc (.cells (bytesRow s (grownCap w s.size 0 E)) E ((bytesRow s (grownCap w s.size 0 E)).size, (bytesRow s (grownCap w s.size 0 E)).size + 1))) (v := .slice (some ⟨w.heap.size, 0, none⟩) s.size (grownCap w s.size 0 E)) hd (fun ρ hρ o ho _ => ?_)
    (k [(w.heap.size, .cells (bytesRow s (grownCap w s.size 0 E)) E ((bytesRow s (grownCap w s.size 0 E)).size, (bytesRow s (grownCap w s.size 0 E)).size + 1))] _ _ ?_ ?_)
  · simp [execOp, ho, hρ _ _ hx, hrun]
  · refine .inr ⟨w.heap.size, _, _, _, rfl, rfl, ?_, hge, ?_, ?_⟩
    · simp [bytesRow]; exact Nat.add_sub_cancel' hge
    · have h1 : s.data.toList.length = s.size := by simp
      simp only [bytesRow, Array.toList_append, Array.toList_map, Nat.mul_one]
      exact (List.take_left' (by simp)).symm
    · intro j hj hh
      simp only at hh; omega
  · exact (h.drew).alloc _
/-! copy into a block of the call's own -/
theorem WL.copy (h : St W F cs w) (i : Nat) {b off len cap m : Nat} {arr : Array Value} {tt : TypeId} {fz : Nat × Nat} {d : Nat} (hd : Nat.ble (d + 1) N = true) (hi : cs[i]? = some [(b, .cells arr tt fz)]) {xv : Value} {src : List Value}
    (hT : P.underlying T = some (.slice E)) (hE : ElemOk P E sz bytes) (hx : evs sl x = some (.slice (some ⟨b, off, none⟩) len cap)) (hy : evs sl y = some xv) (hm : (Builtin.lenOf xv).run P w = .ok m w) (hs : (Builtin.firstCells sz (Nat.min m len) xv).run P w = .ok src.toArray w)
    (h1 : src.all one_ = true) (hf : Free fz arr.size) (ho : off + src.length ≤ arr.size)
    (k : ∀ w', St W F (cs.set i [(b, .cells (blit arr off src) tt fz)]) w' → WL P ops Z ks N D ((d, .int .i64 (Nat.min m len : Nat)) :: sl) rest w') :
    WL P ops Z ks N D sl ({ dst := some d, op := .call { callee := .builtin .copy, args := #[x, y], argTypes := #[T, T'] }, type := t, pos := pos, after := af, guard := none } :: rest) w := by
  obtain ⟨ti, zv, hti, hz, hsz, hby, hzs, hpos⟩ := hE.ok
  refine WL.val_ (w' := World.setBlk w b (.cells (blit arr off src) tt fz)) hd (fun ρ hρ o ho' _ => ?_) (k _ (h.set1 hi _))
  have hst := run_storeCells (P := P) src w off 0 arr (h.blk hi) hf (by simpa using ho) (fun u hu => List.all_eq_true.1 h1 u hu)
  have : (Builtin.copy_ #[T, T'] t #[.slice (some ⟨b, off, none⟩) len cap, xv]).run P w = .ok (.int .i64 (Nat.min m len : Nat)) (World.setBlk w b (.cells (blit arr off src) tt fz)) := by
    subst hsz
    simp [Builtin.copy_, run_underlying hT, sizeOf, typeInfo, hti, hm, hs, hst, goInt]
  simp [execOp, ho', hρ _ _ hx, hρ _ _ hy, resolve, invoke, builtin, this]
  rename_i hty
  have := this
  simp_all [Builtin.copy_, run_underlying hT, sizeOf, typeInfo, hti, hm, hs, hst, goInt]
/-! a region that draws its order: one walk of the text serves every order -/
def WQ (P : Program) (ops : Array Oper) (C : World → Prop) (Q : Act → Prop) (N : Nat) (D : List Deferred) (sl : Sl) (rest : List Oper) : Prop := ∀ a, Ag N D sl a → wpQuiet P ops C Q rest a
theorem WC.qreg (C : World → Prop) {id : Nat} {l : List Oper} (hm : P.follows .mixedOrders = true) (hB : Region.lexB .any l.toArray = true) (hC : C { w with drawn := w.drawn + 1 })
    (h : WQ P l.toArray C (fun a' => ∀ w', C w' → den P Z ks .normal a' w') N D sl l) : WC P Z ks N D sl (.region id l.toArray true) w := fun a ha =>
  wp_region_quiet (C := C) hm hB hC (by simpa using h a ha)
theorem WQ.fin {C : World → Prop} (h : ∀ w', C w' → WN P Z ks N D sl w') : WQ P ops C (fun a' => ∀ w', C w' → den P Z ks .normal a' w') N D sl [] := fun a ha w' hC => h w' hC a ha
theorem WQ.val {C : World → Prop} {Q : Act → Prop} {d : Nat} {op : Op} {v : Value} (h : ∀ w, C w → Runs P sl op t w v) (hd : Nat.ble (d + 1) N = true) (k : WQ P ops C Q N D ((d, v) :: sl) rest) :
    WQ P ops C Q N D sl ({ dst := some d, op := op, type := t, pos := pos, after := af, guard := none } :: rest) := fun a ha => by
  refine wpQuiet_step fun K hK => ?_
  rw [if_pos (by rfl)]
  refine ⟨v, fun w hC => ?_, hK _ (k _ (ha.put (Nat.le_of_ble_eq_true hd) v))⟩
  unfold Oper.quietAt
  rw [h w hC a.eval (fun x v hx => ha.ev hx) _ rfl rfl]
  exact ⟨rfl, rfl⟩
theorem WQ.call {C : World → Prop} {Q : Act → Prop} {d : Nat} {f : FuncId} {xs : List Operand} {vs : List Value} {ts : Array TypeId} {v : Value} (hc : Can P f) (hv : args_ sl xs = some vs) (hd : Nat.ble (d + 1) N = true)
    (c : ∀ w, C w → Calls P f vs.toArray w fun e w' => e = .returned v ∧ C w') (k : WQ P ops C Q N D ((d, v) :: sl) rest) :
    WQ P ops C Q N D sl ({ dst := some d, op := .call { callee := .value (.func f), args := xs.toArray, argTypes := ts }, type := t, pos := pos, after := af, guard := none } :: rest) := fun a ha => by
  refine wpQuiet_step fun K hK => ?_
  rw [if_pos (by rfl)]
  refine ⟨v, fun w hC => ?_, hK _ (k _ (ha.put (Nat.le_of_ble_eq_true hd) v))⟩
  unfold Oper.quietAt
  rw [exec_call hc rfl rfl (args_spec (fun x v hx => ha.ev hx) xs vs hv)]
  exact ⟨rfl, c w hC⟩
end
end B
end Go.Proofs.Ythejglgnoingfaa

namespace Go.Proofs.Ythejglgnoingfaa
open Go Go.RowKit
set_option linter.unusedVariables false
set_option linter.unusedSimpArgs false
namespace B
def Inf (P : Program) (T : TypeId) (z : Value) (sz bytes : Nat) : Prop := (P.info? T).map (fun i => (i.zero, i.size, i.bytes)) = some (some z, sz, bytes)
theorem Inf.get {P : Program} {T : TypeId} {z : Value} {sz bytes : Nat} (h : Inf P T z sz bytes) : ∃ ti, P.info? T = some ti ∧ ti.zero = some z ∧ ti.size = sz ∧ ti.bytes = bytes := by
  unfold Inf at h
  cases hq : P.info? T with
  | none => rw [hq] at h; simp at h
  | some ti =>
    rw [hq] at h
    simp only [Option.map_some, Option.some.injEq, Prod.mk.injEq] at h
    exact ⟨ti, rfl, h.1, h.2.1, h.2.2⟩
theorem Inf.elem {P : Program} {T : TypeId} {z : Value} {sz bytes : Nat} (h : Inf P T z sz bytes) (hz : z.cells.size = sz) (h0 : Nat.ble 1 sz = true) : ElemOk P T sz bytes := by
  obtain ⟨ti, h1, h2, h3, h4⟩ := h.get
  exact ⟨ti, z, h1, h2, h3, h4, hz, Nat.le_of_ble_eq_true h0⟩
section
variable {P : Program} {Z : Post} {ks : List Fr} {N : Nat} {D : List Deferred} {sl : Sl} {W w : World} {ops : Array Oper} {rest : List Oper} {F : Snap} {cs : List Res} {t T T' E : TypeId} {x y : Operand} {v zv : Value} {pos : String} {af : Array Edge} {sz bytes : Nat} {k : IntKind}
theorem WL.alloc' {d : Nat} (hd : Nat.ble (d + 1) N = true) (h : St W F cs w) (hT : Inf P T zv sz bytes)
    (k : ∀ b w', St W F ([(b, .cells zv.cells T (0, 0))] :: cs) w' → WL P ops Z ks N D ((d, .pointer (some ⟨b, 0, none⟩)) :: sl) rest w') :
    WL P ops Z ks N D sl ({ dst := some d, op := .alloc T, type := t, pos := pos, after := af, guard := none } :: rest) w := by
  obtain ⟨ti, h1, h2, _⟩ := hT.get
  exact WL.alloc hd h h1 h2 k
theorem WL.store' (h : St W F cs w) (i : Nat) {b off : Nat} {arr : Array Value} {tt : TypeId} {fz : Nat × Nat} (hi : cs[i]? = some [(b, .cells arr tt fz)]) (hx : evs sl x = some (.pointer (some ⟨b, off, none⟩))) (hy : evs sl y = some v)
    (hT : Inf P T zv sz bytes) (hz : sz = v.cells.size) (h1 : v.cells.toList.all one_ = true) (hf : Free fz arr.size) (ho : off + v.cells.size ≤ arr.size)
    (k : ∀ w', St W F (cs.set i [(b, .cells (blit arr off v.cells.toList) tt fz)]) w' → WL P ops Z ks N D sl rest w') :
    WL P ops Z ks N D sl ({ dst := none, op := .store T x y, type := t, pos := pos, after := af, guard := none } :: rest) w := by
  obtain ⟨ti, h2, _, h3, _⟩ := hT.get
  exact WL.store h i hi hx hy h2 (h3.trans hz) h1 hf ho k
/-- the address of an element of an array that lies at the head of a block, or in it -/
theorem Runs.aidx {b o' n : Nat} {j : Int} (hu : P.underlying T = some (.array n E)) (hi : Inf P E zv 1 bytes) (hx : evs sl x = some (.pointer (some ⟨b, o', none⟩))) (hy : evs sl y = some (.int k j)) (hj : 0 ≤ j ∧ j < n) :
    Runs P sl (.indexAddr T x y) t w (.pointer (some ⟨b, o' + j.toNat, none⟩)) := by
  obtain ⟨ti, h1, _, h3, _⟩ := hi.get
  have := Runs.aindex (t := t) (w := w) hu h1 h3 hx hy hj
  rwa [add_mk, Nat.mul_one] at this
theorem Runs.lidx {a : Addr} {len cap : Nat} {j : Int} (hu : P.underlying T = some (.slice E)) (hi : Inf P E zv sz bytes) (hx : evs sl x = some (.slice (some a) len cap)) (hy : evs sl y = some (.int k j)) (hj : 0 ≤ j ∧ j < len) :
    Runs P sl (.indexAddr T x y) t w (.pointer (some (a.add (j.toNat * sz)))) := by
  obtain ⟨ti, h1, _, h3, _⟩ := hi.get
  exact Runs.lindex hu h1 h3 hx hy hj
theorem Runs.asl {b n : Nat} {lo hi' : Option Operand} {l h : Option Int} (hu : P.underlying T = some (.array n E)) (hi : Inf P E zv 1 bytes) (hx : evs sl x = some (.pointer (some ⟨b, 0, none⟩))) (h1 : evo sl lo = some l) (h2 : evo sl hi' = some h) (hb : okb l h n n) :
    Runs P sl (.slice T x lo hi' none) t w (.slice (some ⟨b, if n = lo_ l then 0 else lo_ l, none⟩) (hi_ h n - lo_ l) (n - lo_ l)) := by
  obtain ⟨ti, h3, _, h4, _⟩ := hi.get
  have := Runs.aslice (t := t) (w := w) hu h3 h4 hx h1 h2 hb
  rw [add_mk, Nat.mul_one, Nat.zero_add] at this
  have e : (some (if n = lo_ l then (⟨b, 0, none⟩ : Addr) else ⟨b, lo_ l, none⟩)) = some ⟨b, if n = lo_ l then 0 else lo_ l, none⟩ := by split <;> rfl
  rwa [e] at this
theorem Runs.lsl {A : Option Addr} {len cap : Nat} {lo hi' : Option Operand} {l h : Option Int} (hu : P.underlying T = some (.slice E)) (hi : Inf P E zv sz bytes) (hx : evs sl x = some (.slice A len cap)) (h1 : evo sl lo = some l) (h2 : evo sl hi' = some h) (hb : okb l h len cap) :
    Runs P sl (.slice T x lo hi' none) t w (.slice (if cap = lo_ l then A else A.map (·.add (lo_ l * sz))) (hi_ h len - lo_ l) (cap - lo_ l)) := by
  obtain ⟨ti, h3, _, h4, _⟩ := hi.get
  exact Runs.lslice hu h3 h4 hx h1 h2 hb
/-- a whole array, or struct, read out of a block of the call's own -/
theorem Runs.loadAll (h : St W F cs w) (i : Nat) {b : Nat} {arr : Array Value} {tt : TypeId} {fz : Nat × Nat} {d : TypeDesc} (hi : cs[i]? = some [(b, .cells arr tt fz)]) (hu : P.underlying T = some d) (hs : scal d = false) (hT : Inf P T zv sz bytes) (hz : sz = arr.size) (hx : evs sl x = some (.pointer (some ⟨b, 0, none⟩))) :
    Runs P sl (.load T x) t w (.agg arr) := by
  obtain ⟨ti, h1, _, h3, _⟩ := hT.get
  have := Runs.loadA (t := t) (w := w) (vs := arr.toList) hu hs h1 (by rw [h3, hz]; simp) hx (fun j v hv => by
    rw [add_mk, Nat.zero_add]
    exact h.ocell hi (by simpa using hv))
  simpa using this
theorem run_loadVarA {a : Addr} {d : TypeDesc} {vs : List Value} (hu : P.underlying T = some d) (hs : scal d = false) (hT : Inf P T zv sz bytes) (hz : sz = vs.length) (hc : ∀ j v, vs[j]? = some v → w.cell? (a.add j) = some v) : (loadVar T a).run P w = .ok (.agg vs.toArray) w := by
  obtain ⟨ti, h1, _, h3, _⟩ := hT.get
  have := Runs.loadA (P := P) (sl := [(0, .pointer (some a))]) (x := .tmp 0) (t := 0) (w := w) (vs := vs) hu hs h1 (h3.trans hz) rfl hc
  have h4 := this (fun | .tmp 0 => .pointer (some a) | .tmp _ => undef | .const c => c | .global g => .pointer (some ⟨g, 0, none⟩) | .func f => .func (.func f) #[] #[]) (fun x v hx => by
    cases x with
    | tmp t' =>
      cases t' with
      | zero => simpa [evs, lk] using hx
      | succ n => exact absurd hx (by show (none : Option Value) ≠ some v; simp)
    | const c => simpa [evs] using hx
    | global g => simpa [evs] using hx
    | func f => simpa [evs] using hx) { dst := none, op := .load T (.tmp 0), type := 0, pos := "", after := #[], guard := none } rfl rfl
  simp only [execOp] at h4
  rw [Sem.run_bind] at h4
  have h5 : (Instr.loadAt T (.pointer (some a))).run P w = (loadVar T a).run P w := by
    unfold Instr.loadAt
    rw [Sem.run_bind]
    simp [Instr.sureAddr, Sem.run, pure, Result.andThen]
  rw [h5] at h4
  cases hr : (loadVar T a).run P w with
  | ok u w1 =>
    rw [hr] at h4
    simp only [Result.andThen, Sem.run, pure] at h4
    injection h4 with e1 e2
    injection e1 with e1
    rw [e1, e2]
  | halt q w1 =>
    rw [hr] at h4
    simp [Result.andThen] at h4
/-! results -/
def ResOk (P : Program) (sl : Sl) (w : World) : ResultVar → Value → Prop
  | .tmp t, v => lk sl t = some v
  | .cell a T, v => ∃ ad, lk sl a = some (.pointer (some ad)) ∧ (loadVar T ad).run P w = .ok v w
/-- a result variable, as it is read -/
theorem run_res {a : Act} (ha : Ag N [] sl a) {r : ResultVar} {v : Value} (h : ResOk P sl w r v) :
    (∃ t, r = .tmp t ∧ a.tmps[t]? = some v) ∨ ∃ c T ad, r = .cell c T ∧ a.tmps[c]? = some (.pointer (some ad)) ∧ (loadVar T ad).run P w = .ok v w := by
  cases r with
  | tmp t => exact .inl ⟨t, rfl, ha.ag t v h⟩
  | cell c T =>
    obtain ⟨ad, h1, h2⟩ := h
    exact .inr ⟨c, T, ad, rfl, ha.ag c _ h1, h2⟩
theorem retA {fn : Func} {R : Ending → World → Prop} {r : ResultVar} {v : Value} (hr : fn.results = #[r]) (hv : ResOk P sl w r v) (hR : R (.returned v) w) : ∀ a, Ag N [] sl a → bodyPost P fn R .ret a w := fun a ha =>
  ⟨ha.df, v, by rcases run_res ha hv with ⟨t, rfl, h1⟩ | ⟨c, T, ad, rfl, h1, h2⟩ <;> simp_all [results, asAddr], hR⟩
theorem retB {fn : Func} {R : Ending → World → Prop} {r s : ResultVar} {v u : Value} (hr : fn.results = #[r, s]) (hv : ResOk P sl w r v) (hu : ResOk P sl w s u) (hR : R (.returned (.tuple #[v, u])) w) : ∀ a, Ag N [] sl a → bodyPost P fn R .ret a w := fun a ha =>
  ⟨ha.df, .tuple #[v, u], by rcases run_res ha hv with ⟨t, rfl, h1⟩ | ⟨c, T, ad, rfl, h1, h2⟩ <;> rcases run_res ha hu with ⟨t', rfl, h1'⟩ | ⟨c', T', ad', rfl, h1', h2'⟩ <;> simp_all [results, asAddr], hR⟩
end
end B
end Go.Proofs.Ythejglgnoingfaa

namespace Go.Proofs.Ythejglgnoingfaa
open Go Go.RowKit
set_option linter.unusedVariables false
set_option linter.unusedSimpArgs false
namespace B
/-- only the normal way out -/
def np (Q : Post) : Post
  | .normal, a, w => Q .normal a w
  | _, _, _ => False
theorem np_imp {Q : Post} : ∀ e a w, np Q e a w → Q e a w := fun e a w h => by cases e <;> first | exact h | exact h.elim
section
variable {P : Program} {ops : Array Oper} {C : World → Prop} {eff : Nat → Bool} {Q : Post}
/-- j waits for k, maybe through others -/
inductive Anc (ops : Array Oper) : Nat → Nat → Prop
  | here {j k : Nat} {o : Oper} {e : Edge} (ho : ops[j]? = some o) (he : e ∈ o.after) (hb : Region.binds .any e = true) (hk : e.on = k) : Anc ops j k
  | step {j k : Nat} {o : Oper} {e : Edge} (ho : ops[j]? = some o) (he : e ∈ o.after) (hb : Region.binds .any e = true) (hk : Anc ops e.on k) : Anc ops j k
def ancB (ops : Array Oper) : Nat → Nat → Nat → Bool
  | 0, _, _ => false
  | f + 1, j, k => match ops[j]? with
    | some o => o.after.any (fun e => Region.binds .any e && e.on == k) || o.after.any (fun e => Region.binds .any e && ancB ops f e.on k)
    | none => false
theorem ancB_spec : ∀ (f j k : Nat), ancB ops f j k = true → Anc ops j k
  | 0, _, _, h => by simp [ancB] at h
  | f + 1, j, k, h => by
    unfold ancB at h
    cases ho : ops[j]? with
    | none => rw [ho] at h; simp at h
    | some o =>
      rw [ho] at h
      simp only [Bool.or_eq_true] at h
      rcases h with h | h
      · obtain ⟨e, he, hb⟩ := Array.any_eq_true'.1 h
        simp only [Bool.and_eq_true, beq_iff_eq] at hb
        exact .here ho he hb.1 hb.2
      · obtain ⟨e, he, hb⟩ := Array.any_eq_true'.1 h
        simp only [Bool.and_eq_true] at hb
        exact .step ho he hb.1 (ancB_spec f e.on k hb.2)
/-- what is listed is listed with all that it waits for -/
def DC (ops : Array Oper) (listed : Array Bool) : Prop := ∀ j o, ops[j]? = some o → listed.getD j false = true → ∀ e ∈ o.after, Region.binds .any e = true → listed.getD e.on false = true
theorem DC.anc {listed : Array Bool} (h : DC ops listed) {j k : Nat} (ha : Anc ops j k) (hj : ∀ o, ops[j]? = some o → ∀ e ∈ o.after, Region.binds .any e = true → listed.getD e.on false = true) : listed.getD k false = true := by
  induction ha with
  | here ho he hb hk => subst hk; exact hj _ ho _ he hb
  | step ho he hb hk ih =>
    refine ih (fun o' ho' e' he' hb' => ?_)
    exact h _ o' ho' (hj _ ho _ he hb) e' he' hb'
theorem DC.set {listed : Array Bool} (h : DC ops listed) {i : Nat} (hi : i ∈ Region.ready .any ops listed) : DC ops (listed.setIfInBounds i true) := by
  intro j o ho hl e he hb
  obtain ⟨_, oi, hoi, hall⟩ := mem_ready.1 hi
  by_cases hji : i = j
  · subst hji
    rw [hoi] at ho
    injection ho with ho
    subst ho
    exact getD_set_true (hall e he hb)
  · rw [getD_set_ne false hji] at hl
    exact getD_set_true (h j o ho hl e he hb)
def wpAnyM (P : Program) (ops : Array Oper) (C : World → Prop) (eff : Nat → Bool) (Q : Post) : Nat → Array Bool → Act → Prop
  | 0, listed, a => Region.ready .any ops listed = [] ∧ ∀ w, C w → Q .normal a w
  | f + 1, listed, a => (Region.ready .any ops listed = [] → ∀ w, C w → Q .normal a w) ∧
    ∀ i ∈ Region.ready .any ops listed, if eff i = true then ∀ w, C w → wpOp P ops Q i (wpAny P .any ops Q f (listed.setIfInBounds i true)) a w else qOp P ops C i (wpAnyM P ops C eff Q f (listed.setIfInBounds i true)) a
theorem any_of_M : ∀ (f : Nat) (listed : Array Bool) (a : Act) (w : World), C w → wpAnyM P ops C eff Q f listed a → wpAny P .any ops Q f listed a w
  | 0, _, _, _, hw, h => ⟨h.1, h.2 _ hw⟩
  | f + 1, listed, a, w, hw, h => ⟨fun h0 => h.1 h0 w hw, fun i hi => by
      have h2 := h.2 i hi
      split at h2
      · exact h2 w hw
      · exact wpOp_of_qOp hw (fun a' w' hw' hh => any_of_M f _ a' w' hw' hh) h2⟩
theorem M_first {k : Nat} {ok : Oper} {v : Value} (hk : ops[k]? = some ok) (hsel : ∀ (j : Nat) (o : Oper) cs b, ops[j]? = some o → o.op ≠ .select cs b) (hek : eff k = false) :
    ∀ (fuel : Nat) (listed : Array Bool) (a : Act), DC ops listed →
      (∀ j oj, ops[j]? = some oj → j ≠ k → listed.getD j true = false → (∀ e ∈ oj.after, Region.binds .any e = true → e.on ≠ k) → ok.apart ops oj = true) →
      k ∈ Region.ready .any ops listed → YieldsIn P ops C ok v a → (Yields P ops ok v a ∨ ∀ j, eff j = true → listed.getD j true = false → Anc ops j k) →
      wpAnyM P ops C eff (np Q) fuel (listed.setIfInBounds k true) (a.put ok.dst v) → wpAnyM P ops C eff (np Q) (fuel + 1) listed a := by
  intro fuel
  induction fuel with
  | zero =>
    intro listed a hdc _ hr hy hE H
    refine ⟨fun h => (by rw [h] at hr; cases hr), fun j hj => ?_⟩
    by_cases hji : j = k
    · subst hji
      rw [if_neg (by rw [hek]; simp)]
      exact hy.qOp hk H
    · have := ready_mono hj hji
      rw [H.1] at this
      cases this
  | succ fuel ih =>
    intro listed a hdc hfree hr hy hE H
    refine ⟨fun h => (by rw [h] at hr; cases hr), fun j hj => ?_⟩
    by_cases hji : j = k
    · subst hji
      rw [if_neg (by rw [hek]; simp)]
      exact hy.qOp hk H
    · obtain ⟨hjun, oj, hoj, hall⟩ := mem_ready.1 hj
      have hkun : listed.getD k false = false := by
        have h0 := (mem_ready.1 hr).1
        rcases Nat.lt_or_ge k listed.size with h' | h'
        · simp [h'] at h0 ⊢; exact h0
        · simp [Array.getElem?_eq_none h'] at h0
      by_cases hej : eff j = true
      · rw [if_pos hej]
        rcases hE with hE | hE
        · intro w hw
          have h1 := any_of_M (fuel + 1) _ _ w hw H
          have h2 := wpAny_first (Q := np Q) hk hsel (fun c a w h => h.elim) (fuel + 1) listed a w hfree hr hE h1
          exact h2.2 j hj
        · have := hdc.anc (hE j hej hjun) (fun o ho e he hb => by rw [hoj] at ho; injection ho with ho; subst ho; exact hall e he hb)
          rw [hkun] at this; cases this
      · rw [if_neg hej]
        have hnot : ∀ e ∈ oj.after, Region.binds .any e = true → e.on ≠ k := fun e he hb heq => by
          have h1 := hall e he hb
          rw [heq, hkun] at h1; cases h1
        have h1 := H.2 j (ready_mono hj hji)
        rw [if_neg hej] at h1
        have hap := hfree j oj hoj hji hjun hnot
        have h2 := qOp_put hoj hap (fun cs b => hsel k ok cs b hk) (fun cs b => hsel j oj cs b hoj) hy h1
        have hfree' : ∀ i oi, ops[i]? = some oi → i ≠ k → (listed.setIfInBounds j true).getD i true = false →
            (∀ e ∈ oi.after, Region.binds .any e = true → e.on ≠ k) → ok.apart ops oi = true := fun i oi hi hik hun hno => by
          refine hfree i oi hi hik ?_ hno
          by_cases hjk : j = i
          · subst hjk; exact hjun
          · rw [getD_set_ne true hjk] at hun; exact hun
        obtain ⟨a1, a2, a3⟩ := Oper.apart_spec hap
        have hE' : ∀ u, Yields P ops ok v (a.put oj.dst u) ∨ ∀ i, eff i = true → (listed.setIfInBounds j true).getD i true = false → Anc ops i k := fun u => by
          rcases hE with hE | hE
          · exact .inl (hE.of_same (execOp_put ok (fun cs b => hsel k ok cs b hk) a oj.dst u a3) (wanted_put ok a oj.dst u a3))
          · refine .inr fun i hi hun => hE i hi ?_
            by_cases hjk : j = i
            · subst hjk; exact hjun
            · rw [getD_set_ne true hjk] at hun; exact hun
        -- the act behind j is a.put of some value
        have h3 : qOp P ops C j (fun a' => (∃ u, a' = a.put oj.dst u) ∧ YieldsIn P ops C ok v a' ∧ wpAnyM P ops C eff (np Q) fuel ((listed.setIfInBounds k true).setIfInBounds j true) (a'.put ok.dst v)) a := by
          unfold qOp at h2 ⊢
          simp only [hoj] at h2 ⊢
          split
          · rename_i hw
            simp only [hw, if_true] at h2
            obtain ⟨u, hu, hn⟩ := h2
            exact ⟨u, hu, ⟨u, rfl⟩, hn⟩
          · rename_i hw
            simp only [hw] at h2
            exact ⟨⟨undef, rfl⟩, h2⟩
        refine qOp_mono (fun a' h4 => ?_) h3
        obtain ⟨⟨u, rfl⟩, hy', H'⟩ := h4
        refine ih (listed.setIfInBounds j true) _ (hdc.set hj) hfree' (ready_mono hr (Ne.symm hji)) hy' (hE' u) ?_
        rw [Array.setIfInBounds_comm _ _ hji]
        exact H'
theorem M_eff {k : Nat} {fuel : Nat} {listed : Array Bool} {a : Act} (hr : Region.ready .any ops listed = [k]) (hek : eff k = true)
    (h : ∀ w, C w → wpOp P ops Q k (wpAny P .any ops Q fuel (listed.setIfInBounds k true)) a w) : wpAnyM P ops C eff Q (fuel + 1) listed a :=
  ⟨fun h0 => (by rw [h0] at hr; cases hr), fun i hi => by
    rw [hr] at hi
    simp only [List.mem_singleton] at hi
    subst hi
    rw [if_pos hek]; exact h⟩
end
/-! ### as a walk -/
def upto (n k : Nat) : Array Bool := (List.replicate k true ++ List.replicate (n - k) false).toArray
theorem upto_set {n k : Nat} (h : k < n) : (upto n k).setIfInBounds k true = upto n (k + 1) := by
  apply Array.toList_inj.1
  simp only [upto, Array.toList_setIfInBounds]
  rw [List.set_append_right _ _ (by simp)]
  simp only [List.length_replicate, Nat.sub_self]
  rw [show n - k = (n - (k + 1)) + 1 by omega, List.replicate_succ, List.set_cons_zero, List.replicate_succ' (n := k)]
  simp
theorem upto_dc {ops : Array Oper} {n k : Nat} (hn : n = ops.size) (hB : ∀ j o, j < k → ops[j]? = some o → ∀ e ∈ o.after, Region.binds .any e = true → e.on < k) (hk : k ≤ n) : DC ops (upto n k) := by
  intro j o ho hl e he hb
  have hj : j < k := by
    rcases Nat.lt_or_ge j k with h | h
    · exact h
    · exfalso
      simp only [upto, Array.getD_eq_getD_getElem?, List.getElem?_toArray] at hl
      rw [List.getElem?_append_right (by simpa using h)] at hl
      simp only [List.getElem?_replicate, List.length_replicate] at hl
      split at hl <;> simp at hl
  have := hB j o hj ho e he hb
  simp only [upto, Array.getD_eq_getD_getElem?, List.getElem?_toArray]
  rw [List.getElem?_append_left (by simpa using this)]
  simp [this]
section
variable {P : Program} {Z : Post} {ks : List Fr} {N : Nat} {D : List Deferred} {sl : Sl} {W w : World} {ops : Array Oper} {F : Snap} {cs : List Res} {t : TypeId} {v : Value} {pos : String} {af : Array Edge} {C : World → Prop} {eff : Nat → Bool} {k f : Nat}
/-- what is looked up of a region, once: each operation may come at its place, and those behind wait or are apart -/
def lexOk (ops : Array Oper) : Bool := Region.noSelect ops && (List.range ops.size).all fun k => (Region.ready .any ops (upto ops.size k)).contains k && Region.free .any ops (upto ops.size k) k && ((ops[k]?).map fun o => o.after.all fun e => !Region.binds .any e || decide (e.on < k)).getD true
structure Lx (ops : Array Oper) : Prop where
  ok : lexOk ops = true
theorem Lx.at_ (h : Lx ops) (hk : k < ops.size) : k ∈ Region.ready .any ops (upto ops.size k) ∧ Region.free .any ops (upto ops.size k) k = true ∧ ∀ o, ops[k]? = some o → ∀ e ∈ o.after, Region.binds .any e = true → e.on < k := by
  have := h.ok
  simp only [lexOk, Bool.and_eq_true, List.all_eq_true, List.mem_range] at this
  obtain ⟨⟨h1, h2⟩, h3⟩ := this.2 k hk
  refine ⟨by simpa using h1, h2, fun o ho e he hb => ?_⟩
  rw [ho] at h3
  simp only [Option.map_some, Option.getD_some] at h3
  have := Array.all_eq_true_iff_forall_mem.1 h3 e he
  simpa [hb] using this
theorem Lx.sel (h : Lx ops) : Region.noSelect ops = true := by
  have := h.ok
  simp only [lexOk, Bool.and_eq_true] at this
  exact this.1
theorem Lx.dc (h : Lx ops) (hk : k ≤ ops.size) : DC ops (upto ops.size k) :=
  upto_dc rfl (fun j o hj ho e he hb => Nat.lt_trans ((h.at_ (k := j) (by omega)).2.2 o ho e he hb) hj) hk
def WM (P : Program) (ops : Array Oper) (Z : Post) (ks : List Fr) (N : Nat) (D : List Deferred) (C : World → Prop) (eff : Nat → Bool) (sl : Sl) (k : Nat) : Prop :=
  ∀ a, Ag N D sl a → wpAnyM P ops C eff (np (den P Z ks)) (ops.size - k) (upto ops.size k) a
def WD (P : Program) (ops : Array Oper) (Z : Post) (ks : List Fr) (N : Nat) (D : List Deferred) (sl : Sl) (k : Nat) (w : World) : Prop :=
  ∀ a, Ag N D sl a → wpAny P .any ops (np (den P Z ks)) (ops.size - k) (upto ops.size k) a w
theorem WC.dreg (C : World → Prop) (eff : Nat → Bool) {id : Nat} {l : List Oper} (hm : P.follows .mixedOrders = true) (hB : lexOk l.toArray = true) (hC : C { w with drawn := w.drawn + 1 }) (h : Lx l.toArray → WM P l.toArray Z ks N D C eff sl 0) : WC P Z ks N D sl (.region id l.toArray true) w := fun a ha => by
  refine wp_mono (Q := np (den P Z ks)) (wp_region_any hm ?_) np_imp
  have := any_of_M _ _ _ _ hC (h ⟨hB⟩ a ha)
  have e : upto l.toArray.size 0 = Array.replicate l.toArray.size false := by
    apply Array.toList_inj.1; simp [upto]
  rw [e] at this
  simpa using this
theorem wants {ops : Array Oper} {o : Oper} {a : Act} (hg : o.guard = none) : Region.wanted o (yielded ops a.tmps) = true := by simp [Region.wanted, hg]
theorem WM.val (fl : Nat) (hx : Lx ops) {d : Nat} {op : Op} (ho : ops[k]? = some { dst := some d, op := op, type := t, pos := pos, after := af, guard := none }) (he : eff k = false) (hE : ((List.range ops.size).all fun j => !eff j || decide (j < k) || ancB ops fl j k) = true)
    (h : ∀ w, C w → Runs P sl op t w v) (hd : Nat.ble (d + 1) N = true) (kk : WM P ops Z ks N D C eff ((d, v) :: sl) (k + 1)) : WM P ops Z ks N D C eff sl k := fun a ha => by
  have hlt : k < ops.size := (Array.getElem?_eq_some_iff.1 ho).1
  obtain ⟨h1, h2, h3⟩ := hx.at_ hlt
  rw [show ops.size - k = (ops.size - (k + 1)) + 1 by omega]
  refine M_first (v := v) ho (Region.noSelect_spec hx.sel) he _ _ a (hx.dc (Nat.le_of_lt hlt)) (Region.free_spec ho h2) h1 (.inl ⟨wants rfl, fun w hC => ?_⟩) (.inr fun j hj hun => ?_) ?_
  · unfold Oper.quietAt
    rw [h w hC a.eval (fun x v hx => ha.ev hx) _ rfl rfl]
    exact ⟨rfl, rfl⟩
  · rcases Nat.lt_or_ge j ops.size with hjl | hjl
    · have := List.all_eq_true.1 hE j (List.mem_range.2 hjl)
      simp only [hj, Bool.not_true, Bool.false_or, Bool.or_eq_true, decide_eq_true_eq] at this
      rcases this with hjk | hanc
      · exfalso
        simp only [upto, Array.getD_eq_getD_getElem?, List.getElem?_toArray] at hun
        rw [List.getElem?_append_left (by simpa using hjk)] at hun
        simp [hjk] at hun
      · exact ancB_spec fl j k hanc
    · exfalso
      have : (upto ops.size k).size = ops.size := by simp [upto]; omega
      rw [Array.getD_eq_getD_getElem?, Array.getElem?_eq_none (by omega)] at hun
      simp at hun
  · rw [upto_set hlt]; exact kk _ (ha.put (Nat.le_of_ble_eq_true hd) v)
/-- an operation that hangs on nothing but its operands -/
theorem WM.pure (hx : Lx ops) {d : Nat} {op : Op} (ho : ops[k]? = some { dst := some d, op := op, type := t, pos := pos, after := af, guard := none }) (he : eff k = false)
    (h : ∀ w, Runs P sl op t w v) (hd : Nat.ble (d + 1) N = true) (kk : WM P ops Z ks N D C eff ((d, v) :: sl) (k + 1)) : WM P ops Z ks N D C eff sl k := fun a ha => by
  have hlt : k < ops.size := (Array.getElem?_eq_some_iff.1 ho).1
  obtain ⟨h1, h2, h3⟩ := hx.at_ hlt
  rw [show ops.size - k = (ops.size - (k + 1)) + 1 by omega]
  have hrun : ∀ w, (execOp a.eval { dst := some d, op := op, type := t, pos := pos, after := af, guard := none }).run P w = .ok (.value v) w := fun w => h w a.eval (fun x v hx => ha.ev hx) _ rfl rfl
  refine M_first (v := v) ho (Region.noSelect_spec hx.sel) he _ _ a (hx.dc (Nat.le_of_lt hlt)) (Region.free_spec ho h2) h1 (.inl ⟨wants rfl, fun w hC => ?_⟩) (.inl (.inl ⟨wants rfl, hrun⟩)) ?_
  · unfold Oper.quietAt
    rw [hrun w]
    exact ⟨rfl, rfl⟩
  · rw [upto_set hlt]; exact kk _ (ha.put (Nat.le_of_ble_eq_true hd) v)
theorem WM.call (fl : Nat) (hx : Lx ops) {d : Nat} {g : FuncId} {xs : List Operand} {vs : List Value} {ts : Array TypeId} (ho : ops[k]? = some { dst := some d, op := .call { callee := .value (.func g), args := xs.toArray, argTypes := ts }, type := t, pos := pos, after := af, guard := none }) (he : eff k = false) (hE : ((List.range ops.size).all fun j => !eff j || decide (j < k) || ancB ops fl j k) = true)
    (hc : Can P g) (hv : args_ sl xs = some vs) (hd : Nat.ble (d + 1) N = true) (c : ∀ w, C w → Calls P g vs.toArray w fun e w' => e = .returned v ∧ C w') (kk : WM P ops Z ks N D C eff ((d, v) :: sl) (k + 1)) : WM P ops Z ks N D C eff sl k := fun a ha => by
  have hlt : k < ops.size := (Array.getElem?_eq_some_iff.1 ho).1
  obtain ⟨h1, h2, h3⟩ := hx.at_ hlt
  rw [show ops.size - k = (ops.size - (k + 1)) + 1 by omega]
  refine M_first (v := v) ho (Region.noSelect_spec hx.sel) he _ _ a (hx.dc (Nat.le_of_lt hlt)) (Region.free_spec ho h2) h1 (.inl ⟨wants rfl, fun w hC => ?_⟩) (.inr fun j hj hun => ?_) ?_
  · unfold Oper.quietAt
    rw [exec_call hc rfl rfl (args_spec (fun x v hx => ha.ev hx) xs vs hv)]
    exact ⟨rfl, c w hC⟩
  · rcases Nat.lt_or_ge j ops.size with hjl | hjl
    · have := List.all_eq_true.1 hE j (List.mem_range.2 hjl)
      simp only [hj, Bool.not_true, Bool.false_or, Bool.or_eq_true, decide_eq_true_eq] at this
      rcases this with hjk | hanc
      · exfalso
        simp only [upto, Array.getD_eq_getD_getElem?, List.getElem?_toArray] at hun
        rw [List.getElem?_append_left (by simpa using hjk)] at hun
        simp [hjk] at hun
      · exact ancB_spec fl j k hanc
    · exfalso
      have : (upto ops.size k).size = ops.size := by simp [upto]; omega
      rw [Array.getD_eq_getD_getElem?, Array.getElem?_eq_none (by omega)] at hun
      simp at hun
  · rw [upto_set hlt]; exact kk _ (ha.put (Nat.le_of_ble_eq_true hd) v)
/-- from here on one behind the other -/
theorem WM.toD (hx : Lx ops) (he : eff k = true) (hk : k < ops.size) (hr : Region.ready .any ops (upto ops.size k) = [k]) (h : ∀ w, C w → WD P ops Z ks N D sl k w) : WM P ops Z ks N D C eff sl k := fun a ha => by
  rw [show ops.size - k = (ops.size - (k + 1)) + 1 by omega]
  refine M_eff hr he fun w hC => ?_
  have := h w hC a ha
  rw [show ops.size - k = (ops.size - (k + 1)) + 1 by omega] at this
  exact this.2 k (by rw [hr]; simp)
theorem WM.fin (hk : k = ops.size) (hr : Region.ready .any ops (upto ops.size k) = []) (h : ∀ w, C w → WN P Z ks N D sl w) : WM P ops Z ks N D C eff sl k := fun a ha => by
  rw [show ops.size - k = 0 by omega]
  exact ⟨hr, fun w hC => h w hC a ha⟩
theorem WD.fin (hk : k = ops.size) (hr : Region.ready .any ops (upto ops.size k) = []) (h : WN P Z ks N D sl w) : WD P ops Z ks N D sl k w := fun a ha => by
  rw [show ops.size - k = 0 by omega]
  exact ⟨hr, h a ha⟩
theorem WD.pure (hx : Lx ops) {d : Nat} {op : Op} (ho : ops[k]? = some { dst := some d, op := op, type := t, pos := pos, after := af, guard := none })
    (h : ∀ w, Runs P sl op t w v) (hd : Nat.ble (d + 1) N = true) (kk : WD P ops Z ks N D ((d, v) :: sl) (k + 1) w) : WD P ops Z ks N D sl k w := fun a ha => by
  have hlt : k < ops.size := (Array.getElem?_eq_some_iff.1 ho).1
  obtain ⟨h1, h2, h3⟩ := hx.at_ hlt
  rw [show ops.size - k = (ops.size - (k + 1)) + 1 by omega]
  have hrun : ∀ w, (execOp a.eval { dst := some d, op := op, type := t, pos := pos, after := af, guard := none }).run P w = .ok (.value v) w := fun w => h w a.eval (fun x v hx => ha.ev hx) _ rfl rfl
  refine wpAny_first (v := v) ho (Region.noSelect_spec hx.sel) (fun c a w h => h.elim) _ _ a w (Region.free_spec ho h2) h1 (.inl ⟨wants rfl, hrun⟩) ?_
  rw [upto_set hlt]; exact kk _ (ha.put (Nat.le_of_ble_eq_true hd) v)
/-- an operation that all others wait for: by the lemmas for a list of one -/
theorem WD.op {o : Oper} (ho : ops[k]? = some o) (hg : o.guard = none) (hr : Region.ready .any ops (upto ops.size k) = [k]) (h : WL P ops (fun _ _ _ => False) [.cut (fun a' w' => wpAny P .any ops (np (den P Z ks)) (ops.size - (k + 1)) (upto ops.size (k + 1)) a' w')] N D sl [o] w) : WD P ops Z ks N D sl k w := fun a ha => by
  have hlt : k < ops.size := (Array.getElem?_eq_some_iff.1 ho).1
  rw [show ops.size - k = (ops.size - (k + 1)) + 1 by omega]
  refine wpAny_all hr (by simp) fun i hi => ?_
  simp only [List.mem_singleton] at hi
  subst hi
  have h1 := h a ha
  unfold wpOp
  rw [ho]
  simp only [wants hg, if_true]
  unfold wpList at h1
  rw [if_pos (wants hg)] at h1
  have hsame : ∀ e a w, den P (fun _ _ _ => False) [.cut (fun a' w' => wpAny P .any ops (np (den P Z ks)) (ops.size - (i + 1)) (upto ops.size (i + 1)) a' w')] e a w → e = .normal ∧ wpAny P .any ops (np (den P Z ks)) (ops.size - (i + 1)) (upto ops.size (i + 1)) a w := by
    intro e a w h
    cases e with
    | normal => exact ⟨rfl, h⟩
    | _ => exact h.elim
  rw [upto_set hlt]
  rcases h1 with h1 | ⟨_, a0, w0, h1⟩
  · left
    unfold Oper.wp at h1 ⊢
    generalize (execOp a.eval o).run P w = r at *
    cases r with
    | ok n w' =>
      cases n <;> simp only [Oper.upon] at h1 ⊢
      case value u => exact (hsame _ _ _ h1).2
      case skip => exact (hsame _ _ _ h1).2
      case defer d => exact (hsame _ _ _ h1).2
      case enter f args =>
        refine h1.mono fun e w'' hh => ?_
        cases e with
        | returned u => exact (hsame _ _ _ hh).2
        | panicked ch => exact absurd (hsame _ _ _ hh).1 (by simp)
        | outgrown =>
          obtain ⟨a0, w0, hh⟩ := hh
          exact absurd (hsame _ _ _ hh).1 (by simp)
      case row row args => exact h1.mono fun u w'' hh => (hsame _ _ _ hh).2
    | halt hh w' =>
      cases hh <;> simp only [Oper.upon] at h1
      case panic u => exact absurd (hsame _ _ _ h1).1 (by simp)
  · exact absurd (hsame _ _ _ h1).1 (by simp)
theorem WD.next (h : WD P ops Z ks N D sl (k + 1) w) : WN P (fun _ _ _ => False) [.cut (fun a' w' => wpAny P .any ops (np (den P Z ks)) (ops.size - (k + 1)) (upto ops.size (k + 1)) a' w')] N D sl w := h
end
end B
end Go.Proofs.Ythejglgnoingfaa

namespace Go.Proofs.Ythejglgnoingfaa
open Go Go.RowKit
set_option linter.unusedVariables false
set_option linter.unusedSimpArgs false
namespace B
section
variable {P : Program} {Z : Post} {ks : List Fr} {N : Nat} {D : List Deferred} {sl : Sl} {W w : World} {ops : Array Oper} {rest : List Oper} {F : Snap} {cs : List Res} {t T T' E : TypeId} {x y : Operand} {v zv : Value} {pos : String} {af : Array Edge} {sz bytes : Nat} {k : IntKind} {α : Type}
theorem Runs.lidxN {a : Addr} {len cap n : Nat} {j : Int} (hu : P.underlying T = some (.slice E)) (hi : Inf P E zv 1 bytes) (hx : evs sl x = some (.slice (some a) len cap)) (hy : evs sl y = some (.int k j)) (hj : j = (n : Int)) (hn : n < len) :
    Runs P sl (.indexAddr T x y) t w (.pointer (some (a.add n))) := by
  have := Runs.lidx (t := t) (w := w) hu hi hx hy (by omega)
  rwa [hj, Int.toNat_natCast, Nat.mul_one] at this
theorem Runs.lidxK {a : Addr} {len cap n : Nat} {j : Int} (hu : P.underlying T = some (.slice E)) (hi : Inf P E zv sz bytes) (hx : evs sl x = some (.slice (some a) len cap)) (hy : evs sl y = some (.int k j)) (hj : j = (n : Int)) (hn : n < len) :
    Runs P sl (.indexAddr T x y) t w (.pointer (some (a.add (n * sz)))) := by
  have := Runs.lidx (t := t) (w := w) hu hi hx hy (by omega)
  rwa [hj, Int.toNat_natCast] at this
theorem Runs.aidxN {b m n : Nat} {j : Int} (hu : P.underlying T = some (.array m E)) (hi : Inf P E zv 1 bytes) (hx : evs sl x = some (.pointer (some ⟨b, 0, none⟩))) (hy : evs sl y = some (.int k j)) (hj : j = (n : Int)) (hn : n < m) :
    Runs P sl (.indexAddr T x y) t w (.pointer (some ⟨b, n, none⟩)) := by
  have := Runs.aidx (t := t) (w := w) hu hi hx hy (by omega)
  rwa [hj, Int.toNat_natCast, Nat.zero_add] at this
/-- element n of a slice that never changes any more -/
theorem Runs.loadR {f : α → Value} {xs : List α} {ad : Addr} {n : Nat} {d : TypeDesc} (d0 : α) (h : St W F cs w) (hrd : ∀ i x, xs[i]? = some x → cellF F (ad.add i) = some (f x)) (hn : n < xs.length) (hu : P.underlying T = some d) (hs : scal d = true) (hx : evs sl x = some (.pointer (some (ad.add n)))) :
    Runs P sl (.load T x) t w (f (xs.getD n d0)) := by
  refine Runs.load1 hu hs hx (h.cell (hrd n _ ?_))
  rw [List.getD_eq_getElem?_getD, List.getElem?_eq_getElem hn]; rfl
theorem rd1 {f : α → Value} {F : Snap} {A : Option Addr} {xs : List α} (h : RdS (Kd.one f) F A xs) (h0 : 0 < xs.length) : ∃ ad, A = some ad ∧ ∀ i x, xs[i]? = some x → cellF F (ad.add i) = some (f x) := by
  rcases h with h | ⟨ad, hA, h⟩
  · rw [h] at h0; simp at h0
  · refine ⟨ad, hA, fun i x hx => ?_⟩
    obtain ⟨c, h1, h2⟩ := h i x hx
    have h1 : c = [f x] := h1
    subst h1
    have := h2 0 (f x) rfl
    simpa [Kd.one] using this
/-- a row of the call's own that is read -/
theorem Runs.loadArr {f : α → Value} {xs : List α} {b n : Nat} {tt : TypeId} {fz : Nat × Nat} {d : TypeDesc} (d0 : α) (h : St W F cs w) (i : Nat) (hi : cs[i]? = some [(b, .cells (xs.map f).toArray tt fz)]) (hn : n < xs.length) (hu : P.underlying T = some d) (hs : scal d = true) (hx : evs sl x = some (.pointer (some ⟨b, n, none⟩))) :
    Runs P sl (.load T x) t w (f (xs.getD n d0)) := by
  refine Runs.load1 hu hs hx (h.ocell hi ?_)
  simp [List.getD_eq_getElem?_getD, List.getElem?_eq_getElem hn]
theorem WL.storeArr (h : St W F cs w) (i : Nat) {f : α → Value} {xs : List α} {u : α} {b n : Nat} {tt : TypeId} {fz : Nat × Nat} (hi : cs[i]? = some [(b, .cells (xs.map f).toArray tt fz)]) (hx : evs sl x = some (.pointer (some ⟨b, n, none⟩))) (hy : evs sl y = some (f u))
    (hT : Inf P T zv 1 bytes) (hc : (f u).cells = #[f u]) (h1 : one_ (f u) = true) (hf : Free fz xs.length) (hn : n < xs.length)
    (k : ∀ w', St W F (cs.set i [(b, .cells ((xs.set n u).map f).toArray tt fz)]) w' → WL P ops Z ks N D sl rest w') :
    WL P ops Z ks N D sl ({ dst := none, op := .store T x y, type := t, pos := pos, after := af, guard := none } :: rest) w := by
  refine WL.store' h i hi hx hy hT (by rw [hc]; rfl) (by rw [hc]; simp [h1]) (by simpa using hf) (by rw [hc]; simp; omega) (fun w' h' => k w' ?_)
  rw [hc] at h'
  have : blit (xs.map f).toArray n [f u] = ((xs.set n u).map f).toArray := by
    apply Array.toList_inj.1
    simp [blit_one, List.map_set]
  rwa [this] at h'
/-- the whole of a variable is written -/
theorem WL.storeAll (h : St W F cs w) (i : Nat) {arr vs : Array Value} {b : Nat} {tt : TypeId} {fz : Nat × Nat} (hi : cs[i]? = some [(b, .cells arr tt fz)]) (hx : evs sl x = some (.pointer (some ⟨b, 0, none⟩))) (hy : evs sl y = some (.agg vs))
    (hT : Inf P T zv sz bytes) (hz : sz = vs.size) (ha : arr.size = vs.size) (h1 : vs.toList.all one_ = true) (hf : Free fz arr.size)
    (k : ∀ w', St W F (cs.set i [(b, .cells vs tt fz)]) w' → WL P ops Z ks N D sl rest w') :
    WL P ops Z ks N D sl ({ dst := none, op := .store T x y, type := t, pos := pos, after := af, guard := none } :: rest) w := by
  refine WL.store' h i hi hx hy hT hz h1 hf (by simp [Value.cells]; omega) (fun w' h' => k w' ?_)
  have : blit arr 0 (Value.agg vs).cells.toList = vs := by
    rw [blit_all _ _ (by simp [Value.cells, ha])]; simp [Value.cells]
  rwa [this] at h'
/-! words of 32 bits -/
abbrev V32 (x : BitVec 32) : Value := .int .u32 (x.toNat : Int)
abbrev V8 (x : UInt8) : Value := .int .u8 (x.toNat : Int)
theorem wrap_u32 (n : Int) : IntKind.u32.wrap n = n % 4294967296 := by simp [IntKind.wrap, IntKind.bits, IntKind.signed]
theorem wrap_u8 (n : Int) : IntKind.u8.wrap n = n % 256 := by simp [IntKind.wrap, IntKind.bits, IntKind.signed]
theorem wrap_u32_lt {n : Nat} (h : n < 4294967296) : IntKind.u32.wrap (n : Int) = n := by rw [wrap_u32]; omega
theorem ofInt_toNat (a : BitVec 32) : BitVec.ofInt 32 (a.toNat : Int) = a := by simp
variable {a b : BitVec 32}
theorem Runs.add32 (hx : evs sl x = some (V32 a)) (hy : evs sl y = some (V32 b)) : Runs P sl (.binOp .add T x y T') t w (V32 (a + b)) := by
  have := Runs.add (P := P) (t := t) (w := w) (T := T) (T' := T') hx hy
  have e : IntKind.u32.wrap ((a.toNat : Int) + b.toNat) = ((a + b).toNat : Int) := by
    rw [wrap_u32, BitVec.toNat_add]; omega
  rwa [e] at this
theorem Runs.xor32 (hx : evs sl x = some (V32 a)) (hy : evs sl y = some (V32 b)) : Runs P sl (.binOp .xor T x y T') t w (V32 (a ^^^ b)) := by
  have := Runs.xor (P := P) (t := t) (w := w) (T := T) (T' := T') hx hy
  have e : IntKind.u32.wrap (BitVec.ofInt IntKind.u32.bits (a.toNat : Int) ^^^ BitVec.ofInt IntKind.u32.bits (b.toNat : Int)).toNat = ((a ^^^ b).toNat : Int) := by
    show IntKind.u32.wrap (BitVec.ofInt 32 (a.toNat : Int) ^^^ BitVec.ofInt 32 (b.toNat : Int)).toNat = _
    rw [ofInt_toNat, ofInt_toNat, wrap_u32_lt (a ^^^ b).isLt]
  rwa [e] at this
theorem Runs.and32 (hx : evs sl x = some (V32 a)) (hy : evs sl y = some (V32 b)) : Runs P sl (.binOp .and T x y T') t w (V32 (a &&& b)) := by
  have := Runs.and (P := P) (t := t) (w := w) (T := T) (T' := T') hx hy
  have e : IntKind.u32.wrap (BitVec.ofInt IntKind.u32.bits (a.toNat : Int) &&& BitVec.ofInt IntKind.u32.bits (b.toNat : Int)).toNat = ((a &&& b).toNat : Int) := by
    show IntKind.u32.wrap (BitVec.ofInt 32 (a.toNat : Int) &&& BitVec.ofInt 32 (b.toNat : Int)).toNat = _
    rw [ofInt_toNat, ofInt_toNat, wrap_u32_lt (a &&& b).isLt]
  rwa [e] at this
theorem Runs.or32 (hx : evs sl x = some (V32 a)) (hy : evs sl y = some (V32 b)) : Runs P sl (.binOp .or T x y T') t w (V32 (a ||| b)) := by
  have := Runs.or (P := P) (t := t) (w := w) (T := T) (T' := T') hx hy
  have e : IntKind.u32.wrap (BitVec.ofInt IntKind.u32.bits (a.toNat : Int) ||| BitVec.ofInt IntKind.u32.bits (b.toNat : Int)).toNat = ((a ||| b).toNat : Int) := by
    show IntKind.u32.wrap (BitVec.ofInt 32 (a.toNat : Int) ||| BitVec.ofInt 32 (b.toNat : Int)).toNat = _
    rw [ofInt_toNat, ofInt_toNat, wrap_u32_lt (a ||| b).isLt]
  rwa [e] at this
theorem Runs.com32 (hx : evs sl x = some (V32 a)) : Runs P sl (.unOp .xor T x) t w (V32 (~~~a)) := by
  have := Runs.com (P := P) (t := t) (w := w) (T := T) hx
  have e : IntKind.u32.wrap (BitVec.ofInt IntKind.u32.bits (if IntKind.u32.signed then -1 else IntKind.u32.max) ^^^ BitVec.ofInt IntKind.u32.bits (a.toNat : Int)).toNat = ((~~~a).toNat : Int) := by
    show IntKind.u32.wrap (BitVec.ofInt 32 4294967295 ^^^ BitVec.ofInt 32 (a.toNat : Int)).toNat = _
    rw [ofInt_toNat, show (BitVec.ofInt 32 4294967295 : BitVec 32) = BitVec.allOnes 32 from rfl, BitVec.allOnes_xor, wrap_u32_lt (~~~a).isLt]
  rwa [e] at this
theorem Runs.shr32 {n : Int} (hx : evs sl x = some (V32 a)) (hy : evs sl y = some (.int k n)) (h0 : 0 ≤ n ∧ n ≤ 32) : Runs P sl (.binOp .shr T x y T') t w (V32 (a >>> n.toNat)) := by
  have := Runs.shr (P := P) (t := t) (w := w) (T := T) (T' := T') hx hy h0.1
  have e : (a.toNat : Int) / 2 ^ Min.min n.toNat IntKind.u32.bits = ((a >>> n.toNat).toNat : Int) := by
    rw [show Min.min n.toNat IntKind.u32.bits = n.toNat from Nat.min_eq_left (by simp [IntKind.bits]; omega), BitVec.toNat_ushiftRight, Nat.shiftRight_eq_div_pow]
    simp
  rwa [e] at this
theorem Runs.shl32 {n : Int} (hx : evs sl x = some (V32 a)) (hy : evs sl y = some (.int k n)) (h0 : 0 ≤ n ∧ n ≤ 32) : Runs P sl (.binOp .shl T x y T') t w (V32 (a <<< n.toNat)) := by
  have := Runs.shl (P := P) (t := t) (w := w) (T := T) (T' := T') hx hy h0.1
  have e : IntKind.u32.wrap ((a.toNat : Int) * 2 ^ Min.min n.toNat IntKind.u32.bits) = ((a <<< n.toNat).toNat : Int) := by
    rw [show Min.min n.toNat IntKind.u32.bits = n.toNat from Nat.min_eq_left (by simp [IntKind.bits]; omega), wrap_u32, BitVec.toNat_shiftLeft, Nat.shiftLeft_eq]
    simp
  rwa [e] at this
theorem Runs.u8to32 {c : UInt8} (hu : P.underlying T = some (.int .u8)) (hu' : P.underlying T' = some (.int .u32)) (hx : evs sl x = some (V8 c)) : Runs P sl (.convert T T' x) t w (V32 (BitVec.ofNat 32 c.toNat)) := by
  have := Runs.toInt (P := P) (t := t) (w := w) hu hu' hx
  have e : IntKind.u32.wrap (c.toNat : Int) = ((BitVec.ofNat 32 c.toNat).toNat : Int) := by
    have := c.toNat_lt
    rw [wrap_u32_lt (by omega), BitVec.toNat_ofNat, Nat.mod_eq_of_lt (by omega)]
  rwa [e] at this
theorem Runs.to8 (hu : P.underlying T = some (.int .u32)) (hu' : P.underlying T' = some (.int .u8)) (hx : evs sl x = some (V32 a)) : Runs P sl (.convert T T' x) t w (V8 (UInt8.ofNat a.toNat)) := by
  have := Runs.toInt (P := P) (t := t) (w := w) hu hu' hx
  have e : IntKind.u8.wrap (a.toNat : Int) = ((UInt8.ofNat a.toNat).toNat : Int) := by
    rw [wrap_u8, UInt8.toNat_ofNat']; omega
  rwa [e] at this
theorem Runs.ito8 {m : Nat} {j : Int} (hu : P.underlying T = some (.int .i64)) (hu' : P.underlying T' = some (.int .u8)) (hx : evs sl x = some (.int .i64 j)) (hj : j = (m : Int)) : Runs P sl (.convert T T' x) t w (V8 (UInt8.ofNat m)) := by
  subst hj
  have := Runs.toInt (P := P) (t := t) (w := w) hu hu' hx
  have e : IntKind.u8.wrap (m : Int) = ((UInt8.ofNat m).toNat : Int) := by
    rw [wrap_u8, UInt8.toNat_ofNat']; omega
  rwa [e] at this
end
end B
end Go.Proofs.Ythejglgnoingfaa

namespace Go.Proofs.Ythejglgnoingfaa
open Go Go.RowKit
set_option linter.unusedVariables false
set_option linter.unusedSimpArgs false
namespace B
theorem one_cells {v : Value} (h : one_ v = true) : v.cells = #[v] := by cases v <;> first | rfl | cases h
def Row {α : Type} (E : TypeId) (f : α → Value) (r : Res) (v : Value) (xs : List α) : Prop := IsRow E 1 r v xs.length (xs.map f)
theorem Row.nil {α : Type} (E : TypeId) (f : α → Value) : Row E f [] (.slice none 0 0) [] := IsRow.nil E 1
theorem Row.val {α : Type} {E : TypeId} {f : α → Value} {r : Res} {v : Value} {xs : List α} (h : Row E f r v xs) : ∃ A cap, v = .slice A xs.length cap ∧ xs.length ≤ cap := IsRow.val h
theorem okb_lo {l : Int} {len cap : Nat} (h : 0 ≤ l ∧ l ≤ len) : okb (some l) none len cap := ⟨fun h e => (by cases e), fun l' e => by injection e with e; subst e; exact h⟩
theorem okb_hi {l : Int} {len cap : Nat} (h : 0 ≤ l ∧ l ≤ cap) : okb none (some l) len cap := ⟨fun h' e => (by injection e with e; subst e; exact h), fun l' e => (by cases e)⟩
theorem okb_lh {l h : Int} {len cap : Nat} (h0 : 0 ≤ l ∧ l ≤ h) (h1 : h ≤ cap) : okb (some l) (some h) len cap := ⟨fun h' e => (by injection e with e; subst e; omega), fun l' e => by injection e with e; subst e; simp only [hi_, Option.map_some, Option.getD_some]; omega⟩
theorem okb_no {len cap : Nat} : okb none none len cap := ⟨fun h e => (by cases e), fun l e => (by cases e)⟩
section
variable {P : Program} {Z : Post} {ks : List Fr} {N : Nat} {D : List Deferred} {sl : Sl} {W w : World} {ops : Array Oper} {rest : List Oper} {F G : Snap} {cs : List Res} {t t' T T' E : TypeId} {x y : Operand} {v zv : Value} {pos : String} {af : Array Edge} {sz bytes : Nat} {α : Type} {f : α → Value}
theorem Row.wcell {r : Res} {xs : List α} {i : Nat} (hr : Row E f r v xs) (h : St W F cs w) (hi : cs[i]? = some r) {A : Option Addr} {n cap : Nat} (hv : v = .slice A n cap) : xs = [] ∨ ∃ ad, A = some ad ∧ ∀ j x, xs[j]? = some x → w.cell? (ad.add j) = some (f x) := by
  rcases hr with ⟨rfl, rfl, hl, _⟩ | ⟨b, cap', arr, fz, rfl, rfl, hs, hn, hc, _⟩
  · exact .inl (List.eq_nil_of_length_eq_zero hl)
  · injection hv with hA
    refine .inr ⟨⟨b, 0, none⟩, hA.symm, fun j x hx => ?_⟩
    rw [add_mk, Nat.zero_add]
    refine h.ocell hi ?_
    have h1 : (xs.map f)[j]? = some (f x) := by simp [hx]
    rw [hc, List.getElem?_take] at h1
    split at h1
    · simpa using h1
    · cases h1
theorem Src.row {r : Res} {xs : List α} {i : Nat} (hr : Row E f r v xs) (h : St W F cs w) (hi : cs[i]? = some r) (h1 : ∀ x, one_ (f x) = true) : Src P w 1 v xs.length (xs.map f) := by
  obtain ⟨A, cap, hv, _⟩ := hr.val
  have hc := hr.wcell h hi hv
  subst hv
  refine Src.slice (by simp) ?_ (by rw [List.all_eq_true]; intro u hu; obtain ⟨x, _, rfl⟩ := List.mem_map.1 hu; exact h1 x)
  rcases hc with hc | ⟨ad, hA, hc⟩
  · exact .inl (by rw [hc]; rfl)
  · refine .inr ⟨ad, hA, fun j u hu => ?_⟩
    rw [List.getElem?_map] at hu
    obtain ⟨x, hx, rfl⟩ := Option.map_eq_some_iff.1 hu
    exact hc j x hx
/-- a slice that never changes any more, as it is appended -/
theorem Src.rd {A : Option Addr} {xs : List α} {n cap : Nat} (hr : RdS (Kd.one f) F A xs) (h : St W F cs w) (hn : n = xs.length) (h1 : ∀ x, one_ (f x) = true) : Src P w 1 (.slice A n cap) xs.length (xs.map f) := by
  subst hn
  refine Src.slice (by simp) ?_ (by rw [List.all_eq_true]; intro u hu; obtain ⟨x, _, rfl⟩ := List.mem_map.1 hu; exact h1 x)
  rcases hr with hr | ⟨ad, hA, hr⟩
  · exact .inl (by rw [hr]; rfl)
  · refine .inr ⟨ad, hA, fun j u hu => ?_⟩
    rw [List.getElem?_map] at hu
    obtain ⟨x, hx, rfl⟩ := Option.map_eq_some_iff.1 hu
    obtain ⟨c, hc1, hc2⟩ := hr j x hx
    have hc1 : c = [f x] := hc1
    subst hc1
    have := hc2 0 (f x) rfl
    simp only [Kd.one, Nat.mul_one, Nat.add_zero] at this
    exact h.cell this
theorem Src.lit {b m c : Nat} {arr : Array Value} {tt : TypeId} {fz : Nat × Nat} (h : St W F cs w) (i : Nat) (hi : cs[i]? = some [(b, .cells arr tt fz)]) (hm : arr.size = m) (h1 : arr.toList.all one_ = true) : Src P w 1 (.slice (some ⟨b, 0, none⟩) m c) m arr.toList :=
  Src.slice (by simp [hm]) (.inr ⟨_, rfl, fun j u hu => by rw [add_mk, Nat.zero_add]; exact h.ocell hi (by simpa using hu)⟩) h1
theorem WL.lit (h : St W F cs w) {d : Nat} (hd : Nat.ble (d + 1) N = true) {n : Nat} {ps : List (Nat × Operand)} {vs : List Value} (hT : P.underlying T = some (.slice E)) (hE : Inf P E zv 1 bytes) (hz : zv.cells.size = 1) (hp : pargs sl ps = some (numbered 0 vs)) (hn : vs.length = n)
    (hv : vs.all one_ = true) (hbig : Nat.ble n 16777216 = true)
    (k : ∀ b w', St W F ([(b, .cells vs.toArray E (0, 0))] :: cs) w' → WL P ops Z ks N D ((d, .slice (some ⟨b, 0, none⟩) n n) :: sl) rest w') :
    WL P ops Z ks N D sl ({ dst := some d, op := .buildSlice T n ps.toArray, type := t, pos := pos, after := af, guard := none } :: rest) w := by
  have h1 : ∀ u ∈ vs, one_ u = true := fun u hu => List.all_eq_true.1 hv u hu
  refine WL.buildSlice h hd hT (hE.elem hz rfl) hp hn (by rw [List.all_eq_true]; intro u hu; rw [one_cells (h1 u hu)]; rfl) (by have := Nat.le_of_ble_eq_true hbig; omega) (fun b w' h' => k b w' ?_)
  have : vs.flatMap (·.cells.toList) = vs := by
    clear k h' hp hn hv
    induction vs with
    | nil => rfl
    | cons u r ih =>
      rw [List.flatMap_cons, ih (fun u hu => h1 u (by simp [hu])), one_cells (h1 u (by simp))]
      rfl
  rwa [this] at h'
theorem WL.app (i : Nat) (h : St W F cs w) {r : Res} (hi : cs[i]? = some r) {d : Nat} (hd : Nat.ble (d + 1) N = true) {xv : Value} {m : Nat} {xs ys : List α} {src : List Value} {d' : TypeDesc} (hx : evs sl x = some v) (hy : evs sl y = some xv)
    (ht : P.underlying T = some (.slice E)) (ht' : P.underlying T' = some d') (hd' : d' = .string ∨ ∃ e, d' = .slice e) (hE : Inf P E zv 1 bytes) (hz : zv.cells.size = 1)
    (hr : Row E f r v xs) (hs : Src P w 1 xv m src) (hm : m = ys.length) (hsrc : src = ys.map f) (hsmall : (4 * (xs.length + m) + 4096) * bytes ≤ 281474976710656) (hnm : xs.length + m ≤ 9223372036854775807)
    (k : ∀ r' v' w', Row E f r' v' (xs ++ ys) → St W F (cs.set i r') w' → WL P ops Z ks N D ((d, v') :: sl) rest w') :
    WL P ops Z ks N D sl ({ dst := some d, op := .call { callee := .builtin .append, args := #[x, y], argTypes := #[T, T'] }, type := t, pos := pos, after := af, guard := none } :: rest) w := by
  subst hsrc; subst hm
  refine WL.append i h hi hd hx hy ht ht' hd' (hE.elem hz rfl) hr hs hsmall hnm (fun r' v' w' h1 h2 => k r' v' w' ?_ h2)
  unfold Row
  rw [List.length_append, List.map_append]
  exact h1
theorem Row.read {r : Res} {xs : List α} {A : Option Addr} {n cap : Nat} (hr : Row E f r v xs) (hv : v = .slice A n cap) (hG : ∀ p ∈ r, G p.1 = some p.2) : RdS (Kd.one f) G A xs := by
  rcases hr with ⟨rfl, rfl, hl, _⟩ | ⟨b, cap', arr, fz, rfl, rfl, hs, hn, hc, _⟩
  · exact .inl (List.eq_nil_of_length_eq_zero hl)
  · injection hv with hA
    refine .inr ⟨⟨b, 0, none⟩, hA.symm, fun j x hx => ⟨[f x], rfl, fun q u hu => ?_⟩⟩
    have : q = 0 ∧ u = f x := by
      cases q with
      | zero => exact ⟨rfl, by simpa using hu.symm⟩
      | succ q => simp at hu
    obtain ⟨rfl, rfl⟩ := this
    have hb : G b = some (.cells arr E fz) := hG (b, .cells arr E fz) (by simp)
    have h1 : (xs.map f)[j]? = some (f x) := by simp [hx]
    rw [hc, List.getElem?_take] at h1
    simp only [Kd.one, Nat.mul_one, Nat.add_zero, add_mk, Nat.zero_add, cellF, hb]
    split at h1
    · simpa using h1
    · cases h1
/-- an element of an array's value -/
theorem Runs.aggIdx {n : Nat} {m : Nat} {j : Int} {k : IntKind} {arr : Array Value} {d : TypeDesc} {u : Value} (hu : P.underlying T = some (.array m E)) (he : P.underlying E = some d) (hs : scal d = true) (hi : Inf P E zv 1 bytes) (hx : evs sl x = some (.agg arr)) (hy : evs sl y = some (.int k j)) (hj : j = (n : Int)) (hn : n < m) (hc : arr[n]? = some u) :
    Runs P sl (.index T x y) t w u := fun ρ hρ o ho _ => by
  obtain ⟨ti, h1, _, h3, _⟩ := hi.get
  subst hj
  have h4 : (isAgg E).run P w = .ok false w := by
    cases d <;> simp_all [isAgg, underlying, program, scal, Sem.run, bind, Sem.bind, pure]
  have h5 : (part E arr n).run P w = .ok u w := by
    unfold part
    rw [Sem.run_bind, h4]
    simp [Result.andThen, hc, Sem.run, pure]
  simp [execOp, ho, hρ _ _ hx, hρ _ _ hy, Instr.index, asIntOf, run_underlying hu, sizeOf, typeInfo, h1, h3, hn, h5]
theorem Runs.lsl_hi {A : Option Addr} {len cap n : Nat} {j : Int} (hu : P.underlying T = some (.slice E)) (hi : Inf P E zv sz bytes) (hx : evs sl x = some (.slice A len cap)) (hy : evs sl y = some (.int .i64 j)) (hj : j = (n : Int)) (hn : n ≤ cap) :
    Runs P sl (.slice T x none (some y) none) t w (.slice A n cap) := by
  have := Runs.lsl (t := t) (w := w) (lo := none) (hi' := some y) (l := none) (h := some j) hu hi hx rfl (by simp [evo, hy]) (okb_hi (by omega))
  have e : (if cap = lo_ none then A else A.map (fun a => a.add (lo_ none * sz))) = A := by
    split
    · rfl
    · cases A <;> simp [lo_, Addr.add]
  rw [e] at this
  simpa [hi_, lo_, hj] using this
theorem Runs.lsl_lo {A : Option Addr} {len cap n : Nat} {j : Int} (hu : P.underlying T = some (.slice E)) (hi : Inf P E zv sz bytes) (hx : evs sl x = some (.slice A len cap)) (hy : evs sl y = some (.int .i64 j)) (hj : j = (n : Int)) (hn : n ≤ len) :
    Runs P sl (.slice T x (some y) none none) t w (.slice (if cap = n then A else A.map (·.add (n * sz))) (len - n) (cap - n)) := by
  have := Runs.lsl (t := t) (w := w) (lo := some y) (hi' := none) (l := some j) (h := none) hu hi hx (by simp [evo, hy]) rfl (okb_lo (by omega))
  simpa [hi_, lo_, hj] using this
theorem St.nilRes (h : St W F cs w) : St W F ([] :: cs) w := ⟨h.bel, h.imm, by simpa using h.own, by simpa using h.nd⟩
theorem shr_nat {a n : Nat} {j : Int} (hj : j = (n : Int)) (hn : n ≤ 64) : ((a : Int) / 2 ^ min j.toNat IntKind.i64.bits) = ((a / 2 ^ n : Nat) : Int) := by
  subst hj
  rw [Int.toNat_natCast, show min n IntKind.i64.bits = n from Nat.min_eq_left hn]
  simp
theorem string_eq {s : ByteArray} {l : List UInt8} (h : s.data.toList = l) : s = ⟨l.toArray⟩ := by
  cases s; subst h; simp
end
end B
end Go.Proofs.Ythejglgnoingfaa

namespace Go.Proofs.Ythejglgnoingfaa
open Go Go.RowKit
set_option linter.unusedVariables false
set_option linter.unusedSimpArgs false
namespace B
section
variable {P : Program} {Z : Post} {ks : List Fr} {N : Nat} {D : List Deferred} {sl : Sl} {W w : World} {ops : Array Oper} {rest : List Oper} {F G : Snap} {cs : List Res} {t T T' E : TypeId} {x y : Operand} {v zv : Value} {pos : String} {af : Array Edge} {bytes : Nat} {k : IntKind}
theorem yield_lk {a : Act} (ha : Ag N D sl a) {j u : Nat} {c : Bool} (hj : (ops[j]?).bind (·.dst) = some u) (hv : lk sl u = some (.bool c)) : yielded ops a.tmps j = some c := by
  have := ha.ag u _ hv
  unfold yielded
  rw [hj]
  simp [this]
/-- a guard that says yes -/
theorem WL.gon {dst : Option Nat} {op : Op} {j u : Nat} {c b : Bool} (hj : (ops[j]?).bind (·.dst) = some u) (hv : lk sl u = some (.bool c)) (hc : c = b)
    (h : WL P ops Z ks N D sl ({ dst := dst, op := op, type := t, pos := pos, after := af, guard := none } :: rest) w) :
    WL P ops Z ks N D sl ({ dst := dst, op := op, type := t, pos := pos, after := af, guard := some (j, b) } :: rest) w := fun a ha => by
  have h1 := h a ha
  have hy := yield_lk (ops := ops) ha hj hv
  subst hc
  unfold wpList at h1 ⊢
  rw [if_pos (by simp [Region.wanted])] at h1
  rw [if_pos (by simp [Region.wanted, hy])]
  exact h1
/-- a guard that says no -/
theorem WL.goff {d : Nat} {op : Op} {j u : Nat} {c b : Bool} (hj : (ops[j]?).bind (·.dst) = some u) (hv : lk sl u = some (.bool c)) (hc : c = !b) (hd : Nat.ble (d + 1) N = true)
    (h : WL P ops Z ks N D ((d, undef) :: sl) rest w) :
    WL P ops Z ks N D sl ({ dst := some d, op := op, type := t, pos := pos, after := af, guard := some (j, b) } :: rest) w := fun a ha => by
  have hy := yield_lk (ops := ops) ha hj hv
  unfold wpList
  rw [if_neg (by subst hc; simp [Region.wanted, hy])]
  exact h _ (ha.put (Nat.le_of_ble_eq_true hd) undef)
theorem WQ.gon {C : World → Prop} {Q : Act → Prop} {dst : Option Nat} {op : Op} {j u : Nat} {c b : Bool} (hj : (ops[j]?).bind (·.dst) = some u) (hv : lk sl u = some (.bool c)) (hc : c = b)
    (h : WQ P ops C Q N D sl ({ dst := dst, op := op, type := t, pos := pos, after := af, guard := none } :: rest)) :
    WQ P ops C Q N D sl ({ dst := dst, op := op, type := t, pos := pos, after := af, guard := some (j, b) } :: rest) := fun a ha => by
  have h1 := h a ha
  have hy := yield_lk (ops := ops) ha hj hv
  subst hc
  unfold wpQuiet at h1 ⊢
  rw [if_pos (by simp [Region.wanted])] at h1
  rw [if_pos (by simp [Region.wanted, hy])]
  exact h1
theorem WQ.goff {C : World → Prop} {Q : Act → Prop} {d : Nat} {op : Op} {j u : Nat} {c b : Bool} (hj : (ops[j]?).bind (·.dst) = some u) (hv : lk sl u = some (.bool c)) (hc : c = !b) (hd : Nat.ble (d + 1) N = true)
    (h : WQ P ops C Q N D ((d, undef) :: sl) rest) :
    WQ P ops C Q N D sl ({ dst := some d, op := op, type := t, pos := pos, after := af, guard := some (j, b) } :: rest) := fun a ha => by
  have hy := yield_lk (ops := ops) ha hj hv
  unfold wpQuiet
  rw [if_neg (by subst hc; simp [Region.wanted, hy])]
  exact h _ (ha.put (Nat.le_of_ble_eq_true hd) undef)
/-! bytes -/
theorem ofInt8 (a : UInt8) : BitVec.ofInt 8 (a.toNat : Int) = a.toBitVec := by simp
theorem wrap_u8_lt {n : Nat} (h : n < 256) : IntKind.u8.wrap (n : Int) = n := by rw [wrap_u8]; omega
variable {a b : UInt8}
theorem Runs.xor8 (hx : evs sl x = some (V8 a)) (hy : evs sl y = some (V8 b)) : Runs P sl (.binOp .xor T x y T') t w (V8 (a ^^^ b)) := by
  have := Runs.xor (P := P) (t := t) (w := w) (T := T) (T' := T') hx hy
  have e : IntKind.u8.wrap (BitVec.ofInt IntKind.u8.bits (a.toNat : Int) ^^^ BitVec.ofInt IntKind.u8.bits (b.toNat : Int)).toNat = ((a ^^^ b).toNat : Int) := by
    show IntKind.u8.wrap (BitVec.ofInt 8 (a.toNat : Int) ^^^ BitVec.ofInt 8 (b.toNat : Int)).toNat = _
    rw [ofInt8, ofInt8, wrap_u8_lt (a.toBitVec ^^^ b.toBitVec).isLt]; rfl
  rwa [e] at this
theorem Runs.or8 (hx : evs sl x = some (V8 a)) (hy : evs sl y = some (V8 b)) : Runs P sl (.binOp .or T x y T') t w (V8 (a ||| b)) := by
  have := Runs.or (P := P) (t := t) (w := w) (T := T) (T' := T') hx hy
  have e : IntKind.u8.wrap (BitVec.ofInt IntKind.u8.bits (a.toNat : Int) ||| BitVec.ofInt IntKind.u8.bits (b.toNat : Int)).toNat = ((a ||| b).toNat : Int) := by
    show IntKind.u8.wrap (BitVec.ofInt 8 (a.toNat : Int) ||| BitVec.ofInt 8 (b.toNat : Int)).toNat = _
    rw [ofInt8, ofInt8, wrap_u8_lt (a.toBitVec ||| b.toBitVec).isLt]; rfl
  rwa [e] at this
theorem Runs.and8 (hx : evs sl x = some (V8 a)) (hy : evs sl y = some (V8 b)) : Runs P sl (.binOp .and T x y T') t w (V8 (a &&& b)) := by
  have := Runs.and (P := P) (t := t) (w := w) (T := T) (T' := T') hx hy
  have e : IntKind.u8.wrap (BitVec.ofInt IntKind.u8.bits (a.toNat : Int) &&& BitVec.ofInt IntKind.u8.bits (b.toNat : Int)).toNat = ((a &&& b).toNat : Int) := by
    show IntKind.u8.wrap (BitVec.ofInt 8 (a.toNat : Int) &&& BitVec.ofInt 8 (b.toNat : Int)).toNat = _
    rw [ofInt8, ofInt8, wrap_u8_lt (a.toBitVec &&& b.toBitVec).isLt]; rfl
  rwa [e] at this
/-- the value, known -/
theorem Runs.boolT {op : Op} {b c : Bool} (h : Runs P sl op t w (.bool b)) (e : b = c) : Runs P sl op t w (.bool c) := e ▸ h
theorem Runs.eqlb {b c : Bool} (hu : P.underlying T = some .bool) (hx : evs sl x = some (.bool b)) (hy : evs sl y = some (.bool c)) : Runs P sl (.binOp .eql T x y T') t w (.bool (b == c)) := fun ρ h o ho _ => by
  have := run_eql_bool (P := P) w T b c hu
  simp only [execOp, ho, h _ _ hx, h _ _ hy, eqGuard]
  simp [this]
/-- a byte of a text -/
theorem Runs.sidx8 {s : ByteArray} {n : Nat} {j : Int} (hu : P.underlying T = some .string) (hx : evs sl x = some (.string s)) (hy : evs sl y = some (.int k j)) (hj : j = (n : Int)) (hn : n < s.size) : Runs P sl (.index T x y) t w (V8 (s.data.toList.getD n 0)) := by
  have := Runs.sindex (P := P) (t := t) (w := w) hu hx hy (by omega)
  have e : bt s j = ((s.data.toList.getD n 0).toNat : Int) := by
    subst hj
    unfold bt
    rw [Int.toNat_natCast, List.getD_eq_getElem?_getD, ← Array.getElem?_toList]
  rwa [e] at this
theorem string_ext {s u : ByteArray} (h : s.data.toList = u.data.toList) : s = u := by
  cases s; cases u; simpa using Array.toList_inj.1 h
end
end B
end Go.Proofs.Ythejglgnoingfaa

namespace Go.Proofs.Ythejglgnoingfaa
open Go Go.RowKit
set_option linter.unusedVariables false
set_option linter.unusedSimpArgs false
namespace B
/-- what a call hands back that makes a row: from now on nothing changes it -/
def Gives {α : Type} (W : World) (F : Snap) (cs : List Res) (f : α → Value) (xs : List α) (e : Ending) (w : World) : Prop :=
  ∃ G A cap, Le F G ∧ e = .returned (.slice A xs.length cap) ∧ xs.length ≤ cap ∧ RdS (Kd.one f) G A xs ∧ St W G cs w
theorem Row.gives {α : Type} {W w : World} {F : Snap} {cs : List Res} {E : TypeId} {f : α → Value} {r : Res} {v : Value} {xs : List α} (hr : Row E f r v xs) (h : St W F (r :: cs) w) : Gives W F cs f xs (.returned v) w := by
  obtain ⟨A, cap, rfl, hc⟩ := hr.val
  obtain ⟨G, h1, h2, h3⟩ := h.freeze (i := 0) rfl
  exact ⟨G, A, cap, h1, rfl, hc, Row.read hr rfl h2, h3⟩
theorem St.litRd {α : Type} {W w : World} {F : Snap} {cs : List Res} {f : α → Value} {xs : List α} {b : Nat} {tt : TypeId} {fz : Nat × Nat} (h : St W F ([(b, .cells (xs.map f).toArray tt fz)] :: cs) w) : ∃ G, Le F G ∧ RdS (Kd.one f) G (some ⟨b, 0, none⟩) xs ∧ St W G cs w := by
  obtain ⟨G, h1, h2, h3⟩ := h.freeze (i := 0) rfl
  refine ⟨G, h1, .inr ⟨_, rfl, fun i x hx => ⟨[f x], rfl, fun j v hv => ?_⟩⟩, h3⟩
  have hj : j = 0 := by
    rcases j with _ | j
    · rfl
    · simp at hv
  subst hj
  simp only [List.getElem?_cons_zero, Option.some.injEq] at hv
  subst hv
  have := h2 _ (List.mem_cons_self)
  show cellF G ((⟨b, 0, none⟩ : Addr).add (i * 1 + 0)) = some (f x)
  rw [add_mk, Nat.mul_one, Nat.add_zero, Nat.zero_add]
  unfold cellF
  simp only [this]
  simp [hx]
theorem St.litGives {α : Type} {W w : World} {F : Snap} {cs : List Res} {f : α → Value} {xs : List α} {b n : Nat} {tt : TypeId} {fz : Nat × Nat} (h : St W F ([(b, .cells (xs.map f).toArray tt fz)] :: cs) w) (hn : n = xs.length) : Gives W F cs f xs (.returned (.slice (some ⟨b, 0, none⟩) n n)) w := by
  subst hn
  obtain ⟨G, h1, h2, h3⟩ := h.litRd
  exact ⟨G, _, _, h1, rfl, Nat.le_refl _, h2, h3⟩
theorem Row.some {α : Type} {E : TypeId} {f : α → Value} {r : Res} {A : Option Addr} {n cap : Nat} {xs : List α} (hr : Row E f r (.slice A n cap) xs) (h0 : 0 < xs.length) : ∃ ad, A = .some ad := by
  rcases hr with ⟨_, _, hl, _⟩ | ⟨b, cap', arr, fz, _, hv, _⟩
  · omega
  · injection hv with hA; exact ⟨_, hA⟩
section
variable {P : Program} {sl : Sl} {w : World} {t T T' : TypeId} {x y : Operand} {k : IntKind}
/-- an element of a row of the call's own -/
theorem Runs.loadRow {α : Type} {W : World} {F : Snap} {cs : List Res} {E : TypeId} {f : α → Value} {r : Res} {ad : Addr} {m cap n : Nat} {xs : List α} {d : TypeDesc} (d0 : α) (h : St W F cs w) (i : Nat) (hi : cs[i]? = .some r) (hr : Row E f r (.slice (.some ad) m cap) xs) (hn : n < xs.length) (hu : P.underlying T = .some d) (hs : scal d = true) (hx : evs sl x = .some (.pointer (.some (ad.add n)))) :
    Runs P sl (.load T x) t w (f (xs.getD n d0)) := by
  rcases hr.wcell h hi rfl with e | ⟨ad', e, hc⟩
  · rw [e] at hn; simp at hn
  · injection e with e
    subst e
    refine Runs.load1 hu hs hx (hc n _ ?_)
    rw [List.getD_eq_getElem?_getD, List.getElem?_eq_getElem hn]; rfl
theorem Runs.lsl_lh {E : TypeId} {zv : Value} {sz bytes : Nat} {z : Operand} {A : Option Addr} {len cap n m : Nat} {j j' : Int} (hu : P.underlying T = .some (.slice E)) (hi : Inf P E zv sz bytes) (hx : evs sl x = .some (.slice A len cap)) (hy : evs sl y = .some (.int .i64 j)) (hz : evs sl z = .some (.int .i64 j')) (hj : j = (n : Int)) (hj' : j' = (m : Int)) (hn : n ≤ m) (hm : m ≤ cap) :
    Runs P sl (.slice T x (.some y) (.some z) none) t w (.slice (if cap = n then A else A.map (·.add (n * sz))) (m - n) (cap - n)) := by
  have := Runs.lsl (t := t) (w := w) (lo := .some y) (hi' := .some z) (l := .some j) (h := .some j') hu hi hx (by simp [evo, hy]) (by simp [evo, hz]) (okb_lh (len := len) (by omega) (by omega))
  simpa [hi_, lo_, hj, hj'] using this
/-- the number, in another form -/
theorem Runs.intT {op : Op} {m n : Int} (h : Runs P sl op t w (.int k m)) (e : m = n) : Runs P sl op t w (.int k n) := e ▸ h
theorem Runs.strT {op : Op} {a b : ByteArray} (h : Runs P sl op t w (.string a)) (e : a = b) : Runs P sl op t w (.string b) := e ▸ h
theorem Runs.u8toI {c : UInt8} (hu : P.underlying T = some (.int .u8)) (hu' : P.underlying T' = some (.int .i64)) (hx : evs sl x = some (V8 c)) : Runs P sl (.convert T T' x) t w (.int .i64 (c.toNat : Int)) := by
  have := Runs.toInt (P := P) (t := t) (w := w) hu hu' hx
  rwa [wrap64_in ⟨by omega, by have := c.toNat_lt; omega⟩] at this
theorem ofInt64 (n : Nat) (h : n < 4294967296) : (BitVec.ofInt 64 (n : Int)).toNat = n := by
  rw [BitVec.toNat_ofInt]; omega
theorem Runs.xorN {m n : Nat} (hm : m < 4294967296) (hn : n < 4294967296) (hx : evs sl x = some (.int .i64 (m : Int))) (hy : evs sl y = some (.int .i64 (n : Int))) : Runs P sl (.binOp .xor T x y T') t w (.int .i64 ((m ^^^ n : Nat) : Int)) := by
  have := Runs.xor (P := P) (t := t) (w := w) (T := T) (T' := T') hx hy
  have hb : m ^^^ n < 2 ^ 32 := Nat.xor_lt_two_pow hm hn
  have e : (BitVec.ofInt IntKind.i64.bits (m : Int) ^^^ BitVec.ofInt IntKind.i64.bits (n : Int)).toNat = m ^^^ n := by
    rw [BitVec.toNat_xor]
    show (BitVec.ofInt 64 (m : Int)).toNat ^^^ (BitVec.ofInt 64 (n : Int)).toNat = _
    rw [ofInt64 _ hm, ofInt64 _ hn]
  rw [e, wrap64_in ⟨by omega, by omega⟩] at this
  exact this
theorem Runs.andN {m n : Nat} (hm : m < 4294967296) (hn : n < 4294967296) (hx : evs sl x = some (.int .i64 (m : Int))) (hy : evs sl y = some (.int .i64 (n : Int))) : Runs P sl (.binOp .and T x y T') t w (.int .i64 ((m &&& n : Nat) : Int)) := by
  have := Runs.and (P := P) (t := t) (w := w) (T := T) (T' := T') hx hy
  have hb : m &&& n < 2 ^ 32 := Nat.and_lt_two_pow m hn
  have e : (BitVec.ofInt IntKind.i64.bits (m : Int) &&& BitVec.ofInt IntKind.i64.bits (n : Int)).toNat = m &&& n := by
    rw [BitVec.toNat_and]
    show (BitVec.ofInt 64 (m : Int)).toNat &&& (BitVec.ofInt 64 (n : Int)).toNat = _
    rw [ofInt64 _ hm, ofInt64 _ hn]
  rw [e, wrap64_in ⟨by omega, by omega⟩] at this
  exact this
theorem Runs.xorB {a b : UInt8} (hx : evs sl x = .some (.int .i64 (a.toNat : Int))) (hy : evs sl y = .some (.int .i64 (b.toNat : Int))) : Runs P sl (.binOp .xor T x y T') t w (.int .i64 ((a ^^^ b).toNat : Int)) := by
  have ha := a.toNat_lt; have hb := b.toNat_lt
  have := Runs.xorN (P := P) (t := t) (w := w) (T := T) (T' := T') (m := a.toNat) (n := b.toNat) (by omega) (by omega) hx hy
  rwa [← UInt8.toNat_xor] at this
/-- a word, a byte, as 'int' -/
abbrev VI (x : BitVec 32) : Value := .int .i64 (x.toNat : Int)
abbrev VB (x : UInt8) : Value := .int .i64 (x.toNat : Int)
theorem Runs.xorI {a b : BitVec 32} (hx : evs sl x = some (VI a)) (hy : evs sl y = some (VI b)) : Runs P sl (.binOp .xor T x y T') t w (VI (a ^^^ b)) := by
  have := Runs.xorN (P := P) (t := t) (w := w) (T := T) (T' := T') a.isLt b.isLt hx hy
  rwa [← BitVec.toNat_xor] at this
theorem Runs.andI {a b : BitVec 32} (hx : evs sl x = some (VI a)) (hy : evs sl y = some (VI b)) : Runs P sl (.binOp .and T x y T') t w (VI (a &&& b)) := by
  have := Runs.andN (P := P) (t := t) (w := w) (T := T) (T' := T') a.isLt b.isLt hx hy
  rwa [← BitVec.toNat_and] at this
/-- 2^32 - 1 less a word -/
theorem Runs.notI {a : BitVec 32} (hx : evs sl x = some (VI a)) : Runs P sl (.binOp .sub T (.const (.int .i64 4294967295)) x T') t w (VI (~~~a)) := by
  have := Runs.subn (P := P) (t := t) (w := w) (T := T) (T' := T') (x := .const (.int .i64 4294967295)) rfl hx ⟨by have := a.isLt; omega, by have := a.isLt; omega⟩
  refine Runs.intT this ?_
  rw [BitVec.toNat_not]
  have := a.isLt
  omega
end
end B
end Go.Proofs.Ythejglgnoingfaa
