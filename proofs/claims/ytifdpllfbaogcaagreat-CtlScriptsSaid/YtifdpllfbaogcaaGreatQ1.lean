/- Joined texts: BaseA .. BaseU. -/
import Derived.Test.YtifdpllfbaogcaaGreatProg
import Derived.WalkKit
import Derived.Deep.LoopGhost
import Derived.Deep.Quiet
import Derived.KernelRfl
import Derived.StillTail
import Derived.Maps.RangeRun
import Derived.Laws.Tables
import Derived.ChangeArms
import Derived.Deep.Slices
import Derived.Laws.MakeOwn
import Derived.RangeFuncCalls
import Derived.Scope
import Derived.Defers
import Derived.Recover
set_option linter.unusedVariables false
set_option linter.unusedSimpArgs false
set_option maxRecDepth 100000
set_option maxHeartbeats 32000000
namespace Go.Proofs.YtifdpllfbaogcaaGreat
open Go Go.RowKit
namespace B
abbrev Sl := List (Nat × Value)
def lk : Sl → Nat → Option Value
 |[], _ => none
 |(k, v) :: r, d => match Nat.beq k d with | true => some v | false => lk r d
def evs (sl : Sl) : Operand → Option Value
 |.tmp t => lk sl t
 |.const v => some v
 |.global g => some (.pointer (some ⟨g, 0, none⟩))
 |.func f => some (.func (.func f) #[] #[])
structure Ag (N : Nat) (D : List Deferred) (sl : Sl) (a : Act) : Prop where
 df : a.defers = D
 sz : a.tmps.size = N
 ag : ∀ d v, lk sl d = some v → a.tmps[d]? = some v
def Sub : Sl → Sl → Prop
 |[], _ => True
 |(d, v) :: r, sl => lk sl d = some v ∧ Sub r sl
theorem Sub.lk {s sl : Sl} (h : Sub s sl) {d : Nat} {v : Value} (hl : lk s d = some v) : B.lk sl d = some v := by
 induction s with
 |nil => simp [B.lk] at hl
 |cons p r ih =>
  obtain ⟨k, u⟩ := p
  obtain ⟨h1, h2⟩ := h
  unfold B.lk at hl
  by_cases e : k = d
  ·subst e
   rw [show Nat.beq k k = true from Nat.beq_refl k] at hl
   simp only [Option.some.injEq] at hl
   subst hl; exact h1
  rw [show Nat.beq k d = false from by
   cases h : Nat.beq k d with
   |false => rfl
   |true => exact absurd (Nat.eq_of_beq_eq_true h) e] at hl
  exact ih h2 hl
theorem Ag.ev {N : Nat} {D : List Deferred} {sl : Sl} {a : Act} (h : Ag N D sl a) {x : Operand} {v : Value} (hx : evs sl x = some v) : a.eval x = v := by
 cases x with
 |tmp t =>
  have := h.ag t v hx
  simp [Act.eval, Array.getD_eq_getD_getElem?, this]
 |const c => simpa [evs, Act.eval] using hx
 |global g => simpa [evs, Act.eval] using hx
 |func f => simpa [evs, Act.eval] using hx
theorem Ag.put {N : Nat} {D : List Deferred} {sl : Sl} {a : Act} (h : Ag N D sl a) {d : Nat} (hd : d < N) (v : Value) : Ag N D ((d, v) :: sl) (a.put (some d) v) := by
 refine ⟨h.df, by simp [Act.put, h.sz], fun e u hl => ?_⟩
 unfold lk at hl
 by_cases e' : d = e
 ·subst e'
  rw [show Nat.beq d d = true from Nat.beq_refl d] at hl
  simp only [Option.some.injEq] at hl
  subst hl
  simp [Act.put, h.sz, hd]
 rw [show Nat.beq d e = false from by
  cases hh : Nat.beq d e with
  |false => rfl
  |true => exact absurd (Nat.eq_of_beq_eq_true hh) e'] at hl
 have := h.ag e u hl
 simp only [Act.put]
 rw [Array.getElem?_setIfInBounds_ne (by omega)]
 exact this
theorem Ag.sub {N : Nat} {D : List Deferred} {s sl : Sl} {a : Act} (h : Ag N D sl a) (hs : Sub s sl) : Ag N D s a :=
 ⟨h.df, h.sz, fun d v hl => h.ag d v (hs.lk hl)⟩
inductive Fr where
 |thn (c : Code)
 |blk (id : Nat)
 |cut (R : Act → World → Prop)
abbrev Post := Exit → Act → World → Prop
def den (P : Program) (Z : Post) : List Fr → Post
 |[] => Z
 |.thn c :: ks => Exit.then (fun a w => c.wp P (den P Z ks) a w) (den P Z ks)
 |.blk id :: ks => Exit.inBlock id (den P Z ks)
 |.cut R :: ks => Exit.then R (den P Z ks)
section
variable {P : Program} {Z : Post} {ks : List Fr} {N : Nat} {D : List Deferred} {sl : Sl} {w : World} {ops : Array Oper} {rest : List Oper}
def WC (P : Program) (Z : Post) (ks : List Fr) (N : Nat) (D : List Deferred) (sl : Sl) (c : Code) (w : World) : Prop := ∀ a, Ag N D sl a → c.wp P (den P Z ks) a w
def WN (P : Program) (Z : Post) (ks : List Fr) (N : Nat) (D : List Deferred) (sl : Sl) (w : World) : Prop := ∀ a, Ag N D sl a → den P Z ks .normal a w
def WX (P : Program) (Z : Post) (ks : List Fr) (N : Nat) (D : List Deferred) (sl : Sl) (id : Nat) (w : World) : Prop := ∀ a, Ag N D sl a → den P Z ks (.exit id) a w
def WL (P : Program) (ops : Array Oper) (Z : Post) (ks : List Fr) (N : Nat) (D : List Deferred) (sl : Sl) (rest : List Oper) (w : World) : Prop :=
 ∀ a, Ag N D sl a → wpList P ops (den P Z ks) rest a w
theorem N0 {x y : Code} (h : WC P Z (.thn y :: ks) N D sl x w) : WC P Z ks N D sl (.seq x y) w := fun a ha => wp_seq (h a ha)
theorem M1 {id : Nat} {c : Code} (h : WC P Z (.blk id :: ks) N D sl c w) : WC P Z ks N D sl (.block id c) w := fun a ha => wp_block (h a ha)
theorem U0 (h : WN P Z ks N D sl w) : WC P Z ks N D sl .skip w := fun a ha => wp_skip (h a ha)
theorem U1 {id : Nat} (h : WX P Z ks N D sl id w) : WC P Z ks N D sl (.exit id) w := fun a ha => wp_exit (h a ha)
theorem Z0 {c : Operand} {x y : Code} {t : Bool} (hc : evs sl c = some (.bool t)) (ht : t = true → WC P Z ks N D sl x w) (hf : t = false → WC P Z ks N D sl y w) : WC P Z ks N D sl (.cond c x y) w :=
 fun a ha => wp_cond_split (ha.ev hc) (fun h => ht h a ha) (fun h => hf h a ha)
theorem J1 {c : Operand} {x y : Code} {t : Bool} (hc : evs sl c = some (.bool t)) (e : t = true) (h : WC P Z ks N D sl x w) : WC P Z ks N D sl (.cond c x y) w :=
 Z0 hc (fun _ => h) (fun e' => by rw [e] at e'; cases e')
theorem E1 {c : Operand} {x y : Code} {t : Bool} (hc : evs sl c = some (.bool t)) (e : t = false) (h : WC P Z ks N D sl y w) : WC P Z ks N D sl (.cond c x y) w :=
 Z0 hc (fun e' => by rw [e] at e'; cases e') (fun _ => h)
theorem L0 {id : Nat} {l : List Oper} (h : WL P l.toArray Z ks N D sl l w) : WC P Z ks N D sl (.region id l.toArray false) w := fun a ha => wp_region_lit (h a ha)
theorem WC.sub {s : Sl} {c : Code} (hs : Sub s sl) (h : WC P Z ks N D s c w) : WC P Z ks N D sl c w := fun a ha => h a (ha.sub hs)
theorem H0 {y : Code} (h : WC P Z ks N D sl y w) : WN P Z (.thn y :: ks) N D sl w := h
theorem N1 {id : Nat} (h : WN P Z ks N D sl w) : WN P Z (.blk id :: ks) N D sl w := h
theorem WN.cut {R : Act → World → Prop} (h : ∀ a, Ag N D sl a → R a w) : WN P Z (.cut R :: ks) N D sl w := h
theorem B2 {y : Code} {id : Nat} (h : WX P Z ks N D sl id w) : WX P Z (.thn y :: ks) N D sl id w := h
theorem WX.cut {R : Act → World → Prop} {id : Nat} (h : WX P Z ks N D sl id w) : WX P Z (.cut R :: ks) N D sl id w := h
theorem E2 {id : Nat} (h : WN P Z ks N D sl w) : WX P Z (.blk id :: ks) N D sl id w := fun a ha => by
 show Exit.inBlock id (den P Z ks) (.exit id) a w
 simp only [Exit.inBlock, if_true]
 exact h a ha
theorem C6 {id id' : Nat} (hne : Nat.beq id id' = false) (h : WX P Z ks N D sl id w) : WX P Z (.blk id' :: ks) N D sl id w := fun a ha => by
 show Exit.inBlock id' (den P Z ks) (.exit id) a w
 have : id ≠ id' := fun e => by subst e; rw [Nat.beq_refl] at hne; cases hne
 simp only [Exit.inBlock, if_neg this]; exact h a ha
theorem den_ret : ∀ (ks : List Fr) (a : Act) (w : World), Z .ret a w → den P Z ks .ret a w
 |[], _, _, h => h
 |.thn _ :: ks, a, w, h => den_ret ks a w h
 |.blk _ :: ks, a, w, h => den_ret ks a w h
 |.cut _ :: ks, a, w, h => den_ret ks a w h
theorem den_panic (ch : List PanicEntry) : ∀ (ks : List Fr) (a : Act) (w : World), Z (.panic ch) a w → den P Z ks (.panic ch) a w
 |[], _, _, h => h
 |.thn _ :: ks, a, w, h => den_panic ch ks a w h
 |.blk _ :: ks, a, w, h => den_panic ch ks a w h
 |.cut _ :: ks, a, w, h => den_panic ch ks a w h
theorem O1 (h : ∀ a, Ag N D sl a → Z .ret a w) : WC P Z ks N D sl .ret w := fun a ha => wp_ret (den_ret ks a w (h a ha))
theorem Q6 {σ : Type} {S : σ → Sl} {J : σ → World → Prop} (s : σ) (hs : Sub (S s) sl) (hj : J s w) : WN P Z (.cut (fun a' w' => ∃ s, Ag N D (S s) a' ∧ J s w') :: ks) N D sl w :=
 WN.cut fun _ ha => ⟨s, ha.sub hs, hj⟩
theorem N4 {σ : Type} {c : Code} (S : σ → Sl) (J : σ → World → Prop) (m : σ → Nat) (s0 : σ) (hs : Sub (S s0) sl) (hj : J s0 w)
  (round : ∀ s w, J s w → WC P Z (.cut (fun a' w' => ∃ s', m s' < m s ∧ Ag N D (S s') a' ∧ J s' w') :: ks) N D (S s) c w) : WC P Z ks N D sl (.loop c) w := fun a ha => by
 refine wp_loop_ghost (fun n a' w' => ∃ s, m s = n ∧ Ag N D (S s) a' ∧ J s w') (m s0) ⟨s0, rfl, ha.sub hs, hj⟩ fun n a' w' ⟨s, hn, ha', hj'⟩ =>wp_mono (round s w' hj' a' ha') fun e a2 w2 q => ?_
 cases e with
 |normal =>
  obtain ⟨s', hm, h1, h2⟩ := q
  exact ⟨m s', hn ▸ hm, s', rfl, h1, h2⟩
 |_ => exact q
theorem F1 {σ : Type} {S : σ → Sl} {J : σ → World → Prop} {m : σ → Nat} {s : σ} (s' : σ) (hm : m s' < m s) (hs : Sub (S s') sl) (hj : J s' w) :
  WN P Z (.cut (fun a' w' => ∃ s', m s' < m s ∧ Ag N D (S s') a' ∧ J s' w') :: ks) N D sl w := WN.cut fun _ ha => ⟨s', hm, ha.sub hs, hj⟩
def slots : Nat → List Value → Sl
 |_, [] => []
 |i, v :: r => (i, v) :: slots (i + 1) r
theorem lk_slots : ∀ (l : List Value) (i d : Nat) (v : Value), lk (slots i l) d = some v → ∃ j, d = i + j ∧ l[j]? = some v
 |[], _, _, _, h => by simp [slots, lk] at h
 |u :: r, i, d, v, h => by
  unfold slots lk at h
  by_cases e : i = d
  ·subst e
   rw [show Nat.beq i i = true from Nat.beq_refl i] at h
   exact ⟨0, by omega, by simpa using h⟩
  rw [show Nat.beq i d = false from by
   cases hh : Nat.beq i d with
   |false => rfl
   |true => exact absurd (Nat.eq_of_beq_eq_true hh) e] at h
  obtain ⟨j, hj, hv⟩ := lk_slots r (i + 1) d v h
  exact ⟨j + 1, by omega, by simpa using hv⟩
theorem enter {f : FuncId} {fn : Func} {c : Code} {args : List Value} {R : Ending → World → Prop} (hf : P.funcs[f]? = some fn) (hb : fn.body = some c) (hN : fn.ntmps = N) (hn : Nat.ble args.length N = true)
  (h : WC P (bodyPost P fn R) [] N [] (slots 0 args) c w) : Calls P f args.toArray w R := by
 have hn := Nat.le_of_ble_eq_true hn
 refine calls_of_wp hf hb (h _ ⟨rfl, by simp [hN]; omega, fun d v hl => ?_⟩)
 obtain ⟨j, hj, hv⟩ := lk_slots args 0 d v hl
 have hlt : j < args.length := (List.getElem?_eq_some_iff.1 hv).1
 simp only [Nat.zero_add] at hj
 subst hj
 rw [Array.getElem?_append_left (by simpa using hlt)]
 simpa using hv
theorem ret0 {fn : Func} {R : Ending → World → Prop} (hr : fn.results = #[]) (hR : R (.returned (.tuple #[])) w) : ∀ a, Ag N [] sl a → bodyPost P fn R .ret a w :=
 fun a ha => ⟨ha.df, .tuple #[], results_none hr _ _ _, hR⟩
theorem end0 {fn : Func} {R : Ending → World → Prop} (hr : fn.results = #[]) (hR : R (.returned (.tuple #[])) w) : WN P (bodyPost P fn R) [] N [] sl w :=
 fun a ha => ⟨ha.df, .tuple #[], results_none hr _ _ _, hR⟩
theorem ret1 {fn : Func} {R : Ending → World → Prop} {t : Tmp} {v : Value} (hr : fn.results = #[.tmp t]) (hv : lk sl t = some v) (hR : R (.returned v) w) : ∀ a, Ag N [] sl a → bodyPost P fn R .ret a w :=
 fun a ha => ⟨ha.df, v, by rw [results_tmp hr]; have := ha.ag t v hv; simp [Array.getD_eq_getD_getElem?, this], hR⟩
theorem ret2 {fn : Func} {R : Ending → World → Prop} {t u : Tmp} {v x : Value} (hr : fn.results = #[.tmp t, .tmp u]) (hv : lk sl t = some v) (hx : lk sl u = some x) (hR : R (.returned (.tuple #[v, x])) w) : ∀ a, Ag N [] sl a → bodyPost P fn R .ret a w :=
 fun a ha => ⟨ha.df, .tuple #[v, x], by rw [results_tmp2 hr]; have h1 := ha.ag t v hv; have h2 := ha.ag u x hx; simp [Array.getD_eq_getD_getElem?, h1, h2], hR⟩
def Runs (P : Program) (sl : Sl) (op : Op) (t : TypeId) (w : World) (v : Value) : Prop :=
 ∀ ρ : Operand → Value, (∀ x v, evs sl x = some v → ρ x = v) → ∀ o : Oper, o.op = op → o.type = t → (execOp ρ o).run P w = .ok (.value v) w
theorem J0 (h : WN P Z ks N D sl w) : WL P ops Z ks N D sl [] w := fun a ha => wpList_nil (h a ha)
theorem I0 {d : Nat} {op : Op} {t : TypeId} {pos : String} {af : Array Edge} {v : Value} (h : Runs P sl op t w v) (hd : Nat.ble (d + 1) N = true) (k : WL P ops Z ks N D ((d, v) :: sl) rest w) :
  WL P ops Z ks N D sl ({ dst := some d, op := op, type := t, pos := pos, after := af, guard := none } :: rest) w := fun a ha =>
 wpList_plain rfl fun K hK => by
  unfold Oper.wp
  rw [h a.eval (fun x v hx => ha.ev hx) _ rfl rfl]
  exact hK _ _ (k _ (ha.put (Nat.le_of_ble_eq_true hd) v))
def Can (P : Program) (f : FuncId) : Prop := ∃ fn, P.funcs[f]? = some fn ∧ (fn.name == "runtime.NumGoroutine") = false ∧ fn.body.isNone = false
def args_ (sl : Sl) : List Operand → Option (List Value)
 |[] => some []
 |x :: r => match evs sl x, args_ sl r with | some v, some l => some (v :: l) | _, _ => none
theorem args_spec {ρ : Operand → Value} (hρ : ∀ x v, evs sl x = some v → ρ x = v) : ∀ (xs : List Operand) (vs : List Value), args_ sl xs = some vs → xs.map ρ = vs
 |[], vs, h => by simp [args_] at h; simp [h]
 |x :: r, vs, h => by
  unfold args_ at h
  cases h1 : evs sl x with
  |none => rw [h1] at h; simp at h
  |some v =>
   cases h2 : args_ sl r with
   |none => rw [h1, h2] at h; simp at h
   |some l =>
    rw [h1, h2] at h
    simp only [Option.some.injEq] at h
    subst h
    simp [hρ x v h1, args_spec hρ r l h2]
theorem run_callFunc {f : FuncId} (hc : Can P f) (av : Array Value) : (callFunc f av).run P w = .ok (.enter f av) w := by
 obtain ⟨fn, h1, h2, h3⟩ := hc
 have h2' : ¬ fn.name = "runtime.NumGoroutine" := by simpa using h2
 have h3' : ¬ fn.body = none := fun e => by rw [e] at h3; cases h3
 simp [callFunc, program, Sem.run, bind, Sem.bind, h1, h2', h3', pure]
theorem exec_call {f : FuncId} (hc : Can P f) {ρ : Operand → Value} {xs : List Operand} {vs : List Value} {ts : Array TypeId} {o : Oper} (ho : o.op = .call { callee := .value (.func f), args := xs.toArray, argTypes := ts })
  (hf : ρ (.func f) = .func (.func f) #[] #[]) (hv : xs.map ρ = vs) : (execOp ρ o).run P w = .ok (.enter f vs.toArray) w := by
 have := run_callFunc (w := w) hc vs.toArray
 simp [execOp, ho, resolve, hf, Deferred.ofValue, invoke, bind, Sem.bind, pure, hv, this]
theorem V1 {d : Nat} {f : FuncId} {xs : List Operand} {vs : List Value} {ts : Array TypeId} {t : TypeId} {pos : String} {af : Array Edge} {R : Ending → World → Prop} (hc : Can P f) (hv : args_ sl xs = some vs) (hd : Nat.ble (d + 1) N = true)
  (c : Calls P f vs.toArray w R) (k : ∀ e w', R e w' → ∃ v, e = .returned v ∧ WL P ops Z ks N D ((d, v) :: sl) rest w') :
  WL P ops Z ks N D sl ({ dst := some d, op := .call { callee := .value (.func f), args := xs.toArray, argTypes := ts }, type := t, pos := pos, after := af, guard := none } :: rest) w := fun a ha =>
 wpList_plain rfl fun K hK => by
  unfold Oper.wp
  rw [exec_call hc rfl rfl (args_spec (fun x v hx => ha.ev hx) xs vs hv)]
  refine c.mono fun e w' hr => ?_
  obtain ⟨v, rfl, hk⟩ := k e w' hr
  exact hK _ _ (hk _ (ha.put (Nat.le_of_ble_eq_true hd) v))
end
theorem lz {α : Type} {a b : α} {l : List α} : (a :: l).set 0 b = b :: l := List.set_cons_zero
theorem ls {α : Type} {a b : α} {l : List α} {n : Nat} : (a :: l).set (n + 1) b = a :: l.set n b := List.set_cons_succ
theorem ez {α : Type} {a : α} {l : List α} : (a :: l).eraseIdx 0 = l := List.eraseIdx_cons_zero
theorem es' {α : Type} {a : α} {l : List α} {n : Nat} : (a :: l).eraseIdx (n + 1) = a :: l.eraseIdx n := List.eraseIdx_cons_succ
theorem dt {p : Prop} [Decidable p] : (decide p = true) = p := decide_eq_true_eq
theorem df {p : Prop} [Decidable p] : decide p = false ↔ ¬ p := decide_eq_false_iff_not
theorem nt {b : Bool} : ((!b) = true) = (b = false) := Bool.not_eq_true' b
theorem nf {b : Bool} : ((!b) = false) = (b = true) := Bool.not_eq_false' b
theorem ba (a b : Bool) : ((a && b) = true) = (a = true ∧ b = true) := Bool.and_eq_true a b
theorem il {a b : Int} : ¬ a < b ↔ b ≤ a := Int.not_lt
theorem ie {a b : Int} : ¬ a ≤ b ↔ b < a := Int.not_le
end B
end Go.Proofs.YtifdpllfbaogcaaGreat
namespace Go.Proofs.YtifdpllfbaogcaaGreat
open Go Go.RowKit
namespace B
section
variable {P : Program} {sl : Sl} {w : World} {t T T' : TypeId} {x y z : Operand} {k : IntKind} {m n : Int} {v : Value}
theorem C3 (hx : evs sl x = some v) : Runs P sl (.move x) t w v := fun ρ h o ho _ => by simp [execOp, ho, h x v hx, pure, Sem.run]
theorem Runs.assign (hx : evs sl x = some v) : Runs P sl (.assign x) t w v := fun ρ h o ho _ => by simp [execOp, ho, h x v hx, pure, Sem.run]
theorem X6 {c : Operand} {b : Bool} {u v : Value} (hc : evs sl c = some (.bool b)) (hx : evs sl x = some u) (hy : evs sl y = some v) : Runs P sl (.pick c x y) t w (if b then u else v) := fun ρ h o ho _ => by
 cases b <;> simp [execOp, ho, h _ _ hc, h _ _ hx, h _ _ hy, pure, Sem.run, asBool, bind, Sem.bind]
theorem Runs.add (hx : evs sl x = some (.int k m)) (hy : evs sl y = some (.int k n)) : Runs P sl (.binOp .add T x y T') t w (.int k (k.wrap (m + n))) := fun ρ h o ho _ => by
 simp [execOp, ho, h _ _ hx, h _ _ hy, eqGuard, binOp, Op.intArith, pure, Sem.run, bind, Sem.bind]
theorem Runs.sub (hx : evs sl x = some (.int k m)) (hy : evs sl y = some (.int k n)) : Runs P sl (.binOp .sub T x y T') t w (.int k (k.wrap (m - n))) := fun ρ h o ho _ => by
 simp [execOp, ho, h _ _ hx, h _ _ hy, eqGuard, binOp, Op.intArith, pure, Sem.run, bind, Sem.bind]
theorem I6 (hx : evs sl x = some (.int k m)) (hy : evs sl y = some (.int k n)) : Runs P sl (.binOp .mul T x y T') t w (.int k (k.wrap (m * n))) := fun ρ h o ho _ => by
 simp [execOp, ho, h _ _ hx, h _ _ hy, eqGuard, binOp, Op.intArith, pure, Sem.run, bind, Sem.bind]
theorem wrap64_in {m : Int} (h : -9223372036854775808 ≤ m ∧ m ≤ 9223372036854775807) : IntKind.i64.wrap m = m := by
 simp only [IntKind.wrap, IntKind.bits, IntKind.signed, Bool.true_and, decide_eq_true_eq]
 simp only [show (2 : Int) ^ 64 = 18446744073709551616 from rfl, show (2 : Int) ^ (64 - 1) = 9223372036854775808 from rfl]
 split <;> rename_i h' <;> simp only [decide_eq_true_eq, ge_iff_le, Int.not_le] at h' <;> omega
theorem ibeq (m n : Int) : (m == n) = decide (m = n) := by rw [Bool.eq_iff_iff]; simp
theorem V0 {x y : Operand} {m n : Int} (hx : evs sl x = some (.int .i64 m)) (hy : evs sl y = some (.int .i64 n)) (hb : -9223372036854775808 ≤ m + n ∧ m + n ≤ 9223372036854775807) : Runs P sl (.binOp .add T x y T') t w (.int .i64 (m + n)) := by
 have := Runs.add (P := P) (t := t) (w := w) (T := T) (T' := T') hx hy; rwa [wrap64_in hb] at this
theorem N3 {x y : Operand} {m n : Int} (hx : evs sl x = some (.int .i64 m)) (hy : evs sl y = some (.int .i64 n)) (hb : -9223372036854775808 ≤ m - n ∧ m - n ≤ 9223372036854775807) : Runs P sl (.binOp .sub T x y T') t w (.int .i64 (m - n)) := by
 have := Runs.sub (P := P) (t := t) (w := w) (T := T) (T' := T') hx hy; rwa [wrap64_in hb] at this
theorem B4 {x y : Operand} {m n : Int} (hx : evs sl x = some (.int .i64 m)) (hy : evs sl y = some (.int .i64 n)) (hb : -9223372036854775808 ≤ m * n ∧ m * n ≤ 9223372036854775807) : Runs P sl (.binOp .mul T x y T') t w (.int .i64 (m * n)) := by
 have := I6 (P := P) (t := t) (w := w) (T := T) (T' := T') hx hy; rwa [wrap64_in hb] at this
theorem Z5 {x y : Operand} {m n : Int} (hx : evs sl x = some (.int .i64 m)) (hy : evs sl y = some (.int .i64 n)) (hm : 0 ≤ m ∧ m ≤ 9223372036854775807) (hn : 0 < n) : Runs P sl (.binOp .quo T x y T') t w (.int .i64 (m / n)) := fun ρ h o ho _ => by
 have e1 : m.tdiv n = m / n := Int.tdiv_eq_ediv_of_nonneg hm.1
 have e2 : IntKind.i64.wrap (m / n) = m / n := wrap64_in ⟨by have := Int.ediv_nonneg hm.1 (Int.le_of_lt hn); omega, by have := Int.ediv_le_self n hm.1; omega⟩
 simp [execOp, ho, h _ _ hx, h _ _ hy, eqGuard, binOp, Op.intDiv, pure, Sem.run, bind, Sem.bind, show ¬ n = 0 by omega, e1, e2]
theorem J5 {x y : Operand} {k : IntKind} {m n : Int} (hx : evs sl x = some (.int k m)) (hy : evs sl y = some (.int k n)) (hm : 0 ≤ m) (hn : 0 < n) : Runs P sl (.binOp .rem T x y T') t w (.int k (m % n)) := fun ρ h o ho _ => by
 have e1 : m.tmod n = m % n := Int.tmod_eq_emod_of_nonneg hm
 simp [execOp, ho, h _ _ hx, h _ _ hy, eqGuard, binOp, Op.intDiv, pure, Sem.run, bind, Sem.bind, show ¬ n = 0 by omega, e1]
theorem Q1 (hx : evs sl x = some (.int k m)) (hy : evs sl y = some (.int k n)) : Runs P sl (.binOp .lss T x y T') t w (.bool (decide (m < n))) := fun ρ h o ho _ => by
 simp [execOp, ho, h _ _ hx, h _ _ hy, eqGuard, binOp, Op.intCmp, pure, Sem.run, bind, Sem.bind]
theorem Z1 (hx : evs sl x = some (.int k m)) (hy : evs sl y = some (.int k n)) : Runs P sl (.binOp .leq T x y T') t w (.bool (decide (m ≤ n))) := fun ρ h o ho _ => by
 simp [execOp, ho, h _ _ hx, h _ _ hy, eqGuard, binOp, Op.intCmp, pure, Sem.run, bind, Sem.bind]
theorem Y1 (hx : evs sl x = some (.int k m)) (hy : evs sl y = some (.int k n)) : Runs P sl (.binOp .gtr T x y T') t w (.bool (decide (n < m))) := fun ρ h o ho _ => by
 simp [execOp, ho, h _ _ hx, h _ _ hy, eqGuard, binOp, Op.intCmp, pure, Sem.run, bind, Sem.bind]
theorem T1 (hx : evs sl x = some (.int k m)) (hy : evs sl y = some (.int k n)) : Runs P sl (.binOp .geq T x y T') t w (.bool (decide (n ≤ m))) := fun ρ h o ho _ => by
 simp [execOp, ho, h _ _ hx, h _ _ hy, eqGuard, binOp, Op.intCmp, pure, Sem.run, bind, Sem.bind]
theorem L1 (hx : evs sl x = some (.int k m)) (hy : evs sl y = some (.int k n)) : Runs P sl (.binOp .eql T x y T') t w (.bool (decide (m = n))) := fun ρ h o ho _ => by
 simp [execOp, ho, h _ _ hx, h _ _ hy, eqGuard, binOp, Op.intCmp, pure, Sem.run, bind, Sem.bind, ibeq]
theorem J2 (hx : evs sl x = some (.int k m)) (hy : evs sl y = some (.int k n)) : Runs P sl (.binOp .neq T x y T') t w (.bool (!decide (m = n))) := fun ρ h o ho _ => by
 simp [execOp, ho, h _ _ hx, h _ _ hy, eqGuard, binOp, Op.intCmp, pure, Sem.run, bind, Sem.bind, bne, ibeq]
theorem Runs.bits {op : BinOp} {r : Value} (hx : evs sl x = some (.int k m)) (hy : evs sl y = some (.int k n)) (hr : (Op.intBits op k m n).run P w = .ok r w) (ho' : op = .and ∨ op = .or ∨ op = .xor ∨ op = .andNot) : Runs P sl (.binOp op T x y T') t w r := fun ρ h o ho _ => by
 rcases ho' with rfl | rfl | rfl | rfl <;>
 ·simp only [execOp, ho, h _ _ hx, h _ _ hy, eqGuard, binOp, bind, Sem.bind, pure]
  simp only [Op.intBits, pure, Sem.run] at hr ⊢
  simpa [Sem.bind, Sem.run] using hr
theorem R6 (hx : evs sl x = some (.int k m)) (hy : evs sl y = some (.int k n)) : Runs P sl (.binOp .and T x y T') t w (.int k (k.wrap (BitVec.ofInt k.bits m &&& BitVec.ofInt k.bits n).toNat)) := Runs.bits hx hy rfl (.inl rfl)
theorem Runs.or (hx : evs sl x = some (.int k m)) (hy : evs sl y = some (.int k n)) : Runs P sl (.binOp .or T x y T') t w (.int k (k.wrap (BitVec.ofInt k.bits m ||| BitVec.ofInt k.bits n).toNat)) := Runs.bits hx hy rfl (.inr (.inl rfl))
theorem Runs.xor (hx : evs sl x = some (.int k m)) (hy : evs sl y = some (.int k n)) : Runs P sl (.binOp .xor T x y T') t w (.int k (k.wrap (BitVec.ofInt k.bits m ^^^ BitVec.ofInt k.bits n).toNat)) := Runs.bits hx hy rfl (.inr (.inr (.inl rfl)))
theorem R1 {b : Bool} (hx : evs sl x = some (.bool b)) : Runs P sl (.unOp .not T x) t w (.bool (!b)) := fun ρ h o ho _ => by
 simp [execOp, ho, h _ _ hx, Op.unary, pure, Sem.run, bind, Sem.bind]
theorem Runs.com (hx : evs sl x = some (.int k m)) : Runs P sl (.unOp .xor T x) t w (.int k (k.wrap (BitVec.ofInt k.bits (if k.signed then -1 else k.max) ^^^ BitVec.ofInt k.bits m).toNat)) := fun ρ h o ho _ => by
 simp [execOp, ho, h _ _ hx, Op.unary, Op.intBits, pure, Sem.run, bind, Sem.bind]
theorem X5 {k' : IntKind} (hx : evs sl x = some (.int k m)) (hy : evs sl y = some (.int k' n)) (h0 : 0 ≤ n) : Runs P sl (.binOp .shr T x y T') t w (.int k (m / 2 ^ min n.toNat k.bits)) := fun ρ h o ho _ => by
 have : m.fdiv (2 ^ min n.toNat k.bits) = m / 2 ^ min n.toNat k.bits := Int.fdiv_eq_ediv_of_nonneg _ (Int.le_of_lt (Int.pow_pos (by decide)))
 simp [execOp, ho, h _ _ hx, h _ _ hy, eqGuard, binOp, Op.shift, pure, Sem.run, bind, Sem.bind, show ¬ n < 0 by omega, this]
theorem Runs.shl {k' : IntKind} (hx : evs sl x = some (.int k m)) (hy : evs sl y = some (.int k' n)) (h0 : 0 ≤ n) : Runs P sl (.binOp .shl T x y T') t w (.int k (k.wrap (m * 2 ^ min n.toNat k.bits))) := fun ρ h o ho _ => by
 simp [execOp, ho, h _ _ hx, h _ _ hy, eqGuard, binOp, Op.shift, pure, Sem.run, bind, Sem.bind, show ¬ n < 0 by omega]
theorem U4 {a b : ByteArray} (hx : evs sl x = some (.string a)) (hy : evs sl y = some (.string b)) (hb : a.size + b.size ≤ 9223372036854775807) : Runs P sl (.binOp .add T x y T') t w (.string (a ++ b)) := fun ρ h o ho _ => by
 have : ¬ ((a.size + b.size : Nat) : Int) > IntKind.i64.max := by
  have : IntKind.i64.max = 9223372036854775807 := by decide
  omega
 simp only [execOp, ho, h _ _ hx, h _ _ hy, eqGuard, binOp, Op.stringOp, bind, Sem.bind, pure, if_neg this, Sem.run]
 rfl
theorem seq_toList (a b : ByteArray) : (a.toList == b.toList) = decide (a = b) := by
 rw [Bool.eq_iff_iff]
 simp only [beq_iff_eq, decide_eq_true_eq]
 constructor
 ·intro h
  rw [ByteArray.toList_eq, ByteArray.toList_eq] at h
  cases a; cases b
  simp only at h
  simpa using Array.toList_inj.1 h
 rintro rfl; rfl
theorem Runs.seql {a b : ByteArray} (hx : evs sl x = some (.string a)) (hy : evs sl y = some (.string b)) : Runs P sl (.binOp .eql T x y T') t w (.bool (decide (a = b))) := fun ρ h o ho _ => by
 rw [← seq_toList]
 simp only [execOp, ho, h _ _ hx, h _ _ hy, eqGuard, binOp, Op.stringOp, bind, Sem.bind, pure, Sem.run]
 rfl
theorem Runs.sneq {a b : ByteArray} (hx : evs sl x = some (.string a)) (hy : evs sl y = some (.string b)) : Runs P sl (.binOp .neq T x y T') t w (.bool (!decide (a = b))) := fun ρ h o ho _ => by
 rw [← seq_toList]
 simp only [execOp, ho, h _ _ hx, h _ _ hy, eqGuard, binOp, Op.stringOp, bind, Sem.bind, pure, Sem.run]
 rfl
def bt (s : ByteArray) (i : Int) : Int := ((s.data[i.toNat]?).getD 0).toNat
theorem Runs.sindex {s : ByteArray} {i : Int} (hu : P.underlying T = some .string) (hx : evs sl x = some (.string s)) (hy : evs sl y = some (.int k i)) (hi : 0 ≤ i ∧ i < s.size) : Runs P sl (.index T x y) t w (.int .u8 (bt s i)) := fun ρ h o ho _ => by
 have h2 : i.toNat < s.size := by omega
 have h3 : s[i.toNat]? = some (s[i.toNat]'h2) := getElem?_pos s i.toNat h2
 have h4 : bt s i = ((s[i.toNat]'h2).toNat : Int) := by
  unfold bt
  rw [show s.data[i.toNat]? = some (s[i.toNat]'h2) from Array.getElem?_eq_getElem (xs := s.data) h2]
  rfl
 simp [execOp, ho, h _ _ hx, h _ _ hy, Instr.index, asIntOf, underlying, program, hu, pure, Sem.run, bind, Sem.bind, hi.1, h3, h4]
theorem E3 {s : ByteArray} {ts : Array TypeId} (hu : P.underlying T = some .string) (hts : ts = #[T]) (hx : evs sl x = some (.string s)) :
  Runs P sl (.call { callee := .builtin .len, args := #[x], argTypes := ts }) t w (.int .i64 s.size) := fun ρ h o ho _ => by
 subst hts
 simp [execOp, ho, h _ _ hx, resolve, invoke, builtin, Builtin.len_, underlying, program, hu, pure, Sem.run, bind, Sem.bind, goInt]
theorem Y0 {A : Option Addr} {len cap : Nat} {E : TypeId} {ts : Array TypeId} (hu : P.underlying T = some (.slice E)) (hts : ts = #[T]) (hx : evs sl x = some (.slice A len cap)) :
  Runs P sl (.call { callee := .builtin .len, args := #[x], argTypes := ts }) t w (.int .i64 len) := fun ρ h o ho _ => by
 subst hts
 simp [execOp, ho, h _ _ hx, resolve, invoke, builtin, Builtin.len_, underlying, program, hu, pure, Sem.run, bind, Sem.bind, goInt]
theorem Runs.min {ts : Array TypeId} (hx : evs sl x = some (.int k m)) (hy : evs sl y = some (.int k n)) :
  Runs P sl (.call { callee := .builtin .min, args := #[x, y], argTypes := ts }) t w (.int k (if n < m then n else m)) := fun ρ h o ho _ => by
 simp [execOp, ho, h _ _ hx, h _ _ hy, resolve, invoke, builtin, Builtin.min_, Builtin.min2, pure, Sem.run, bind, Sem.bind]
theorem Runs.max {ts : Array TypeId} (hx : evs sl x = some (.int k m)) (hy : evs sl y = some (.int k n)) :
  Runs P sl (.call { callee := .builtin .max, args := #[x, y], argTypes := ts }) t w (.int k (if m < n then n else m)) := fun ρ h o ho _ => by
 simp [execOp, ho, h _ _ hx, h _ _ hy, resolve, invoke, builtin, Builtin.max_, Builtin.max2, pure, Sem.run, bind, Sem.bind]
theorem O5 {k' : IntKind} (hu : P.underlying T = some (.int k')) (hu' : P.underlying T' = some (.int k)) (hx : evs sl x = some (.int k' m)) : Runs P sl (.convert T T' x) t w (.int k (k.wrap m)) := fun ρ h o ho _ => by
 simp [execOp, ho, h _ _ hx, convert, underlying, program, hu, hu', Conv.intToInt, pure, Sem.run, bind, Sem.bind]
theorem bound_in {x : Value} {i : Int} {y : Nat} {c : BoundsCode} (hx : x = .int k i) (h : 0 ≤ i ∧ i ≤ y) : Instr.sliceBound x y c = .pure i.toNat := by
 subst hx
 simp [Instr.sliceBound, asIntOf, bind, Sem.bind, pure, h]
def lo_ (lo : Option Int) : Nat := (lo.map Int.toNat).getD 0
def hi_ (hi : Option Int) (n : Nat) : Nat := (hi.map Int.toNat).getD n
def evo (sl : Sl) : Option Operand → Option (Option Int)
 |none => some none
 |some x => match evs sl x with | some (.int .i64 i) => some (some i) | _ => none
def okb (lo hi : Option Int) (len cap : Nat) : Prop := (∀ h, hi = some h → 0 ≤ h ∧ h ≤ cap) ∧ (∀ l, lo = some l → 0 ≤ l ∧ l ≤ hi_ hi len)
theorem bounds_run {ρ : Operand → Value} (hρ : ∀ x v, evs sl x = some v → ρ x = v) {lo hi : Option Operand} {l h : Option Int} {b : Bool} {len cap : Nat} (h1 : evo sl lo = some l) (h2 : evo sl hi = some h) (hb : okb l h len cap) :
  Instr.sliceBounds b len cap (lo.map ρ) (hi.map ρ) none = .pure (lo_ l, hi_ h len, cap) := by
 have key : ∀ {o : Option Operand} {r : Option Int}, evo sl o = some r → (r = none ∧ o = none) ∨ ∃ x i, o = some x ∧ r = some i ∧ ρ x = .int .i64 i := by
  intro o r hr
  cases o with
  |none => left; simpa [evo, eq_comm] using hr
  |some x =>
   right
   simp only [evo] at hr
   cases hx : evs sl x with
   |none => rw [hx] at hr; simp at hr
   |some v =>
    rw [hx] at hr
    split at hr
    ·rename_i i he
     simp only [Option.some.injEq] at hr he
     exact ⟨x, i, rfl, hr.symm, by rw [hρ x v hx, he]⟩
    simp at hr
 rcases key h2 with ⟨rfl, rfl⟩ | ⟨xh, ih, rfl, rfl, eh⟩ <;> rcases key h1 with ⟨rfl, rfl⟩ | ⟨xl, il, rfl, rfl, el⟩
 ·simp [Instr.sliceBounds, lo_, hi_, pure, bind, Sem.bind]
 ·have hl := hb.2 il rfl
  simp only [Instr.sliceBounds, lo_, hi_, pure, bind, Sem.bind, Option.map_some, Option.map_none, el, Option.getD_some, Option.getD_none, Option.isSome_none] at *
  rw [bound_in rfl hl]; rfl
 ·have hh := hb.1 ih rfl
  simp only [Instr.sliceBounds, lo_, hi_, pure, bind, Sem.bind, Option.map_some, Option.map_none, eh, Option.getD_some, Option.getD_none] at *
  rw [bound_in rfl hh]; rfl
 have hh := hb.1 ih rfl
 have hl := hb.2 il rfl
 simp only [Instr.sliceBounds, lo_, hi_, pure, bind, Sem.bind, Option.map_some, eh, el, Option.getD_some, Option.isSome_none] at *
 rw [bound_in rfl hh]
 simp only [Sem.bind]
 rw [bound_in rfl hl]; rfl
theorem Runs.sslice {s : ByteArray} {lo hi : Option Operand} {l h : Option Int} (hu : P.underlying T = some .string) (hx : evs sl x = some (.string s)) (h1 : evo sl lo = some l) (h2 : evo sl hi = some h) (hb : okb l h s.size s.size) :
  Runs P sl (.slice T x lo hi none) t w (.string (s.extract (lo_ l) (hi_ h s.size))) := fun ρ hρ o ho _ => by
 have := bounds_run (b := false) hρ h1 h2 hb
 simp [execOp, ho, hρ _ _ hx, Instr.sliceAt, Instr.slice, underlying, program, hu, pure, Sem.run, bind, Sem.bind, this]
theorem Runs.lslice {A : Option Addr} {len cap size : Nat} {E : TypeId} {i : TypeInfo} {lo hi' : Option Operand} {l h : Option Int} (hu : P.underlying T = some (.slice E)) (hi : P.info? E = some i) (hz : i.size = size) (hx : evs sl x = some (.slice A len cap)) (h1 : evo sl lo = some l) (h2 : evo sl hi' = some h) (hb : okb l h len cap) :
  Runs P sl (.slice T x lo hi' none) t w (.slice (if cap = lo_ l then A else A.map (·.add (lo_ l * size))) (hi_ h len - lo_ l) (cap - lo_ l)) := fun ρ hρ o ho _ => by
 have := bounds_run (b := true) hρ h1 h2 hb
 simp [execOp, ho, hρ _ _ hx, Instr.sliceAt, Instr.slice, underlying, program, hu, sizeOf, typeInfo, hi, hz, pure, Sem.run, bind, Sem.bind, this]
theorem Runs.aslice {a : Addr} {n size : Nat} {E : TypeId} {i : TypeInfo} {lo hi' : Option Operand} {l h : Option Int} (hu : P.underlying T = some (.array n E)) (hi : P.info? E = some i) (hz : i.size = size) (hx : evs sl x = some (.pointer (some a))) (h1 : evo sl lo = some l) (h2 : evo sl hi' = some h) (hb : okb l h n n) :
  Runs P sl (.slice T x lo hi' none) t w (.slice (some (if n = lo_ l then a else a.add (lo_ l * size))) (hi_ h n - lo_ l) (n - lo_ l)) := fun ρ hρ o ho _ => by
 have := bounds_run (b := false) hρ h1 h2 hb
 simp [execOp, ho, hρ _ _ hx, Instr.sliceAt, Instr.sureAddr, underlying, program, hu, sizeOf, typeInfo, hi, hz, pure, Sem.run, bind, Sem.bind, this]
theorem Runs.aindex {a : Addr} {n size : Nat} {E : TypeId} {i : TypeInfo} {j : Int} (hu : P.underlying T = some (.array n E)) (hi : P.info? E = some i) (hz : i.size = size) (hx : evs sl x = some (.pointer (some a))) (hy : evs sl y = some (.int k j)) (hj : 0 ≤ j ∧ j < n) :
  Runs P sl (.indexAddr T x y) t w (.pointer (some (a.add (j.toNat * size)))) := fun ρ hρ o ho _ => by
 simp [execOp, ho, hρ _ _ hx, hρ _ _ hy, Instr.indexAt, asIntOf, Instr.sureAddr, underlying, program, hu, sizeOf, typeInfo, hi, hz, pure, Sem.run, bind, Sem.bind, hj.1, hj.2]
theorem Runs.lindex {a : Addr} {len cap size : Nat} {E : TypeId} {i : TypeInfo} {j : Int} (hu : P.underlying T = some (.slice E)) (hi : P.info? E = some i) (hz : i.size = size) (hx : evs sl x = some (.slice (some a) len cap)) (hy : evs sl y = some (.int k j)) (hj : 0 ≤ j ∧ j < len) :
  Runs P sl (.indexAddr T x y) t w (.pointer (some (a.add (j.toNat * size)))) := fun ρ hρ o ho _ => by
 simp [execOp, ho, hρ _ _ hx, hρ _ _ hy, Instr.indexAt, asIntOf, underlying, program, hu, sizeOf, typeInfo, hi, hz, pure, Sem.run, bind, Sem.bind, hj.1, hj.2]
theorem S6 {a : Addr} (hx : evs sl x = some (.pointer (some a))) : Runs P sl (.nilCheck x) t w (.pointer (some a)) := fun ρ hρ o ho _ => by
 simp [execOp, ho, hρ _ _ hx, pure, Sem.run, bind, Sem.bind]
theorem Runs.makeFunc {f : FuncId} {xs ys : List Operand} {us vs : List Value} (hx : args_ sl xs = some us) (hy : args_ sl ys = some vs) : Runs P sl (.makeFunc (.func f) xs.toArray ys.toArray) t w (.func (.func f) us.toArray vs.toArray) := fun ρ hρ o ho _ => by
 simp [execOp, ho, Instr.makeFunc, args_spec hρ xs us hx, args_spec hρ ys vs hy, pure, Sem.run, bind, Sem.bind]
theorem Runs.extract {vs : Array Value} {j : Nat} {v : Value} (hx : evs sl x = some (.tuple vs)) (hj : vs[j]? = some v) : Runs P sl (.extract x j) t w v := fun ρ hρ o ho _ => by
 simp [execOp, ho, hρ _ _ hx, Instr.extract, hj, pure, Sem.run, bind, Sem.bind]
end
end B
end Go.Proofs.YtifdpllfbaogcaaGreat
namespace Go.Proofs.YtifdpllfbaogcaaGreat
open Go Go.RowKit
namespace B
abbrev Snap := Nat → Option Obj
def Le (F G : Snap) : Prop := ∀ k o, F k = some o → G k = some o
theorem Le.refl (F : Snap) : Le F F := fun _ _ h => h
theorem Le.trans {F G H : Snap} (h : Le F G) (k : Le G H) : Le F H := fun i o e => k i o (h i o e)
abbrev Res := List (Nat × Obj)
structure St (W : World) (F : Snap) (cs : List Res) (w : World) : Prop where
 bel : Below W.heap.size W w
 imm : ∀ k o, F k = some o → w.heap[k]? = some o
 own : ∀ p ∈ cs.flatten, w.heap[p.1]? = some p.2 ∧ W.heap.size ≤ p.1 ∧ F p.1 = none
 nd : (cs.flatten.map (·.1)).Nodup
section
variable {W w w' : World} {F G : Snap} {cs cs' : List Res} {r r' : Res} {b : Nat} {o o' : Obj}
theorem St.start (w : World) : St w (fun k => w.heap[k]?) [] w := ⟨Below.refl _ _, fun _ _ h => h, by simp, by simp⟩
theorem St.weak (h : St W G cs w) (hle : Le F G) : St W F cs w :=
 ⟨h.bel, fun k o e => h.imm k o (hle k o e), fun p hp => ⟨(h.own p hp).1, (h.own p hp).2.1, by
  cases e : F p.1 with
  |none => rfl
  |some o => have := hle _ _ e; rw [(h.own p hp).2.2] at this; cases this⟩, h.nd⟩
theorem St.lt (h : St W F cs w) {p : Nat × Obj} (hp : p ∈ cs.flatten) : p.1 < w.heap.size := (Array.getElem?_eq_some_iff.1 (h.own p hp).1).1
theorem St.immlt (h : St W F cs w) {k : Nat} {o : Obj} (e : F k = some o) : k < w.heap.size := (Array.getElem?_eq_some_iff.1 (h.imm k o e)).1
theorem St.below (h : St W F cs w) (hb : Below w.heap.size w w') : St W F cs w' :=
 ⟨h.bel.trans (hb.mono h.bel.size), fun k o e => by rw [hb.block k (h.immlt e)]; exact h.imm k o e,
  fun p hp => ⟨by rw [hb.block p.1 (h.lt hp)]; exact (h.own p hp).1, (h.own p hp).2⟩, h.nd⟩
theorem St.drew (h : St W F cs w) : St W F cs { w with drawn := w.drawn + 1 } := h.below ⟨rfl, rfl, rfl, Nat.le_refl _, fun _ _ => rfl⟩
theorem St.subl (h : St W F cs w) (hs : List.Sublist cs'.flatten cs.flatten) : St W F cs' w :=
 ⟨h.bel, h.imm, fun p hp => h.own p (hs.subset hp), h.nd.sublist (hs.map _)⟩
theorem St.perm (h : St W F cs w) (hs : List.Perm cs' cs) : St W F cs' w :=
 ⟨h.bel, h.imm, fun p hp => h.own p ((hs.flatten).subset hp), ((hs.flatten.map (·.1)).nodup_iff).2 h.nd⟩
theorem flat_erase : ∀ (l : List Res) (i : Nat), List.Sublist (l.eraseIdx i).flatten l.flatten
 |[], _ => by simp
 |a :: l, 0 => by simp
 |a :: l, i + 1 => by simpa using (flat_erase l i)
theorem St.drop (h : St W F cs w) (i : Nat) : St W F (cs.eraseIdx i) w := h.subl (flat_erase cs i)
theorem St.alloc (h : St W F cs w) (o : Obj) : St W F ([(w.heap.size, o)] :: cs) (w.alloc o) := by
 have hb : Below w.heap.size w (w.alloc o) := (Below.refl _ _).alloc (Nat.le_refl _) o
 have h' := h.below hb
 refine ⟨h'.bel, h'.imm, fun p hp => ?_, ?_⟩
 ·simp only [List.flatten_cons, List.singleton_append, List.mem_cons] at hp
  rcases hp with rfl | hp
  ·refine ⟨heap_alloc_new w _, h.bel.size, ?_⟩
   cases e : F w.heap.size with
   |none => rfl
   |some o' => have := h.immlt e; omega
  exact h'.own p hp
 simp only [List.flatten_cons, List.singleton_append, List.map_cons, List.nodup_cons]
 refine ⟨fun hm => ?_, h.nd⟩
 obtain ⟨p, hp, e⟩ := List.mem_map.1 hm
 have := h.lt hp
 omega
theorem split_at {α : Type} : ∀ (l : List α) (i : Nat) (x : α), l[i]? = some x → ∃ l1 l2, l = l1 ++ x :: l2 ∧ (∀ y, l.set i y = l1 ++ y :: l2) ∧ l.eraseIdx i = l1 ++ l2
 |[], _, _, h => by simp at h
 |a :: l, 0, x, h => by
  simp only [List.getElem?_cons_zero, Option.some.injEq] at h
  subst h
  exact ⟨[], l, rfl, fun _ => rfl, rfl⟩
 |a :: l, i + 1, x, h => by
  simp only [List.getElem?_cons_succ] at h
  obtain ⟨l1, l2, e1, e2, e3⟩ := split_at l i x h
  exact ⟨a :: l1, l2, by rw [e1]; rfl, fun y => by simp [e2 y], by simp [e3]⟩
def World.setBlk (w : World) (b : Nat) (o : Obj) : World := { w with heap := w.heap.setIfInBounds b o }
theorem St.set1 (h : St W F cs w) {i : Nat} (hi : cs[i]? = some [(b, o)]) (o' : Obj) : St W F (cs.set i [(b, o')]) (World.setBlk w b o') := by
 obtain ⟨l1, l2, e1, e2, _⟩ := split_at cs i _ hi
 rw [e2]
 subst e1
 have hb := h.own (b, o) (by simp)
 have hlt : b < w.heap.size := h.lt (p := (b, o)) (by simp)
 have hnd := h.nd
 simp only [List.flatten_append, List.flatten_cons, List.singleton_append, List.map_append, List.map_cons] at hnd
 have hne : ∀ p ∈ l1.flatten ++ l2.flatten, p.1 ≠ b := by
  intro p hp e
  rw [List.nodup_append] at hnd
  obtain ⟨_, hnd2, hnd3⟩ := hnd
  rcases List.mem_append.1 hp with hp | hp
  ·exact hnd3 p.1 (List.mem_map_of_mem hp) b (by simp) e
  exact (List.nodup_cons.1 hnd2).1 (e ▸ List.mem_map_of_mem hp)
 have hk : ∀ k, k ≠ b → (World.setBlk w b o').heap[k]? = w.heap[k]? := fun k e => by simp [World.setBlk, Array.getElem?_setIfInBounds_ne (Ne.symm e)]
 refine ⟨⟨h.bel.os, h.bel.tape, h.bel.output, by simp [World.setBlk]; exact h.bel.size, fun k hkk => ?_⟩, fun k q e => ?_, fun p hp => ?_, ?_⟩
 ·rw [hk k (fun e => by subst e; have := hb.2.1; simp only at this; omega)]; exact h.bel.block k hkk
 ·rw [hk k (fun e' => by subst e'; rw [hb.2.2] at e; cases e)]; exact h.imm k q e
 ·simp only [List.flatten_append, List.flatten_cons, List.singleton_append, List.mem_append, List.mem_cons] at hp
  rcases hp with hp | rfl | hp
  ·rw [hk p.1 (hne p (by simp [hp]))]; exact h.own p (by simp [hp])
  ·exact ⟨by simp [World.setBlk, hlt], hb.2⟩
  rw [hk p.1 (hne p (by simp [hp]))]; exact h.own p (by simp [hp])
 simpa using hnd
theorem setCell_blk {arr : Array Value} {t : TypeId} {fz : Nat × Nat} (h : w.heap[b]? = some (.cells arr t fz)) (off : Nat) (v : Value) : w.setCell ⟨b, off, none⟩ v = World.setBlk w b (.cells (arr.setIfInBounds off v) t fz) := by
 have hlt := (Array.getElem?_eq_some_iff.1 h).1
 have : w.heap.modify b (fun | .cells c elem frozen => .cells (if (none : Option Nat).isSome then c else c.setIfInBounds off v) elem frozen | o => o) = w.heap.setIfInBounds b (.cells (arr.setIfInBounds off v) t fz) := by
  apply Array.ext_getElem?
  intro i
  rw [Array.getElem?_modify]
  by_cases e : b = i
  ·subst e
   rw [if_pos rfl, h]
   simp [hlt]
  rw [if_neg e, Array.getElem?_setIfInBounds_ne e]
 unfold World.setCell World.setBlk
 simp only
 exact congrArg (fun hp => ({ w with heap := hp } : World)) this
theorem St.freeze (h : St W F cs w) {i : Nat} (hi : cs[i]? = some r) : ∃ G, Le F G ∧ (∀ p ∈ r, G p.1 = some p.2) ∧ St W G (cs.eraseIdx i) w := by
 obtain ⟨l1, l2, e1, _, e3⟩ := split_at cs i _ hi
 rw [e3]
 subst e1
 have hnd := h.nd
 simp only [List.flatten_append, List.flatten_cons, List.map_append] at hnd
 let G : Snap := fun k => if k ∈ (r.map (·.1)) then w.heap[k]? else F k
 have hr : ∀ p ∈ r, p ∈ (l1 ++ r :: l2).flatten := fun p hp => by simp [hp]
 refine ⟨G, fun k o e => ?_, fun p hp => ?_, h.bel, fun k o e => ?_, fun p hp => ?_, ?_⟩
 ·show (if k ∈ (r.map (·.1)) then w.heap[k]? else F k) = some o
  split
  ·exact h.imm k o e
  exact e
 ·show (if p.1 ∈ (r.map (·.1)) then w.heap[p.1]? else F p.1) = some p.2
  rw [if_pos (List.mem_map_of_mem hp)]
  exact (h.own p (hr p hp)).1
 ·have e' : (if k ∈ (r.map (·.1)) then w.heap[k]? else F k) = some o := e
  split at e'
  ·exact e'
  exact h.imm k o e'
 ·have hp' : p ∈ (l1 ++ r :: l2).flatten := by
   simp only [List.flatten_append, List.mem_append, List.flatten_cons] at hp ⊢
   rcases hp with hp | hp
   ·exact .inl hp
   exact .inr (.inr hp)
  refine ⟨(h.own p hp').1, (h.own p hp').2.1, ?_⟩
  show (if p.1 ∈ (r.map (·.1)) then w.heap[p.1]? else F p.1) = none
  rw [if_neg]
  ·exact (h.own p hp').2.2
  intro hm
  rw [List.nodup_append] at hnd
  obtain ⟨_, hnd2, hnd3⟩ := hnd
  rw [List.nodup_append] at hnd2
  simp only [List.flatten_append, List.mem_append] at hp
  rcases hp with hp | hp
  ·exact hnd3 p.1 (List.mem_map_of_mem hp) p.1 (List.mem_append_left _ hm) rfl
  exact hnd2.2.2 p.1 hm p.1 (List.mem_map_of_mem hp) rfl
 simp only [List.flatten_append, List.map_append]
 refine hnd.sublist<|List.Sublist.append (List.Sublist.refl _) (List.sublist_append_right _ _)
end
theorem add_mk (b o n : Nat) : (⟨b, o, none⟩ : Addr).add n = ⟨b, o + n, none⟩ := by
 unfold Addr.add
 split
 ·simp [*]
 rfl
theorem add_add (a : Addr) (m n : Nat) : (a.add m).add n = a.add (m + n) := by
 unfold Addr.add
 by_cases hm : m = 0 <;> by_cases hn : n = 0 <;> simp [hm, hn, Nat.add_assoc]
def cellF (F : Snap) (a : Addr) : Option Value :=
 match F a.block with
 |some (.cells c _ _) => if a.spot.isSome then none else c[a.off]?
 |_ => none
theorem cellF_le {F G : Snap} (h : Le F G) {a : Addr} {v : Value} (e : cellF F a = some v) : cellF G a = some v := by
 unfold cellF at *
 cases hF : F a.block with
 |none => rw [hF] at e; cases e
 |some o => rw [h _ _ hF]; rw [hF] at e; exact e
theorem St.cell {W w : World} {F : Snap} {cs : List Res} (h : St W F cs w) {a : Addr} {v : Value} (e : cellF F a = some v) : w.cell? a = some v := by
 unfold cellF at e
 unfold World.cell?
 cases hF : F a.block with
 |none => rw [hF] at e; cases e
 |some o => rw [h.imm _ _ hF]; rw [hF] at e; exact e
theorem St.ocell {W w : World} {F : Snap} {cs : List Res} (h : St W F cs w) {i : Nat} {b off : Nat} {arr : Array Value} {t : TypeId} {fz : Nat × Nat} (hi : cs[i]? = some [(b, .cells arr t fz)]) {v : Value} (e : arr[off]? = some v) : w.cell? ⟨b, off, none⟩ = some v := by
 have := (h.own (b, .cells arr t fz) (List.mem_flatten.2 ⟨_, List.mem_of_getElem? hi, by simp⟩)).1
 simp only at this
 simp [World.cell?, this, e]
theorem St.blk {W w : World} {F : Snap} {cs : List Res} (h : St W F cs w) {i : Nat} {b : Nat} {o : Obj} (hi : cs[i]? = some [(b, o)]) : w.heap[b]? = some o :=
 (h.own (b, o) (List.mem_flatten.2 ⟨_, List.mem_of_getElem? hi, by simp⟩)).1
structure Kd (α : Type) where
 sz : Nat
 K : Snap → α → List Value → Prop
 len : ∀ {F x c}, K F x c → c.length = sz
 mono : ∀ {F G x c}, Le F G → K F x c → K G x c
def RdS {α : Type} (d : Kd α) (F : Snap) (A : Option Addr) (xs : List α) : Prop :=
 xs = [] ∨ ∃ ad, A = some ad ∧ ∀ i x, xs[i]? = some x → ∃ c, d.K F x c ∧ ∀ j v, c[j]? = some v → cellF F (ad.add (i * d.sz + j)) = some v
theorem RdS.mono {α : Type} {d : Kd α} {F G : Snap} {A : Option Addr} {xs : List α} (hle : Le F G) (h : RdS d F A xs) : RdS d G A xs := by
 rcases h with h | ⟨ad, hA, h⟩
 ·exact .inl h
 exact .inr ⟨ad, hA, fun i x hx => by
  obtain ⟨c, h1, h2⟩ := h i x hx
  exact ⟨c, d.mono hle h1, fun j v hv => cellF_le hle (h2 j v hv)⟩⟩
theorem RdS.at_ {α : Type} {d : Kd α} {F : Snap} {A : Option Addr} {xs : List α} (h : RdS d F A xs) {i : Nat} {x : α} (hx : xs[i]? = some x) : ∃ ad c, A = some ad ∧ d.K F x c ∧ ∀ j v, c[j]? = some v → cellF F (ad.add (i * d.sz + j)) = some v := by
 rcases h with h | ⟨ad, hA, h⟩
 ·rw [h] at hx; simp at hx
 obtain ⟨c, h1, h2⟩ := h i x hx
 exact ⟨ad, c, hA, h1, h2⟩
theorem RdS.drop {α : Type} {d : Kd α} {F : Snap} {A : Option Addr} {xs : List α} (h : RdS d F A xs) (k : Nat) {cap : Nat} (hc : cap = k → xs.length ≤ k) : RdS d F (if cap = k then A else A.map (·.add (k * d.sz))) (xs.drop k) := by
 by_cases hk : xs.length ≤ k
 ·exact .inl (List.drop_eq_nil_of_le hk)
 rw [if_neg (fun e => hk (hc e))]
 rcases h with h | ⟨ad, hA, h⟩
 ·rw [h] at hk; simp at hk
 refine .inr ⟨ad.add (k * d.sz), by rw [hA]; rfl, fun i x hx => ?_⟩
 rw [List.getElem?_drop] at hx
 obtain ⟨c, h1, h2⟩ := h _ _ hx
 refine ⟨c, h1, fun j v hv => ?_⟩
 rw [add_add, ← Nat.add_assoc, ← Nat.add_mul]
 exact h2 j v hv
theorem RdS.take {α : Type} {d : Kd α} {F : Snap} {A : Option Addr} {xs : List α} (h : RdS d F A xs) (k : Nat) : RdS d F A (xs.take k) := by
 rcases h with h | ⟨ad, hA, h⟩
 ·exact .inl (by rw [h]; simp)
 exact .inr ⟨ad, hA, fun i x hx => h i x (by
  rw [List.getElem?_take] at hx
  split at hx
  ·exact hx
  cases hx)⟩
def Kd.one {α : Type} (f : α → Value) : Kd α := ⟨1, fun _ x c => c = [f x], fun h => by rw [h]; rfl, fun _ h => h⟩
abbrev Kd.int (k : IntKind) : Kd Int := Kd.one (Value.int k)
abbrev Kd.bool : Kd Bool := Kd.one Value.bool
abbrev Kd.u8 : Kd UInt8 := Kd.one fun x => Value.int .u8 x.toNat
end B
end Go.Proofs.YtifdpllfbaogcaaGreat
namespace Go.Proofs.YtifdpllfbaogcaaGreat
open Go Go.RowKit
namespace B
def one_ : Value → Bool
 |.agg _ => false
 |.tuple _ => false
 |_ => true
def scal : TypeDesc → Bool
 |.struct _ => false
 |.array _ _ => false
 |_ => true
section
variable {P : Program} {sl : Sl} {W w : World} {F : Snap} {cs : List Res} {t T T' : TypeId} {x y z : Operand} {k : IntKind} {m n : Int} {v : Value}
theorem run_load {a : Addr} (hc : w.cell? a = some v) : (load a).run P w = .ok v w := by simp [load, Sem.run, hc]
theorem K0 {a : Addr} {d : TypeDesc} (hu : P.underlying T = some d) (hs : scal d = true) (hx : evs sl x = some (.pointer (some a))) (hc : w.cell? a = some v) : Runs P sl (.load T x) t w v := fun ρ h o ho _ => by
 have h1 : (isAgg T).run P w = .ok false w := by
  cases d <;> simp_all [isAgg, underlying, program, scal, Sem.run, bind, Sem.bind, pure]
 have h2 : (loadVar T a).run P w = .ok v w := by
  unfold loadVar
  rw [Sem.run_bind, h1]
  simp [Result.andThen, run_load hc]
 simp only [execOp, ho, h _ _ hx]
 rw [Sem.run_bind]
 have h3 : (Instr.loadAt T (.pointer (some a))).run P w = .ok v w := by
  unfold Instr.loadAt
  rw [Sem.run_bind]
  simpa [Instr.sureAddr, Sem.run, pure, Result.andThen] using h2
 rw [h3]
 rfl
theorem run_loadCells {a : Addr} (vs : List Value) : ∀ (i : Nat) (acc : Array Value), (∀ j v, vs[j]? = some v → w.cell? (a.add (i + j)) = some v) → (loadCellsFrom a i vs.length acc).run P w = .ok (acc ++ vs.toArray) w := by
 induction vs with
 |nil => intro i acc _; simp [loadCellsFrom, Sem.run, pure]
 |cons v r ih =>
  intro i acc h
  simp only [List.length_cons, loadCellsFrom]
  rw [Sem.run_bind, run_load (by simpa using h 0 v rfl)]
  simp only [Result.andThen]
  rw [ih (i + 1) (acc.push v) (fun j u hj => by have := h (j + 1) u (by simpa using hj); rw [show i + 1 + j = i + (j + 1) by omega]; exact this)]
  simp
theorem Q5 {a : Addr} {d : TypeDesc} {ti : TypeInfo} {vs : List Value} (hu : P.underlying T = some d) (hs : scal d = false) (hi : P.info? T = some ti) (hz : ti.size = vs.length) (hx : evs sl x = some (.pointer (some a)))
  (hc : ∀ j v, vs[j]? = some v → w.cell? (a.add j) = some v) : Runs P sl (.load T x) t w (.agg vs.toArray) := fun ρ h o ho _ => by
 have h1 : (isAgg T).run P w = .ok true w := by
  cases d <;> simp_all [isAgg, underlying, program, scal, Sem.run, bind, Sem.bind, pure]
 have h2 : (loadVar T a).run P w = .ok (.agg vs.toArray) w := by
  unfold loadVar
  rw [Sem.run_bind, h1]
  have h3 := run_loadCells (P := P) (w := w) (a := a) vs 0 #[] (fun j v hj => by simpa using hc j v hj)
  simp only [Result.andThen, if_true]
  simp only [sizeOf, typeInfo, program, bind, Sem.bind, pure]
  simp only [Sem.run, hi, Sem.bind, hz]
  rw [show loadCells a vs.length = loadCellsFrom a 0 vs.length #[] from rfl]
  have := Sem.run_bind (P := P) (w := w) (loadCellsFrom a 0 vs.length #[]) (fun cs => (pure (Value.agg cs) : Sem Value))
  simp only [bind, pure] at this
  rw [this, h3]
  simp [Result.andThen, Sem.run]
 simp only [execOp, ho, h _ _ hx]
 rw [Sem.run_bind]
 have h3 : (Instr.loadAt T (.pointer (some a))).run P w = .ok (.agg vs.toArray) w := by
  unfold Instr.loadAt
  rw [Sem.run_bind]
  simpa [Instr.sureAddr, Sem.run, pure, Result.andThen] using h2
 rw [h3]
 rfl
def blit : Array Value → Nat → List Value → Array Value
 |arr, _, [] => arr
 |arr, off, v :: r => blit (arr.setIfInBounds off v) (off + 1) r
theorem blit_size : ∀ (vs : List Value) (arr : Array Value) (off : Nat), (blit arr off vs).size = arr.size
 |[], _, _ => rfl
 |v :: r, arr, off => by simp [blit, blit_size r]
theorem blit_toList : ∀ (vs : List Value) (arr : Array Value) (off : Nat), off + vs.length ≤ arr.size → (blit arr off vs).toList = arr.toList.take off ++ vs ++ arr.toList.drop (off + vs.length)
 |[], arr, off, _ => by simp [blit]
 |v :: r, arr, off, h => by
  simp only [List.length_cons] at h
  simp only [blit]
  rw [blit_toList r _ _ (by simp; omega)]
  simp only [Array.toList_setIfInBounds, List.length_cons]
  rw [List.take_succ_eq_append_getElem (by simp; omega), List.take_set_of_le (by omega : off ≤ off), List.drop_set_of_lt (by omega)]
  simp [Nat.add_assoc, Nat.add_comm 1]
theorem blit_all (vs : List Value) (arr : Array Value) (h : vs.length = arr.size) : blit arr 0 vs = vs.toArray := by
 apply Array.toList_inj.1
 rw [blit_toList vs arr 0 (by omega)]
 simp [← h]
theorem blit_one (arr : Array Value) (off : Nat) (v : Value) : blit arr off [v] = arr.setIfInBounds off v := rfl
def Free (fz : Nat × Nat) (n : Nat) : Prop := ∀ j, j < n → ¬ (fz.1 ≤ j ∧ j < fz.2)
theorem Free.zero (n : Nat) : Free (0, 0) n := fun _ _ h => by have := h.2; simp at this
theorem setBlk_blk (w : World) (b : Nat) (o o' : Obj) : World.setBlk (World.setBlk w b o) b o' = World.setBlk w b o' := by
 simp [World.setBlk]
theorem run_store {b off : Nat} {arr : Array Value} {tt : TypeId} {fz : Nat × Nat} (hb : w.heap[b]? = some (.cells arr tt fz)) (hf : Free fz arr.size) (ho : off < arr.size) (hv : one_ v = true) :
  (store ⟨b, off, none⟩ v).run P w = .ok () (World.setBlk w b (.cells (arr.setIfInBounds off v) tt fz)) := by
 have hc : w.cell? ⟨b, off, none⟩ = some arr[off] := by simp [World.cell?, hb, ho]
 have hz : w.frozen? ⟨b, off, none⟩ = false := by
  have := hf off ho
  simp only [World.frozen?, hb]
  simpa using this
 have : (store ⟨b, off, none⟩ v).run P w = .ok () (w.setCell ⟨b, off, none⟩ v) := by
  cases v <;> simp_all [store, Sem.run, one_]
 rw [this, setCell_blk hb]
theorem run_storeCells {b : Nat} {tt : TypeId} {fz : Nat × Nat} (vs : List Value) : ∀ (w : World) (off i : Nat) (arr : Array Value), w.heap[b]? = some (.cells arr tt fz) → Free fz arr.size → off + i + vs.length ≤ arr.size → (∀ v ∈ vs, one_ v = true) →
  (storeCells ⟨b, off, none⟩ vs i).run P w = .ok () (World.setBlk w b (.cells (blit arr (off + i) vs) tt fz)) := by
 induction vs with
 |nil =>
  intro w off i arr hb _ _ _
  have hlt := (Array.getElem?_eq_some_iff.1 hb)
  obtain ⟨hlt, he⟩ := hlt
  have : World.setBlk w b (.cells arr tt fz) = w := by
   unfold World.setBlk
   have : w.heap.setIfInBounds b (.cells arr tt fz) = w.heap := by
    apply Array.ext_getElem?
    intro j
    by_cases e : b = j
    ·subst e; simp [hlt, he]
    rw [Array.getElem?_setIfInBounds_ne e]
   rw [this]
  simp [storeCells, Sem.run, pure, blit, this]
 |cons v r ih =>
  intro w off i arr hb hf hs h1
  simp only [List.length_cons] at hs
  simp only [storeCells, add_mk]
  rw [Sem.run_bind, run_store hb hf (by omega) (h1 v (by simp))]
  simp only [Result.andThen]
  have hlt := (Array.getElem?_eq_some_iff.1 hb).1
  rw [ih (World.setBlk w b (.cells (arr.setIfInBounds (off + i) v) tt fz)) off (i + 1) (arr.setIfInBounds (off + i) v) (by simp [World.setBlk, hlt]) (by simpa using hf) (by simp; omega) (fun u hu => h1 u (by simp [hu]))]
  rw [setBlk_blk]
  rfl
end
section
variable {P : Program} {Z : Post} {ks : List Fr} {N : Nat} {D : List Deferred} {sl : Sl} {W w : World} {ops : Array Oper} {rest : List Oper} {F : Snap} {cs : List Res} {t T T' : TypeId} {x y z : Operand} {v : Value} {pos : String} {af : Array Edge}
theorem WL.skip_ {op : Op} {w' : World} (h : ∀ (ρ : Operand → Value), (∀ x v, evs sl x = some v → ρ x = v) → ∀ o : Oper, o.op = op → (execOp ρ o).run P w = .ok .skip w') (k : WL P ops Z ks N D sl rest w') :
  WL P ops Z ks N D sl ({ dst := none, op := op, type := t, pos := pos, after := af, guard := none } :: rest) w := fun a ha =>
 wpList_plain rfl fun K hK => by
  unfold Oper.wp
  rw [h a.eval (fun x v hx => ha.ev hx) _ rfl]
  exact hK _ _ (k _ ha)
theorem M5 {d : Nat} {op : Op} {w' : World} (hd : Nat.ble (d + 1) N = true) (h : ∀ (ρ : Operand → Value), (∀ x v, evs sl x = some v → ρ x = v) → ∀ o : Oper, o.op = op → o.type = t → (execOp ρ o).run P w = .ok (.value v) w') (k : WL P ops Z ks N D ((d, v) :: sl) rest w') :
  WL P ops Z ks N D sl ({ dst := some d, op := op, type := t, pos := pos, after := af, guard := none } :: rest) w := fun a ha =>
 wpList_plain rfl fun K hK => by
  unfold Oper.wp
  rw [h a.eval (fun x v hx => ha.ev hx) _ rfl rfl]
  exact hK _ _ (k _ (ha.put (Nat.le_of_ble_eq_true hd) v))
theorem WL.store (h : St W F cs w) (i : Nat) {b off : Nat} {arr : Array Value} {tt : TypeId} {fz : Nat × Nat} {ti : TypeInfo} (hi : cs[i]? = some [(b, .cells arr tt fz)]) (hx : evs sl x = some (.pointer (some ⟨b, off, none⟩))) (hy : evs sl y = some v)
  (hT : P.info? T = some ti) (hz : ti.size = v.cells.size) (h1 : v.cells.toList.all one_ = true) (hf : Free fz arr.size) (ho : off + v.cells.size ≤ arr.size)
  (k : ∀ w', St W F (cs.set i [(b, .cells (blit arr off v.cells.toList) tt fz)]) w' → WL P ops Z ks N D sl rest w') :
  WL P ops Z ks N D sl ({ dst := none, op := .store T x y, type := t, pos := pos, after := af, guard := none } :: rest) w := by
 refine WL.skip_ (w' := World.setBlk w b (.cells (blit arr off v.cells.toList) tt fz)) (fun ρ hρ o ho' => ?_) (k _ (h.set1 hi _))
 have hs : (sizeOf T).run P w = .ok v.cells.size w := by simp [sizeOf, typeInfo, program, bind, Sem.bind, pure, Sem.run, hT, hz]
 have h2 := run_storeCells (P := P) v.cells.toList w off 0 arr (h.blk hi) hf (by simpa using ho) (fun u hu => List.all_eq_true.1 h1 u hu)
 have h3 : (storeVar T ⟨b, off, none⟩ v).run P w = .ok () (World.setBlk w b (.cells (blit arr off v.cells.toList) tt fz)) := by
  unfold storeVar
  rw [Sem.run_bind, hs]
  simp only [Result.andThen, ne_eq, not_true_eq_false, if_false]
  have := Sem.run_bind (P := P) (w := w) (pure () : Sem PUnit) (fun _ => storeCells ⟨b, off, none⟩ v.cells.toList)
  simpa [Sem.run, pure, bind, Sem.bind] using h2
 simp only [execOp, ho', hρ _ _ hx, hρ _ _ hy, Instr.storeAt, Instr.sureAddr]
 rw [Sem.run_bind]
 have h4 : (do storeVar T (← (pure ⟨b, off, none⟩ : Sem Addr)) v : Sem Unit).run P w = .ok () (World.setBlk w b (.cells (blit arr off v.cells.toList) tt fz)) := by
  rw [Sem.run_bind]
  simpa [Sem.run, pure, Result.andThen] using h3
 rw [h4]
 rfl
theorem run_newRow (E : TypeId) (c : Array Value) : (newRow E c).run P w = .ok ⟨w.heap.size, 0, none⟩ (w.alloc (.cells c E)) := by
 simp [newRow, newObj, Sem.run, bind, Sem.bind, pure]
theorem WL.alloc {d : Nat} {zv : Value} {ti : TypeInfo} (hd : Nat.ble (d + 1) N = true) (h : St W F cs w) (hT : P.info? T = some ti) (hz : ti.zero = some zv)
  (k : ∀ b w', St W F ([(b, .cells zv.cells T (0, 0))] :: cs) w' → WL P ops Z ks N D ((d, .pointer (some ⟨b, 0, none⟩)) :: sl) rest w') :
  WL P ops Z ks N D sl ({ dst := some d, op := .alloc T, type := t, pos := pos, after := af, guard := none } :: rest) w := by
 refine M5 (w' := w.alloc (.cells zv.cells T)) hd (fun ρ hρ o ho _ => ?_) (k _ _ (h.alloc _))
 simp [execOp, ho, Instr.alloc, zeroValue, typeInfo, program, bind, Sem.bind, pure, Sem.run, hT, hz, newVar, newRow, newObj]
theorem J3 {d : Nat} (hd : Nat.ble (d + 1) N = true) (h : St W F cs w) (hx : evs sl x = some v)
  (k : ∀ b w', St W F ([(b, .cells v.cells T (0, 0))] :: cs) w' → WL P ops Z ks N D ((d, .pointer (some ⟨b, 0, none⟩)) :: sl) rest w') :
  WL P ops Z ks N D sl ({ dst := some d, op := .box T x, type := t, pos := pos, after := af, guard := none } :: rest) w := by
 refine M5 (w' := w.alloc (.cells v.cells T)) hd (fun ρ hρ o ho _ => ?_) (k _ _ (h.alloc _))
 simp [execOp, ho, hρ _ _ hx, Instr.box, bind, Sem.bind, pure, Sem.run, newVar, newRow, newObj]
end
def IsRow (E : TypeId) (sz : Nat) (r : Res) (v : Value) (n : Nat) (cl : List Value) : Prop :=
 (r = [] ∧ v = .slice none 0 0 ∧ n = 0 ∧ cl = []) ∨
 ∃ b cap arr fz, r = [(b, .cells arr E fz)] ∧ v = .slice (some ⟨b, 0, none⟩) n cap ∧ arr.size = cap * sz ∧ n ≤ cap ∧ cl = arr.toList.take (n * sz) ∧ Free fz arr.size
theorem IsRow.nil (E : TypeId) (sz : Nat) : IsRow E sz [] (.slice none 0 0) 0 [] := .inl ⟨rfl, rfl, rfl, rfl⟩
theorem IsRow.len {E : TypeId} {sz n : Nat} {r : Res} {v : Value} {cl : List Value} (h : IsRow E sz r v n cl) : cl.length = n * sz := by
 rcases h with ⟨_, _, rfl, rfl⟩ | ⟨b, cap, arr, fz, _, _, hs, hn, rfl, _⟩
 ·simp
 have : n * sz ≤ cap * sz := Nat.mul_le_mul_right _ hn
 rw [List.length_take, Array.length_toList, hs]; omega
theorem IsRow.val {E : TypeId} {sz n : Nat} {r : Res} {v : Value} {cl : List Value} (h : IsRow E sz r v n cl) : ∃ A cap, v = .slice A n cap ∧ n ≤ cap := by
 rcases h with ⟨_, rfl, rfl, _⟩ | ⟨b, cap, arr, fz, _, rfl, _, hn, _, _⟩
 ·exact ⟨none, 0, rfl, Nat.le_refl _⟩
 exact ⟨_, cap, rfl, hn⟩
structure Src (P : Program) (w : World) (sz : Nat) (x : Value) (m : Nat) (src : List Value) : Prop where
 len : ∀ j, (Builtin.lenOf x).run P (w.drewN j) = .ok m (w.drewN j)
 cells : ∀ j, (Builtin.firstCells sz m x).run P (w.drewN j) = .ok src.toArray (w.drewN j)
 size : src.length = m * sz
 one : src.all one_ = true
section
variable {P : Program} {W w : World} {F : Snap} {cs : List Res}
theorem Src.str {s : ByteArray} : Src P w 1 (.string s) s.size (s.data.toList.map fun b => Value.int .u8 b.toNat) := by
 refine ⟨fun _ => by simp [Builtin.lenOf, Sem.run, pure], fun _ => ?_, by simp, by rw [List.all_eq_true]; intro u hu; obtain ⟨b, _, rfl⟩ := List.mem_map.1 hu; rfl⟩
 have : s.extract 0 s.size = s := ByteArray.extract_zero_size
 simp only [Builtin.firstCells, Sem.run, pure, this]
 congr 1
 apply Array.toList_inj.1
 simp
theorem Src.slice {sz m c : Nat} {A : Option Addr} {src : List Value} (hl : src.length = m * sz) (h : src = [] ∨ ∃ ad, A = some ad ∧ ∀ j v, src[j]? = some v → w.cell? (ad.add j) = some v) (h1 : src.all one_ = true) : Src P w sz (.slice A m c) m src := by
 refine ⟨fun _ => by simp [Builtin.lenOf, Sem.run, pure], fun j => ?_, hl, h1⟩
 cases A with
 |none =>
  have : src = [] := by
   rcases h with h | ⟨ad, h, _⟩
   ·exact h
   cases h
  subst this
  simp [Builtin.firstCells, Sem.run, pure]
 |some ad =>
  have hc : ∀ i v, src[i]? = some v → (w.drewN j).cell? (ad.add (0 + i)) = some v := by
   intro i v hv
   rcases h with h | ⟨ad', h, hh⟩
   ·rw [h] at hv; simp at hv
   cases h; rw [Nat.zero_add]; exact hh i v hv
  have := run_loadCells (P := P) (w := w.drewN j) (a := ad) src 0 #[] hc
  simp only [Builtin.firstCells, loadCells]
  rw [← hl]
  simpa using this
end
section
variable {P : Program} {W w : World} {F : Snap} {cs : List Res} {E t t' ty : TypeId} {ti : TypeInfo} {zv : Value} {sz bytes : Nat}
theorem growBy_le (need : Nat) : ∀ (r c : Nat), c ≤ 2 * need + 1024 → Builtin.growBy need r c ≤ 4 * need + 4096
 |0, c, h => by simp only [Builtin.growBy]; omega
 |r + 1, c, h => by
  simp only [Builtin.growBy]
  split
  ·omega
  rename_i hlt
  refine growBy_le need r _ ?_
  omega
theorem cap_le {need old : Nat} (h : old < need) : Builtin.nextslicecap need old ≤ 4 * need + 4096 := by
 unfold Builtin.nextslicecap
 split
 ·omega
 split
 ·omega
 exact growBy_le need 4 old (by omega)
structure ElemOk (P : Program) (E : TypeId) (sz bytes : Nat) : Prop where
 ok : ∃ ti zv, P.info? E = some ti ∧ ti.zero = some zv ∧ ti.size = sz ∧ ti.bytes = bytes ∧ zv.cells.size = sz ∧ 0 < sz
theorem run_append {r : Res} {v x : Value} {n m : Nat} {cl src : List Value} {d' : TypeDesc} (ht : P.underlying t = some (.slice E)) (ht' : P.underlying t' = some d') (hd' : d' = .string ∨ ∃ e, d' = .slice e) (hE : ElemOk P E sz bytes)
  (hr : IsRow E sz r v n cl) (hw : ∀ p ∈ r, w.heap[p.1]? = some p.2) (hs : Src P w sz x m src) (hsmall : (4 * (n + m) + 4096) * bytes ≤ 281474976710656) (hnm : n + m ≤ 9223372036854775807) :
  ∃ v' w' r', (Builtin.append_ #[t, t'] ty #[v, x]).run P w = .ok v' w' ∧ IsRow E sz r' v' (n + m) (cl ++ src) ∧
   ((∃ b o o', r = [(b, o)] ∧ r' = [(b, o')] ∧ w' = World.setBlk w b o') ∨ (r = [] ∧ r' = [] ∧ w' = w) ∨ (∃ o', r' = [(w.heap.size, o')] ∧ w' = (w.drewN 1).alloc o')) := by
 obtain ⟨ti, zv, hi, hz, hsz, hby, hzs, hpos⟩ := hE.ok
 obtain ⟨A, cap, hv, hncap⟩ := hr.val
 have hd0 : w.drewN 0 = w := rfl
 have hlen := hs.len 0
 have hcells0 := hs.cells 0
 have hcells1 := hs.cells 1
 rw [hd0] at hlen hcells0
 subst hsz; subst hby
 have hzeros : (do let u ← underlying t'; pure ((u matches .int _) : Bool) : Sem Bool).run P w = .ok false w := by
  rcases hd' with rfl | ⟨e, rfl⟩ <;> simp [run_underlying ht', Sem.run_bind, Result.andThen, Sem.run, pure]
 by_cases hfit : n + m ≤ cap
 ·-- in place
  rcases hr with ⟨rfl, hv', rfl, rfl⟩ | ⟨b, cap', arr, fz, rfl, hv', hsize, hn', rfl, hfree⟩
  ·rw [hv] at hv'
   injection hv' with hA _ hc
   subst hA; subst hc
   have hm : m = 0 := by omega
   subst hm
   have : src = [] := by have := hs.size; simpa using this
   subst this
   refine ⟨.slice none 0 0, w, [], ?_, .inl ⟨rfl, rfl, rfl, rfl⟩, .inr (.inl ⟨rfl, rfl, rfl⟩)⟩
   subst hv
   rcases hd' with rfl | ⟨e, rfl⟩ <;> simp [Builtin.append_, run_underlying ht, run_underlying ht', sizeOf, typeInfo, hi, hlen, hcells0]
  rw [hv] at hv'
  injection hv' with hA _ hc
  subst hA; subst hc
  subst hv
  have hb : w.heap[b]? = some (.cells arr E fz) := hw (b, .cells arr E fz) (by simp)
  have hcap : n * ti.size + src.length ≤ arr.size := by rw [hs.size, ← Nat.add_mul, hsize]; exact Nat.mul_le_mul_right _ hfit
  have hst := run_storeCells (P := P) src w (n * ti.size) 0 arr hb hfree (by simpa using hcap) (fun u hu => List.all_eq_true.1 hs.one u hu)
  refine ⟨.slice (some ⟨b, 0, none⟩) (n + m) cap, World.setBlk w b (.cells (blit arr (n * ti.size) src) E fz), [(b, .cells (blit arr (n * ti.size) src) E fz)], ?_, .inr ⟨b, cap, _, fz, rfl, rfl, by rw [blit_size, hsize], hfit, ?_, by rw [blit_size]; exact hfree⟩, .inl ⟨b, _, _, rfl, rfl, rfl⟩⟩
  ·rcases hd' with rfl | ⟨e, rfl⟩ <;> simp [Builtin.append_, run_underlying ht, run_underlying ht', sizeOf, typeInfo, hi, hlen, hcells0, hfit, add_mk, hst]
  rw [blit_toList _ _ _ hcap, Nat.add_mul, ← hs.size]
  exact (List.take_left' (by rw [List.length_append, List.length_take, Array.length_toList]; omega)).symm
 -- a new block
 have hold : (Builtin.firstCells ti.size n v).run P w.drew = .ok cl.toArray w.drew := by
  rcases hr with ⟨rfl, rfl, rfl, rfl⟩ | ⟨b, cap', arr, fz, rfl, rfl, hsize, hn', rfl, hfree⟩
  ·simp [Builtin.firstCells, Sem.run, pure]
  have hb : w.heap[b]? = some (.cells arr E fz) := hw (b, .cells arr E fz) (by simp)
  have hl : (arr.toList.take (n * ti.size)).length = n * ti.size := by
   have : n * ti.size ≤ cap' * ti.size := Nat.mul_le_mul_right _ hn'
   rw [List.length_take, Array.length_toList, hsize]; omega
  have := run_loadCells (P := P) (w := w.drew) (a := ⟨b, 0, none⟩) (arr.toList.take (n * ti.size)) 0 #[] (fun i u hu => by
   rw [add_mk]
   have hb' : w.drew.heap[b]? = some (.cells arr E fz) := hb
   rw [List.getElem?_take] at hu
   split at hu
   ·simp only [World.cell?, hb']
    simpa using hu
   cases hu)
  rw [hl] at this
  simpa [Builtin.firstCells, loadCells] using this
 have hnew : (Builtin.firstCells ti.size m x).run P w.drew = .ok src.toArray w.drew := hcells1
 have hcap : Builtin.nextslicecap (n + m) cap * ti.bytes ≤ 281474976710656 := by
  have h1 := cap_le (need := n + m) (old := cap) (by omega)
  exact Nat.le_trans (Nat.mul_le_mul_right _ h1) hsmall
 have hmax : IntKind.i64.max = 9223372036854775807 := by decide
 obtain ⟨c', hc'⟩ : ∃ c', c' = (n + m) + w.tape w.drawn (.appendCap (n + m) cap E) % (2 ^ 63 - (n + m)) := ⟨_, rfl⟩
 have hge : n + m ≤ c' := by omega
 have hroom : ∀ w0 : World, (askRoom (c' * ti.bytes)).run P w0 = .ok () w0 := by
  intro w0; unfold askRoom; split <;> simp [mark, Sem.run, pure]
 refine ⟨.slice (some ⟨w.heap.size, 0, none⟩) (n + m) c', (w.drewN 1).alloc (.cells (cl.toArray ++ (src.toArray ++ Builtin.zeroCells zv.cells (c' - (n + m)))) E), [(w.heap.size, .cells (cl.toArray ++ (src.toArray ++ Builtin.zeroCells zv.cells (c' - (n + m)))) E)], ?_, .inr ⟨w.heap.size, c', _, (0, 0), rfl, rfl, ?_, hge, ?_, Free.zero _⟩, .inr (.inr ⟨_, rfl, rfl⟩)⟩
 ·have hfor : (Question.appendCap (n + m) cap E).forced = false := rfl
  have hcut : (Question.appendCap (n + m) cap E).cut (w.tape w.drawn (.appendCap (n + m) cap E)) = c' := hc'.symm
  have hn1 : ¬ ((9223372036854775807 : Int) < (n : Int) + m) := by omega
  have hn2 : ¬ (281474976710656 < Builtin.nextslicecap (n + m) cap * ti.bytes) := by omega
  subst hv
  have e48 : (2 : Nat) ^ 48 = 281474976710656 := rfl
  rcases hd' with rfl | ⟨e, rfl⟩ <;> simp [Builtin.append_, run_underlying ht, run_underlying ht', sizeOf, typeInfo, hi, hlen, hfit, hn1, hn2, e48, hfor, hcut, hroom, hold, hnew, zeroValue, hz, run_newRow] <;> rfl
 ·simp only [Array.size_append, List.size_toArray, size_zeroCells, hzs, hr.len, hs.size, ← Nat.add_mul]
  congr 1; omega
 simp only [Array.toList_append, List.append_assoc]
 rw [← List.append_assoc]
 exact (List.take_left' (by rw [List.length_append, hr.len, hs.size, ← Nat.add_mul])).symm
end
end B
end Go.Proofs.YtifdpllfbaogcaaGreat
namespace Go.Proofs.YtifdpllfbaogcaaGreat
open Go Go.RowKit
namespace B
section
variable {P : Program} {Z : Post} {ks : List Fr} {N : Nat} {D : List Deferred} {sl : Sl} {W w : World} {ops : Array Oper} {rest : List Oper} {F : Snap} {cs : List Res} {t t' T T' E : TypeId} {x y z : Operand} {v : Value} {pos : String} {af : Array Edge} {sz bytes : Nat}
theorem St.setNew {r : Res} (h : St W F cs w) {i : Nat} (hi : cs[i]? = some r) (o : Obj) : St W F (cs.set i [(w.heap.size, o)]) (w.alloc o) := by
 obtain ⟨l1, l2, e1, e2, e3⟩ := split_at cs i _ hi
 rw [e2]
 have h1 := (h.alloc o).drop (i + 1)
 simp only [List.eraseIdx_cons_succ, e3] at h1
 exact h1.perm List.perm_middle
theorem set_self {α : Type} : ∀ (l : List α) (i : Nat) (x : α), l[i]? = some x → l.set i x = l
 |[], _, _, h => by simp at h
 |a :: l, 0, x, h => by simp only [List.getElem?_cons_zero, Option.some.injEq] at h; subst h; rfl
 |a :: l, i + 1, x, h => by simp only [List.getElem?_cons_succ] at h; simp [set_self l i x h]
theorem WL.append (i : Nat) (h : St W F cs w) {r : Res} (hi : cs[i]? = some r) {d : Nat} (hd : Nat.ble (d + 1) N = true) {xv : Value} {n m : Nat} {cl src : List Value} {d' : TypeDesc} (hx : evs sl x = some v) (hy : evs sl y = some xv)
  (ht : P.underlying T = some (.slice E)) (ht' : P.underlying T' = some d') (hd' : d' = .string ∨ ∃ e, d' = .slice e) (hE : ElemOk P E sz bytes)
  (hr : IsRow E sz r v n cl) (hs : Src P w sz xv m src) (hsmall : (4 * (n + m) + 4096) * bytes ≤ 281474976710656) (hnm : n + m ≤ 9223372036854775807)
  (k : ∀ r' v' w', IsRow E sz r' v' (n + m) (cl ++ src) → St W F (cs.set i r') w' → WL P ops Z ks N D ((d, v') :: sl) rest w') :
  WL P ops Z ks N D sl ({ dst := some d, op := .call { callee := .builtin .append, args := #[x, y], argTypes := #[T, T'] }, type := t, pos := pos, after := af, guard := none } :: rest) w := by
 obtain ⟨v', w', r', hrun, hr', hw'⟩ := run_append (ty := t) ht ht' hd' hE hr (fun p hp => (h.own p (List.mem_flatten.2 ⟨_, List.mem_of_getElem? hi, hp⟩)).1) hs hsmall hnm
 have hst : St W F (cs.set i r') w' := by
  rcases hw' with ⟨b, o, o', rfl, rfl, rfl⟩ | ⟨rfl, rfl, rfl⟩ | ⟨o', rfl, rfl⟩
  ·exact h.set1 hi o'
  ·rw [set_self _ _ _ hi]; exact h
  exact (h.below (w' := w.drewN 1) ⟨rfl, rfl, rfl, Nat.le_refl _, fun _ _ => rfl⟩).setNew hi o'
 refine M5 (w' := w') hd (fun ρ hρ o ho hty => ?_) (k r' v' w' hr' hst)
 simp [execOp, ho, hρ _ _ hx, hρ _ _ hy, resolve, invoke, builtin, hty, hrun]
def pargs (sl : Sl) : List (Nat × Operand) → Option (List (Nat × Value))
 |[] => some []
 |(i, x) :: r => match evs sl x, pargs sl r with | some v, some l => some ((i, v) :: l) | _, _ => none
theorem pargs_spec {ρ : Operand → Value} (hρ : ∀ x v, evs sl x = some v → ρ x = v) : ∀ (xs : List (Nat × Operand)) (vs : List (Nat × Value)), pargs sl xs = some vs → xs.map (fun p => (p.1, ρ p.2)) = vs
 |[], vs, h => by simp [pargs] at h; simp [h]
 |(i, x) :: r, vs, h => by
  unfold pargs at h
  cases h1 : evs sl x with
  |none => rw [h1] at h; simp at h
  |some v =>
   cases h2 : pargs sl r with
   |none => rw [h1, h2] at h; simp at h
   |some l =>
    rw [h1, h2] at h
    simp only [Option.some.injEq] at h
    subst h
    simp [hρ x v h1, pargs_spec hρ r l h2]
def numbered : Nat → List Value → List (Nat × Value)
 |_, [] => []
 |i, v :: r => (i, v) :: numbered (i + 1) r
theorem foldl_blit (c : Array Value) : ∀ (l : List Value) (cells : Array Value) (off j : Nat), (l.zipIdx j).foldl (fun cs (p : Value × Nat) => cs.setIfInBounds (off + p.2) p.1) cells = blit cells (off + j) l
 |[], _, _, _ => rfl
 |v :: r, cells, off, j => by
  simp only [List.zipIdx_cons, List.foldl_cons, blit]
  exact foldl_blit c r _ off (j + 1)
theorem fill_all {place : Nat → Option (Nat × Nat)} (hp : ∀ i, place i = some (i * sz, sz)) : ∀ (vs : List Value) (i : Nat) (pre : List Value) (cells : Array Value), pre.length = i * sz → (∀ v ∈ vs, v.cells.size = sz) →
  cells.toList.take (i * sz) = pre → cells.size = (i + vs.length) * sz → Instr.fill place cells (numbered i vs) = some (pre ++ vs.flatMap (·.cells.toList)).toArray
 |[], i, pre, cells, hl, _, ht, hs => by
  simp only [numbered, Instr.fill, List.flatMap_nil, List.append_nil, Option.some.injEq]
  apply Array.toList_inj.1
  rw [← ht, List.take_of_length_le (by rw [Array.length_toList, hs]; simp)]
 |v :: r, i, pre, cells, hl, hv, ht, hs => by
  have h1 : v.cells.size = sz := hv v (by simp)
  simp only [List.length_cons] at hs
  have h2 : i * sz + sz ≤ cells.size := by
   rw [hs, show i * sz + sz = (i + 1) * sz by rw [Nat.add_mul, Nat.one_mul]]
   exact Nat.mul_le_mul_right _ (by omega)
  simp only [numbered, Instr.fill, hp, h1, ne_eq, not_true_eq_false, decide_false, Bool.false_or, decide_eq_true_eq]
  rw [if_neg (by omega)]
  have e : (v.cells.zipIdx.foldl (fun cs (x : Value × Nat) => cs.setIfInBounds (i * sz + x.2) x.1) cells) = blit cells (i * sz) v.cells.toList := by
   rw [← Array.foldl_toList, Array.toList_zipIdx]
   exact foldl_blit cells v.cells.toList cells (i * sz) 0
  have hb := blit_toList v.cells.toList cells (i * sz) (by simpa [h1] using h2)
  have key := fill_all hp r (i + 1) (pre ++ v.cells.toList) (blit cells (i * sz) v.cells.toList) (by simp [hl, h1, Nat.add_mul]) (fun u hu => hv u (by simp [hu])) (by
   rw [hb, ht]
   exact List.take_left' (by simp [hl, h1, Nat.add_mul])) (by rw [blit_size, hs]; congr 1; omega)
  have e2 : (v.cells.zipIdx.foldl (fun cs x => match x with | (c, j) => cs.setIfInBounds (i * sz + j) c) cells) = blit cells (i * sz) v.cells.toList := e
  rw [e2, key]
  simp
theorem V4 (h : St W F cs w) {d : Nat} (hd : Nat.ble (d + 1) N = true) {n : Nat} {ps : List (Nat × Operand)} {vs : List Value} (hT : P.underlying T = some (.slice E)) (hE : ElemOk P E sz bytes) (hp : pargs sl ps = some (numbered 0 vs)) (hn : vs.length = n)
  (hv : vs.all (fun v => v.cells.size == sz) = true) (hbig : n * sz ≤ 16777216)
  (k : ∀ b w', St W F ([(b, .cells (vs.flatMap (·.cells.toList)).toArray E (0, 0))] :: cs) w' → WL P ops Z ks N D ((d, .slice (some ⟨b, 0, none⟩) n n) :: sl) rest w') :
  WL P ops Z ks N D sl ({ dst := some d, op := .buildSlice T n ps.toArray, type := t, pos := pos, after := af, guard := none } :: rest) w := by
 obtain ⟨ti, zv, hi, hz, hsz, hby, hzs, hpos⟩ := hE.ok
 refine M5 (w' := w.alloc (.cells (vs.flatMap (·.cells.toList)).toArray E)) hd (fun ρ hρ o ho _ => ?_) (k _ _ (h.alloc _))
 subst hn
 have hf : ∀ cells : Array Value, cells.size = vs.length * sz → Instr.fill (fun i => some (i * sz, sz)) cells (numbered 0 vs) = some (vs.flatMap (·.cells.toList)).toArray := by
  intro cells hc
  have := fill_all (place := fun i => some (i * sz, sz)) (fun _ => rfl) vs 0 [] cells (by simp) (fun v hvv => by simpa using List.all_eq_true.1 hv v hvv) (by simp) (by simpa using hc)
  simpa using this
 have hps : (ps.toArray.map fun (p : Nat × Operand) => (p.1, ρ p.2)) = (numbered 0 vs).toArray := by rw [List.map_toArray, pargs_spec hρ ps _ hp]
 have hrun : (Instr.buildSlice T vs.length (numbered 0 vs).toArray).run P w = .ok (.slice (some ⟨w.heap.size, 0, none⟩) vs.length vs.length) (w.alloc (.cells (vs.flatMap (·.cells.toList)).toArray E)) := by
  have hb : ¬ (16777216 < vs.length * sz) := by omega
  have e24 : (2 : Nat) ^ 24 = 16777216 := rfl
  by_cases h0 : vs.length * sz = 0
  ·have hvs : vs = [] := by
    have : vs.length = 0 := by
     rcases Nat.mul_eq_zero.1 h0 with h | h
     ·exact h
     omega
    exact List.eq_nil_of_length_eq_zero this
   subst hvs
   simp [Instr.buildSlice, run_underlying hT, sizeOf, typeInfo, hi, hsz, e24, numbered, Instr.fill, run_newRow]
   exact congrArg (fun c => w.alloc (.cells c E)) (Array.eq_empty_of_size_eq_zero (by simp))
  have hff := hf ((Array.range (vs.length * sz)).map (fun i => zv.cells[i % zv.cells.size]!)) (by simp)
  simp [Instr.buildSlice, run_underlying hT, sizeOf, typeInfo, hi, hsz, e24, hb, h0, zeroValue, hz, hff, run_newRow]
 simp only [execOp, ho]
 rw [Sem.run_bind]
 have : (ps.toArray.map fun x => match x with | (i, x) => (i, ρ x)) = (numbered 0 vs).toArray := hps
 rw [this, hrun]
 rfl
theorem Y5 {A : Option Addr} {len cap : Nat} {bs : List UInt8} (hs : P.underlying T = some (.slice E)) (he : P.underlying E = some (.int .u8)) (hd : P.underlying T' = some .string) (hx : evs sl x = some (.slice A len cap)) (hl : len = bs.length)
  (hc : bs = [] ∨ ∃ ad, A = some ad ∧ ∀ j b, bs[j]? = some b → w.cell? (ad.add j) = some (.int .u8 b.toNat)) : Runs P sl (.convert T T' x) t w (.string ⟨bs.toArray⟩) := fun ρ hρ o ho _ => by
 subst hl
 have key : (convert T T' (.slice A bs.length cap)).run P w = .ok (.string ⟨bs.toArray⟩) w := by
  cases A with
  |none =>
   have : bs = [] := by
    rcases hc with h | ⟨ad, h, _⟩
    ·exact h
    cases h
   subst this
   rw [run_convert_bytes_string w T T' E none _ _ hs he hd]
   simp [Conv.bytesToString, Sem.run, pure]
   rfl
  |some ad =>
   refine run_convert_bytes_back w T T' E ad cap bs hs he hd (fun j hj => ?_)
   rcases hc with h | ⟨ad', h, hh⟩
   ·subst h; simp at hj
   cases h; exact hh j _ (List.getElem?_eq_getElem hj)
 simp [execOp, ho, hρ _ _ hx, key]
theorem WL.s2b (h : St W F cs w) {d : Nat} (hd : Nat.ble (d + 1) N = true) {s : ByteArray} (hs : P.underlying T = some .string) (hT : P.underlying T' = some (.slice E)) (hE : P.underlying E = some (.int .u8)) (hx : evs sl x = some (.string s))
  (k : ∀ r v' w', IsRow E 1 r v' s.size (s.data.toList.map fun b => Value.int .u8 b.toNat) → St W F (r :: cs) w' → WL P ops Z ks N D ((d, v') :: sl) rest w') :
  WL P ops Z ks N D sl ({ dst := some d, op := .convert T T' x, type := t, pos := pos, after := af, guard := none } :: rest) w := by
 have hrun := run_bytes_of_string (P := P) w T T' E s hs hT hE
 have hge : s.size ≤ grownCap w s.size 0 E := grownCap_ge w s.size 0 E
 refine M5 (w' := w.drew.alloc (.cells (bytesRow s (grownCap w s.size 0 E)) E ((bytesRow s (grownCap w s.size 0 E)).size, (bytesRow s (grownCap w s.size 0 E)).size + 1))) (v := .slice (some ⟨w.heap.size, 0, none⟩) s.size (grownCap w s.size 0 E)) hd (fun ρ hρ o ho _ => ?_)
  (k [(w.heap.size, .cells (bytesRow s (grownCap w s.size 0 E)) E ((bytesRow s (grownCap w s.size 0 E)).size, (bytesRow s (grownCap w s.size 0 E)).size + 1))] _ _ ?_ ?_)
 ·simp [execOp, ho, hρ _ _ hx, hrun]
 ·refine .inr ⟨w.heap.size, _, _, _, rfl, rfl, ?_, hge, ?_, ?_⟩
  ·simp [bytesRow]; exact Nat.add_sub_cancel' hge
  ·have h1 : s.data.toList.length = s.size := by simp
   simp only [bytesRow, Array.toList_append, Array.toList_map, Nat.mul_one]
   exact (List.take_left' (by simp)).symm
  intro j hj hh
  simp only at hh; omega
 exact (h.drew).alloc _
theorem WL.copy (h : St W F cs w) (i : Nat) {b off len cap m : Nat} {arr : Array Value} {tt : TypeId} {fz : Nat × Nat} {d : Nat} (hd : Nat.ble (d + 1) N = true) (hi : cs[i]? = some [(b, .cells arr tt fz)]) {xv : Value} {src : List Value}
  (hT : P.underlying T = some (.slice E)) (hE : ElemOk P E sz bytes) (hx : evs sl x = some (.slice (some ⟨b, off, none⟩) len cap)) (hy : evs sl y = some xv) (hm : (Builtin.lenOf xv).run P w = .ok m w) (hs : (Builtin.firstCells sz (Nat.min m len) xv).run P w = .ok src.toArray w)
  (h1 : src.all one_ = true) (hf : Free fz arr.size) (ho : off + src.length ≤ arr.size)
  (k : ∀ w', St W F (cs.set i [(b, .cells (blit arr off src) tt fz)]) w' → WL P ops Z ks N D ((d, .int .i64 (Nat.min m len : Nat)) :: sl) rest w') :
  WL P ops Z ks N D sl ({ dst := some d, op := .call { callee := .builtin .copy, args := #[x, y], argTypes := #[T, T'] }, type := t, pos := pos, after := af, guard := none } :: rest) w := by
 obtain ⟨ti, zv, hti, hz, hsz, hby, hzs, hpos⟩ := hE.ok
 refine M5 (w' := World.setBlk w b (.cells (blit arr off src) tt fz)) hd (fun ρ hρ o ho' _ => ?_) (k _ (h.set1 hi _))
 have hst := run_storeCells (P := P) src w off 0 arr (h.blk hi) hf (by simpa using ho) (fun u hu => List.all_eq_true.1 h1 u hu)
 have : (Builtin.copy_ #[T, T'] t #[.slice (some ⟨b, off, none⟩) len cap, xv]).run P w = .ok (.int .i64 (Nat.min m len : Nat)) (World.setBlk w b (.cells (blit arr off src) tt fz)) := by
  subst hsz
  simp [Builtin.copy_, run_underlying hT, sizeOf, typeInfo, hti, hm, hs, hst, goInt]
 simp [execOp, ho', hρ _ _ hx, hρ _ _ hy, resolve, invoke, builtin, this]
 rename_i hty
 have := this
 simp_all [Builtin.copy_, run_underlying hT, sizeOf, typeInfo, hti, hm, hs, hst, goInt]
def WQ (P : Program) (ops : Array Oper) (C : World → Prop) (Q : Act → Prop) (N : Nat) (D : List Deferred) (sl : Sl) (rest : List Oper) : Prop := ∀ a, Ag N D sl a → wpQuiet P ops C Q rest a
theorem T2 (C : World → Prop) {id : Nat} {l : List Oper} (hm : P.follows .mixedOrders = true) (hB : Region.lexB .any l.toArray = true) (hC : C { w with drawn := w.drawn + 1 })
  (h : WQ P l.toArray C (fun a' => ∀ w', C w' → den P Z ks .normal a' w') N D sl l) : WC P Z ks N D sl (.region id l.toArray true) w := fun a ha =>
 wp_region_quiet (C := C) hm hB hC (by simpa using h a ha)
theorem K3 {C : World → Prop} (h : ∀ w', C w' → WN P Z ks N D sl w') : WQ P ops C (fun a' => ∀ w', C w' → den P Z ks .normal a' w') N D sl [] := fun a ha w' hC => h w' hC a ha
theorem X0 {C : World → Prop} {Q : Act → Prop} {d : Nat} {op : Op} {v : Value} (h : ∀ w, C w → Runs P sl op t w v) (hd : Nat.ble (d + 1) N = true) (k : WQ P ops C Q N D ((d, v) :: sl) rest) :
  WQ P ops C Q N D sl ({ dst := some d, op := op, type := t, pos := pos, after := af, guard := none } :: rest) := fun a ha => by
 refine wpQuiet_step fun K hK => ?_
 rw [if_pos (by rfl)]
 refine ⟨v, fun w hC => ?_, hK _ (k _ (ha.put (Nat.le_of_ble_eq_true hd) v))⟩
 unfold Oper.quietAt
 rw [h w hC a.eval (fun x v hx => ha.ev hx) _ rfl rfl]
 exact ⟨rfl, rfl⟩
theorem H4 {C : World → Prop} {Q : Act → Prop} {d : Nat} {f : FuncId} {xs : List Operand} {vs : List Value} {ts : Array TypeId} {v : Value} (hc : Can P f) (hv : args_ sl xs = some vs) (hd : Nat.ble (d + 1) N = true)
  (c : ∀ w, C w → Calls P f vs.toArray w fun e w' => e = .returned v ∧ C w') (k : WQ P ops C Q N D ((d, v) :: sl) rest) :
  WQ P ops C Q N D sl ({ dst := some d, op := .call { callee := .value (.func f), args := xs.toArray, argTypes := ts }, type := t, pos := pos, after := af, guard := none } :: rest) := fun a ha => by
 refine wpQuiet_step fun K hK => ?_
 rw [if_pos (by rfl)]
 refine ⟨v, fun w hC => ?_, hK _ (k _ (ha.put (Nat.le_of_ble_eq_true hd) v))⟩
 unfold Oper.quietAt
 rw [exec_call hc rfl rfl (args_spec (fun x v hx => ha.ev hx) xs vs hv)]
 exact ⟨rfl, c w hC⟩
end
end B
end Go.Proofs.YtifdpllfbaogcaaGreat
namespace Go.Proofs.YtifdpllfbaogcaaGreat
open Go Go.RowKit
namespace B
def Inf (P : Program) (T : TypeId) (z : Value) (sz bytes : Nat) : Prop := (P.info? T).map (fun i => (i.zero, i.size, i.bytes)) = some (some z, sz, bytes)
theorem Inf.get {P : Program} {T : TypeId} {z : Value} {sz bytes : Nat} (h : Inf P T z sz bytes) : ∃ ti, P.info? T = some ti ∧ ti.zero = some z ∧ ti.size = sz ∧ ti.bytes = bytes := by
 unfold Inf at h
 cases hq : P.info? T with
 |none => rw [hq] at h; simp at h
 |some ti =>
  rw [hq] at h
  simp only [Option.map_some, Option.some.injEq, Prod.mk.injEq] at h
  exact ⟨ti, rfl, h.1, h.2.1, h.2.2⟩
theorem Inf.elem {P : Program} {T : TypeId} {z : Value} {sz bytes : Nat} (h : Inf P T z sz bytes) (hz : z.cells.size = sz) (h0 : Nat.ble 1 sz = true) : ElemOk P T sz bytes := by
 obtain ⟨ti, h1, h2, h3, h4⟩ := h.get
 exact ⟨ti, z, h1, h2, h3, h4, hz, Nat.le_of_ble_eq_true h0⟩
section
variable {P : Program} {Z : Post} {ks : List Fr} {N : Nat} {D : List Deferred} {sl : Sl} {W w : World} {ops : Array Oper} {rest : List Oper} {F : Snap} {cs : List Res} {t T T' E : TypeId} {x y : Operand} {v zv : Value} {pos : String} {af : Array Edge} {sz bytes : Nat} {k : IntKind}
theorem O2 {d : Nat} (hd : Nat.ble (d + 1) N = true) (h : St W F cs w) (hT : Inf P T zv sz bytes)
  (k : ∀ b w', St W F ([(b, .cells zv.cells T (0, 0))] :: cs) w' → WL P ops Z ks N D ((d, .pointer (some ⟨b, 0, none⟩)) :: sl) rest w') :
  WL P ops Z ks N D sl ({ dst := some d, op := .alloc T, type := t, pos := pos, after := af, guard := none } :: rest) w := by
 obtain ⟨ti, h1, h2, _⟩ := hT.get
 exact WL.alloc hd h h1 h2 k
theorem C4 (h : St W F cs w) (i : Nat) {b off : Nat} {arr : Array Value} {tt : TypeId} {fz : Nat × Nat} (hi : cs[i]? = some [(b, .cells arr tt fz)]) (hx : evs sl x = some (.pointer (some ⟨b, off, none⟩))) (hy : evs sl y = some v)
  (hT : Inf P T zv sz bytes) (hz : sz = v.cells.size) (h1 : v.cells.toList.all one_ = true) (hf : Free fz arr.size) (ho : off + v.cells.size ≤ arr.size)
  (k : ∀ w', St W F (cs.set i [(b, .cells (blit arr off v.cells.toList) tt fz)]) w' → WL P ops Z ks N D sl rest w') :
  WL P ops Z ks N D sl ({ dst := none, op := .store T x y, type := t, pos := pos, after := af, guard := none } :: rest) w := by
 obtain ⟨ti, h2, _, h3, _⟩ := hT.get
 exact WL.store h i hi hx hy h2 (h3.trans hz) h1 hf ho k
theorem Runs.aidx {b o' n : Nat} {j : Int} (hu : P.underlying T = some (.array n E)) (hi : Inf P E zv 1 bytes) (hx : evs sl x = some (.pointer (some ⟨b, o', none⟩))) (hy : evs sl y = some (.int k j)) (hj : 0 ≤ j ∧ j < n) :
  Runs P sl (.indexAddr T x y) t w (.pointer (some ⟨b, o' + j.toNat, none⟩)) := by
 obtain ⟨ti, h1, _, h3, _⟩ := hi.get
 have := Runs.aindex (t := t) (w := w) hu h1 h3 hx hy hj
 rwa [add_mk, Nat.mul_one] at this
theorem O4 {a : Addr} {len cap : Nat} {j : Int} (hu : P.underlying T = some (.slice E)) (hi : Inf P E zv sz bytes) (hx : evs sl x = some (.slice (some a) len cap)) (hy : evs sl y = some (.int k j)) (hj : 0 ≤ j ∧ j < len) :
  Runs P sl (.indexAddr T x y) t w (.pointer (some (a.add (j.toNat * sz)))) := by
 obtain ⟨ti, h1, _, h3, _⟩ := hi.get
 exact Runs.lindex hu h1 h3 hx hy hj
theorem Runs.asl {b n : Nat} {lo hi' : Option Operand} {l h : Option Int} (hu : P.underlying T = some (.array n E)) (hi : Inf P E zv 1 bytes) (hx : evs sl x = some (.pointer (some ⟨b, 0, none⟩))) (h1 : evo sl lo = some l) (h2 : evo sl hi' = some h) (hb : okb l h n n) :
  Runs P sl (.slice T x lo hi' none) t w (.slice (some ⟨b, if n = lo_ l then 0 else lo_ l, none⟩) (hi_ h n - lo_ l) (n - lo_ l)) := by
 obtain ⟨ti, h3, _, h4, _⟩ := hi.get
 have := Runs.aslice (t := t) (w := w) hu h3 h4 hx h1 h2 hb
 rw [add_mk, Nat.mul_one, Nat.zero_add] at this
 have e : (some (if n = lo_ l then (⟨b, 0, none⟩ : Addr) else ⟨b, lo_ l, none⟩)) = some ⟨b, if n = lo_ l then 0 else lo_ l, none⟩ := by split <;> rfl
 rwa [e] at this
theorem Runs.lsl {A : Option Addr} {len cap : Nat} {lo hi' : Option Operand} {l h : Option Int} (hu : P.underlying T = some (.slice E)) (hi : Inf P E zv sz bytes) (hx : evs sl x = some (.slice A len cap)) (h1 : evo sl lo = some l) (h2 : evo sl hi' = some h) (hb : okb l h len cap) :
  Runs P sl (.slice T x lo hi' none) t w (.slice (if cap = lo_ l then A else A.map (·.add (lo_ l * sz))) (hi_ h len - lo_ l) (cap - lo_ l)) := by
 obtain ⟨ti, h3, _, h4, _⟩ := hi.get
 exact Runs.lslice hu h3 h4 hx h1 h2 hb
theorem U2 (h : St W F cs w) (i : Nat) {b : Nat} {arr : Array Value} {tt : TypeId} {fz : Nat × Nat} {d : TypeDesc} (hi : cs[i]? = some [(b, .cells arr tt fz)]) (hu : P.underlying T = some d) (hs : scal d = false) (hT : Inf P T zv sz bytes) (hz : sz = arr.size) (hx : evs sl x = some (.pointer (some ⟨b, 0, none⟩))) :
  Runs P sl (.load T x) t w (.agg arr) := by
 obtain ⟨ti, h1, _, h3, _⟩ := hT.get
 have := Q5 (t := t) (w := w) (vs := arr.toList) hu hs h1 (by rw [h3, hz]; simp) hx (fun j v hv => by
  rw [add_mk, Nat.zero_add]
  exact h.ocell hi (by simpa using hv))
 simpa using this
theorem run_loadVarA {a : Addr} {d : TypeDesc} {vs : List Value} (hu : P.underlying T = some d) (hs : scal d = false) (hT : Inf P T zv sz bytes) (hz : sz = vs.length) (hc : ∀ j v, vs[j]? = some v → w.cell? (a.add j) = some v) : (loadVar T a).run P w = .ok (.agg vs.toArray) w := by
 obtain ⟨ti, h1, _, h3, _⟩ := hT.get
 have := Q5 (P := P) (sl := [(0, .pointer (some a))]) (x := .tmp 0) (t := 0) (w := w) (vs := vs) hu hs h1 (h3.trans hz) rfl hc
 have h4 := this (fun | .tmp 0 => .pointer (some a) | .tmp _ => undef | .const c => c | .global g => .pointer (some ⟨g, 0, none⟩) | .func f => .func (.func f) #[] #[]) (fun x v hx => by
  cases x with
  |tmp t' =>
   cases t' with
   |zero => simpa [evs, lk] using hx
   |succ n => exact absurd hx (by show (none : Option Value) ≠ some v; simp)
  |const c => simpa [evs] using hx
  |global g => simpa [evs] using hx
  |func f => simpa [evs] using hx) { dst := none, op := .load T (.tmp 0), type := 0, pos := "", after := #[], guard := none } rfl rfl
 simp only [execOp] at h4
 rw [Sem.run_bind] at h4
 have h5 : (Instr.loadAt T (.pointer (some a))).run P w = (loadVar T a).run P w := by
  unfold Instr.loadAt
  rw [Sem.run_bind]
  simp [Instr.sureAddr, Sem.run, pure, Result.andThen]
 rw [h5] at h4
 cases hr : (loadVar T a).run P w with
 |ok u w1 =>
  rw [hr] at h4
  simp only [Result.andThen, Sem.run, pure] at h4
  injection h4 with e1 e2
  injection e1 with e1
  rw [e1, e2]
 |halt q w1 =>
  rw [hr] at h4
  simp [Result.andThen] at h4
def ResOk (P : Program) (sl : Sl) (w : World) : ResultVar → Value → Prop
 |.tmp t, v => lk sl t = some v
 |.cell a T, v => ∃ ad, lk sl a = some (.pointer (some ad)) ∧ (loadVar T ad).run P w = .ok v w
theorem run_res {a : Act} (ha : Ag N [] sl a) {r : ResultVar} {v : Value} (h : ResOk P sl w r v) :
  (∃ t, r = .tmp t ∧ a.tmps[t]? = some v) ∨ ∃ c T ad, r = .cell c T ∧ a.tmps[c]? = some (.pointer (some ad)) ∧ (loadVar T ad).run P w = .ok v w := by
 cases r with
 |tmp t => exact .inl ⟨t, rfl, ha.ag t v h⟩
 |cell c T =>
  obtain ⟨ad, h1, h2⟩ := h
  exact .inr ⟨c, T, ad, rfl, ha.ag c _ h1, h2⟩
theorem retA {fn : Func} {R : Ending → World → Prop} {r : ResultVar} {v : Value} (hr : fn.results = #[r]) (hv : ResOk P sl w r v) (hR : R (.returned v) w) : ∀ a, Ag N [] sl a → bodyPost P fn R .ret a w := fun a ha =>
 ⟨ha.df, v, by rcases run_res ha hv with ⟨t, rfl, h1⟩ | ⟨c, T, ad, rfl, h1, h2⟩ <;> simp_all [results, asAddr], hR⟩
theorem retB {fn : Func} {R : Ending → World → Prop} {r s : ResultVar} {v u : Value} (hr : fn.results = #[r, s]) (hv : ResOk P sl w r v) (hu : ResOk P sl w s u) (hR : R (.returned (.tuple #[v, u])) w) : ∀ a, Ag N [] sl a → bodyPost P fn R .ret a w := fun a ha =>
 ⟨ha.df, .tuple #[v, u], by rcases run_res ha hv with ⟨t, rfl, h1⟩ | ⟨c, T, ad, rfl, h1, h2⟩ <;> rcases run_res ha hu with ⟨t', rfl, h1'⟩ | ⟨c', T', ad', rfl, h1', h2'⟩ <;> simp_all [results, asAddr], hR⟩
end
end B
end Go.Proofs.YtifdpllfbaogcaaGreat
namespace Go.Proofs.YtifdpllfbaogcaaGreat
open Go Go.RowKit
namespace B
def np (Q : Post) : Post
 |.normal, a, w => Q .normal a w
 |_, _, _ => False
theorem np_imp {Q : Post} : ∀ e a w, np Q e a w → Q e a w := fun e a w h => by cases e <;> first | exact h | exact h.elim
section
variable {P : Program} {ops : Array Oper} {C : World → Prop} {eff : Nat → Bool} {Q : Post}
inductive Anc (ops : Array Oper) : Nat → Nat → Prop
 |here {j k : Nat} {o : Oper} {e : Edge} (ho : ops[j]? = some o) (he : e ∈ o.after) (hb : Region.binds .any e = true) (hk : e.on = k) : Anc ops j k
 |step {j k : Nat} {o : Oper} {e : Edge} (ho : ops[j]? = some o) (he : e ∈ o.after) (hb : Region.binds .any e = true) (hk : Anc ops e.on k) : Anc ops j k
def ancB (ops : Array Oper) : Nat → Nat → Nat → Bool
 |0, _, _ => false
 |f + 1, j, k => match ops[j]? with
  |some o => o.after.any (fun e => Region.binds .any e && e.on == k) || o.after.any (fun e => Region.binds .any e && ancB ops f e.on k)
  |none => false
theorem ancB_spec : ∀ (f j k : Nat), ancB ops f j k = true → Anc ops j k
 |0, _, _, h => by simp [ancB] at h
 |f + 1, j, k, h => by
  unfold ancB at h
  cases ho : ops[j]? with
  |none => rw [ho] at h; simp at h
  |some o =>
   rw [ho] at h
   simp only [Bool.or_eq_true] at h
   rcases h with h | h
   ·obtain ⟨e, he, hb⟩ := Array.any_eq_true'.1 h
    simp only [Bool.and_eq_true, beq_iff_eq] at hb
    exact .here ho he hb.1 hb.2
   obtain ⟨e, he, hb⟩ := Array.any_eq_true'.1 h
   simp only [Bool.and_eq_true] at hb
   exact .step ho he hb.1 (ancB_spec f e.on k hb.2)
def DC (ops : Array Oper) (listed : Array Bool) : Prop := ∀ j o, ops[j]? = some o → listed.getD j false = true → ∀ e ∈ o.after, Region.binds .any e = true → listed.getD e.on false = true
theorem DC.anc {listed : Array Bool} (h : DC ops listed) {j k : Nat} (ha : Anc ops j k) (hj : ∀ o, ops[j]? = some o → ∀ e ∈ o.after, Region.binds .any e = true → listed.getD e.on false = true) : listed.getD k false = true := by
 induction ha with
 |here ho he hb hk => subst hk; exact hj _ ho _ he hb
 |step ho he hb hk ih =>
  refine ih<|fun o' ho' e' he' hb' =>h _ o' ho' (hj _ ho _ he hb) e' he' hb'
theorem DC.set {listed : Array Bool} (h : DC ops listed) {i : Nat} (hi : i ∈ Region.ready .any ops listed) : DC ops (listed.setIfInBounds i true) := by
 intro j o ho hl e he hb
 obtain ⟨_, oi, hoi, hall⟩ := mem_ready.1 hi
 by_cases hji : i = j
 ·subst hji
  rw [hoi] at ho
  injection ho with ho
  subst ho
  exact getD_set_true (hall e he hb)
 rw [getD_set_ne false hji] at hl
 exact getD_set_true (h j o ho hl e he hb)
def wpAnyM (P : Program) (ops : Array Oper) (C : World → Prop) (eff : Nat → Bool) (Q : Post) : Nat → Array Bool → Act → Prop
 |0, listed, a => Region.ready .any ops listed = [] ∧ ∀ w, C w → Q .normal a w
 |f + 1, listed, a => (Region.ready .any ops listed = [] → ∀ w, C w → Q .normal a w) ∧
  ∀ i ∈ Region.ready .any ops listed, if eff i = true then ∀ w, C w → wpOp P ops Q i (wpAny P .any ops Q f (listed.setIfInBounds i true)) a w else qOp P ops C i (wpAnyM P ops C eff Q f (listed.setIfInBounds i true)) a
theorem any_of_M : ∀ (f : Nat) (listed : Array Bool) (a : Act) (w : World), C w → wpAnyM P ops C eff Q f listed a → wpAny P .any ops Q f listed a w
 |0, _, _, _, hw, h => ⟨h.1, h.2 _ hw⟩
 |f + 1, listed, a, w, hw, h => ⟨fun h0 => h.1 h0 w hw, fun i hi => by
   have h2 := h.2 i hi
   split at h2
   ·exact h2 w hw
   exact wpOp_of_qOp hw (fun a' w' hw' hh => any_of_M f _ a' w' hw' hh) h2⟩
theorem M_first {k : Nat} {ok : Oper} {v : Value} (hk : ops[k]? = some ok) (hsel : ∀ (j : Nat) (o : Oper) cs b, ops[j]? = some o → o.op ≠ .select cs b) (hek : eff k = false) :
  ∀ (fuel : Nat) (listed : Array Bool) (a : Act), DC ops listed →
   (∀ j oj, ops[j]? = some oj → j ≠ k → listed.getD j true = false → (∀ e ∈ oj.after, Region.binds .any e = true → e.on ≠ k) → ok.apart ops oj = true) →
   k ∈ Region.ready .any ops listed → YieldsIn P ops C ok v a → (Yields P ops ok v a ∨ ∀ j, eff j = true → listed.getD j true = false → Anc ops j k) →
   wpAnyM P ops C eff (np Q) fuel (listed.setIfInBounds k true) (a.put ok.dst v) → wpAnyM P ops C eff (np Q) (fuel + 1) listed a := by
 intro fuel
 induction fuel with
 |zero =>
  intro listed a hdc _ hr hy hE H
  refine ⟨fun h => (by rw [h] at hr; cases hr), fun j hj => ?_⟩
  by_cases hji : j = k
  ·subst hji
   rw [if_neg (by rw [hek]; simp)]
   exact hy.qOp hk H
  have := ready_mono hj hji
  rw [H.1] at this
  cases this
 |succ fuel ih =>
  intro listed a hdc hfree hr hy hE H
  refine ⟨fun h => (by rw [h] at hr; cases hr), fun j hj => ?_⟩
  by_cases hji : j = k
  ·subst hji
   rw [if_neg (by rw [hek]; simp)]
   exact hy.qOp hk H
  obtain ⟨hjun, oj, hoj, hall⟩ := mem_ready.1 hj
  have hkun : listed.getD k false = false := by
   have h0 := (mem_ready.1 hr).1
   rcases Nat.lt_or_ge k listed.size with h' | h'
   ·simp [h'] at h0 ⊢; exact h0
   simp [Array.getElem?_eq_none h'] at h0
  by_cases hej : eff j = true
  ·rw [if_pos hej]
   rcases hE with hE | hE
   ·intro w hw
    have h1 := any_of_M (fuel + 1) _ _ w hw H
    have h2 := wpAny_first (Q := np Q) hk hsel (fun c a w h => h.elim) (fuel + 1) listed a w hfree hr hE h1
    exact h2.2 j hj
   have := hdc.anc (hE j hej hjun) (fun o ho e he hb => by rw [hoj] at ho; injection ho with ho; subst ho; exact hall e he hb)
   rw [hkun] at this; cases this
  rw [if_neg hej]
  have hnot : ∀ e ∈ oj.after, Region.binds .any e = true → e.on ≠ k := fun e he hb heq => by
   have h1 := hall e he hb
   rw [heq, hkun] at h1; cases h1
  have h1 := H.2 j (ready_mono hj hji)
  rw [if_neg hej] at h1
  have hap := hfree j oj hoj hji hjun hnot
  have h2 := qOp_put hoj hap (fun cs b => hsel k ok cs b hk) (fun cs b => hsel j oj cs b hoj) hy h1
  have hfree' : ∀ i oi, ops[i]? = some oi → i ≠ k → (listed.setIfInBounds j true).getD i true = false →
    (∀ e ∈ oi.after, Region.binds .any e = true → e.on ≠ k) → ok.apart ops oi = true := fun i oi hi hik hun hno => by
   refine hfree i oi hi hik ?_ hno
   by_cases hjk : j = i
   ·subst hjk; exact hjun
   rw [getD_set_ne true hjk] at hun; exact hun
  obtain ⟨a1, a2, a3⟩ := Oper.apart_spec hap
  have hE' : ∀ u, Yields P ops ok v (a.put oj.dst u) ∨ ∀ i, eff i = true → (listed.setIfInBounds j true).getD i true = false → Anc ops i k := fun u => by
   rcases hE with hE | hE
   ·exact .inl (hE.of_same (execOp_put ok (fun cs b => hsel k ok cs b hk) a oj.dst u a3) (wanted_put ok a oj.dst u a3))
   refine .inr fun i hi hun => hE i hi ?_
   by_cases hjk : j = i
   ·subst hjk; exact hjun
   rw [getD_set_ne true hjk] at hun; exact hun
  -- the act behind j is a.put of some value
  have h3 : qOp P ops C j (fun a' => (∃ u, a' = a.put oj.dst u) ∧ YieldsIn P ops C ok v a' ∧ wpAnyM P ops C eff (np Q) fuel ((listed.setIfInBounds k true).setIfInBounds j true) (a'.put ok.dst v)) a := by
   unfold qOp at h2 ⊢
   simp only [hoj] at h2 ⊢
   split
   ·rename_i hw
    simp only [hw, if_true] at h2
    obtain ⟨u, hu, hn⟩ := h2
    exact ⟨u, hu, ⟨u, rfl⟩, hn⟩
   rename_i hw
   simp only [hw] at h2
   exact ⟨⟨undef, rfl⟩, h2⟩
  refine qOp_mono (fun a' h4 => ?_) h3
  obtain ⟨⟨u, rfl⟩, hy', H'⟩ := h4
  refine ih (listed.setIfInBounds j true) _ (hdc.set hj) hfree' (ready_mono hr (Ne.symm hji)) hy' (hE' u) ?_
  rw [Array.setIfInBounds_comm _ _ hji]
  exact H'
theorem M_eff {k : Nat} {fuel : Nat} {listed : Array Bool} {a : Act} (hr : Region.ready .any ops listed = [k]) (hek : eff k = true)
  (h : ∀ w, C w → wpOp P ops Q k (wpAny P .any ops Q fuel (listed.setIfInBounds k true)) a w) : wpAnyM P ops C eff Q (fuel + 1) listed a :=
 ⟨fun h0 => (by rw [h0] at hr; cases hr), fun i hi => by
  rw [hr] at hi
  simp only [List.mem_singleton] at hi
  subst hi
  rw [if_pos hek]; exact h⟩
end
def upto (n k : Nat) : Array Bool := (List.replicate k true ++ List.replicate (n - k) false).toArray
theorem upto_set {n k : Nat} (h : k < n) : (upto n k).setIfInBounds k true = upto n (k + 1) := by
 apply Array.toList_inj.1
 simp only [upto, Array.toList_setIfInBounds]
 rw [List.set_append_right _ _ (by simp)]
 simp only [List.length_replicate, Nat.sub_self]
 rw [show n - k = (n - (k + 1)) + 1 by omega, List.replicate_succ, List.set_cons_zero, List.replicate_succ' (n := k)]
 simp
theorem upto_dc {ops : Array Oper} {n k : Nat} (hn : n = ops.size) (hB : ∀ j o, j < k → ops[j]? = some o → ∀ e ∈ o.after, Region.binds .any e = true → e.on < k) (hk : k ≤ n) : DC ops (upto n k) := by
 intro j o ho hl e he hb
 have hj : j < k := by
  rcases Nat.lt_or_ge j k with h | h
  ·exact h
  exfalso
  simp only [upto, Array.getD_eq_getD_getElem?, List.getElem?_toArray] at hl
  rw [List.getElem?_append_right (by simpa using h)] at hl
  simp only [List.getElem?_replicate, List.length_replicate] at hl
  split at hl <;> simp at hl
 have := hB j o hj ho e he hb
 simp only [upto, Array.getD_eq_getD_getElem?, List.getElem?_toArray]
 rw [List.getElem?_append_left (by simpa using this)]
 simp [this]
section
variable {P : Program} {Z : Post} {ks : List Fr} {N : Nat} {D : List Deferred} {sl : Sl} {W w : World} {ops : Array Oper} {F : Snap} {cs : List Res} {t : TypeId} {v : Value} {pos : String} {af : Array Edge} {C : World → Prop} {eff : Nat → Bool} {k f : Nat}
def lexOk (ops : Array Oper) : Bool := Region.noSelect ops && (List.range ops.size).all fun k => (Region.ready .any ops (upto ops.size k)).contains k && Region.free .any ops (upto ops.size k) k && ((ops[k]?).map fun o => o.after.all fun e => !Region.binds .any e || decide (e.on < k)).getD true
structure Lx (ops : Array Oper) : Prop where
 ok : lexOk ops = true
theorem Lx.at_ (h : Lx ops) (hk : k < ops.size) : k ∈ Region.ready .any ops (upto ops.size k) ∧ Region.free .any ops (upto ops.size k) k = true ∧ ∀ o, ops[k]? = some o → ∀ e ∈ o.after, Region.binds .any e = true → e.on < k := by
 have := h.ok
 simp only [lexOk, Bool.and_eq_true, List.all_eq_true, List.mem_range] at this
 obtain ⟨⟨h1, h2⟩, h3⟩ := this.2 k hk
 refine ⟨by simpa using h1, h2, fun o ho e he hb => ?_⟩
 rw [ho] at h3
 simp only [Option.map_some, Option.getD_some] at h3
 have := Array.all_eq_true_iff_forall_mem.1 h3 e he
 simpa [hb] using this
theorem Lx.sel (h : Lx ops) : Region.noSelect ops = true := by
 have := h.ok
 simp only [lexOk, Bool.and_eq_true] at this
 exact this.1
theorem Lx.dc (h : Lx ops) (hk : k ≤ ops.size) : DC ops (upto ops.size k) :=
 upto_dc rfl (fun j o hj ho e he hb => Nat.lt_trans ((h.at_ (k := j) (by omega)).2.2 o ho e he hb) hj) hk
def WM (P : Program) (ops : Array Oper) (Z : Post) (ks : List Fr) (N : Nat) (D : List Deferred) (C : World → Prop) (eff : Nat → Bool) (sl : Sl) (k : Nat) : Prop :=
 ∀ a, Ag N D sl a → wpAnyM P ops C eff (np (den P Z ks)) (ops.size - k) (upto ops.size k) a
def WD (P : Program) (ops : Array Oper) (Z : Post) (ks : List Fr) (N : Nat) (D : List Deferred) (sl : Sl) (k : Nat) (w : World) : Prop :=
 ∀ a, Ag N D sl a → wpAny P .any ops (np (den P Z ks)) (ops.size - k) (upto ops.size k) a w
theorem Q4 (C : World → Prop) (eff : Nat → Bool) {id : Nat} {l : List Oper} (hm : P.follows .mixedOrders = true) (hB : lexOk l.toArray = true) (hC : C { w with drawn := w.drawn + 1 }) (h : Lx l.toArray → WM P l.toArray Z ks N D C eff sl 0) : WC P Z ks N D sl (.region id l.toArray true) w := fun a ha => by
 refine wp_mono (Q := np (den P Z ks)) (wp_region_any hm ?_) np_imp
 have := any_of_M _ _ _ _ hC (h ⟨hB⟩ a ha)
 have e : upto l.toArray.size 0 = Array.replicate l.toArray.size false := by
  apply Array.toList_inj.1; simp [upto]
 rw [e] at this
 simpa using this
theorem wants {ops : Array Oper} {o : Oper} {a : Act} (hg : o.guard = none) : Region.wanted o (yielded ops a.tmps) = true := by simp [Region.wanted, hg]
theorem W3 (fl : Nat) (hx : Lx ops) {d : Nat} {op : Op} (ho : ops[k]? = some { dst := some d, op := op, type := t, pos := pos, after := af, guard := none }) (he : eff k = false) (hE : ((List.range ops.size).all fun j => !eff j || decide (j < k) || ancB ops fl j k) = true)
  (h : ∀ w, C w → Runs P sl op t w v) (hd : Nat.ble (d + 1) N = true) (kk : WM P ops Z ks N D C eff ((d, v) :: sl) (k + 1)) : WM P ops Z ks N D C eff sl k := fun a ha => by
 have hlt : k < ops.size := (Array.getElem?_eq_some_iff.1 ho).1
 obtain ⟨h1, h2, h3⟩ := hx.at_ hlt
 rw [show ops.size - k = (ops.size - (k + 1)) + 1 by omega]
 refine M_first (v := v) ho (Region.noSelect_spec hx.sel) he _ _ a (hx.dc (Nat.le_of_lt hlt)) (Region.free_spec ho h2) h1 (.inl ⟨wants rfl, fun w hC => ?_⟩) (.inr fun j hj hun => ?_) ?_
 ·unfold Oper.quietAt
  rw [h w hC a.eval (fun x v hx => ha.ev hx) _ rfl rfl]
  exact ⟨rfl, rfl⟩
 ·rcases Nat.lt_or_ge j ops.size with hjl | hjl
  ·have := List.all_eq_true.1 hE j (List.mem_range.2 hjl)
   simp only [hj, Bool.not_true, Bool.false_or, Bool.or_eq_true, decide_eq_true_eq] at this
   rcases this with hjk | hanc
   ·exfalso
    simp only [upto, Array.getD_eq_getD_getElem?, List.getElem?_toArray] at hun
    rw [List.getElem?_append_left (by simpa using hjk)] at hun
    simp [hjk] at hun
   exact ancB_spec fl j k hanc
  exfalso
  have : (upto ops.size k).size = ops.size := by simp [upto]; omega
  rw [Array.getD_eq_getD_getElem?, Array.getElem?_eq_none (by omega)] at hun
  simp at hun
 rw [upto_set hlt]; exact kk _ (ha.put (Nat.le_of_ble_eq_true hd) v)
theorem F2 (hx : Lx ops) {d : Nat} {op : Op} (ho : ops[k]? = some { dst := some d, op := op, type := t, pos := pos, after := af, guard := none }) (he : eff k = false)
  (h : ∀ w, Runs P sl op t w v) (hd : Nat.ble (d + 1) N = true) (kk : WM P ops Z ks N D C eff ((d, v) :: sl) (k + 1)) : WM P ops Z ks N D C eff sl k := fun a ha => by
 have hlt : k < ops.size := (Array.getElem?_eq_some_iff.1 ho).1
 obtain ⟨h1, h2, h3⟩ := hx.at_ hlt
 rw [show ops.size - k = (ops.size - (k + 1)) + 1 by omega]
 have hrun : ∀ w, (execOp a.eval { dst := some d, op := op, type := t, pos := pos, after := af, guard := none }).run P w = .ok (.value v) w := fun w => h w a.eval (fun x v hx => ha.ev hx) _ rfl rfl
 refine M_first (v := v) ho (Region.noSelect_spec hx.sel) he _ _ a (hx.dc (Nat.le_of_lt hlt)) (Region.free_spec ho h2) h1 (.inl ⟨wants rfl, fun w hC => ?_⟩) (.inl (.inl ⟨wants rfl, hrun⟩)) ?_
 ·unfold Oper.quietAt
  rw [hrun w]
  exact ⟨rfl, rfl⟩
 rw [upto_set hlt]; exact kk _ (ha.put (Nat.le_of_ble_eq_true hd) v)
theorem W5 (fl : Nat) (hx : Lx ops) {d : Nat} {g : FuncId} {xs : List Operand} {vs : List Value} {ts : Array TypeId} (ho : ops[k]? = some { dst := some d, op := .call { callee := .value (.func g), args := xs.toArray, argTypes := ts }, type := t, pos := pos, after := af, guard := none }) (he : eff k = false) (hE : ((List.range ops.size).all fun j => !eff j || decide (j < k) || ancB ops fl j k) = true)
  (hc : Can P g) (hv : args_ sl xs = some vs) (hd : Nat.ble (d + 1) N = true) (c : ∀ w, C w → Calls P g vs.toArray w fun e w' => e = .returned v ∧ C w') (kk : WM P ops Z ks N D C eff ((d, v) :: sl) (k + 1)) : WM P ops Z ks N D C eff sl k := fun a ha => by
 have hlt : k < ops.size := (Array.getElem?_eq_some_iff.1 ho).1
 obtain ⟨h1, h2, h3⟩ := hx.at_ hlt
 rw [show ops.size - k = (ops.size - (k + 1)) + 1 by omega]
 refine M_first (v := v) ho (Region.noSelect_spec hx.sel) he _ _ a (hx.dc (Nat.le_of_lt hlt)) (Region.free_spec ho h2) h1 (.inl ⟨wants rfl, fun w hC => ?_⟩) (.inr fun j hj hun => ?_) ?_
 ·unfold Oper.quietAt
  rw [exec_call hc rfl rfl (args_spec (fun x v hx => ha.ev hx) xs vs hv)]
  exact ⟨rfl, c w hC⟩
 ·rcases Nat.lt_or_ge j ops.size with hjl | hjl
  ·have := List.all_eq_true.1 hE j (List.mem_range.2 hjl)
   simp only [hj, Bool.not_true, Bool.false_or, Bool.or_eq_true, decide_eq_true_eq] at this
   rcases this with hjk | hanc
   ·exfalso
    simp only [upto, Array.getD_eq_getD_getElem?, List.getElem?_toArray] at hun
    rw [List.getElem?_append_left (by simpa using hjk)] at hun
    simp [hjk] at hun
   exact ancB_spec fl j k hanc
  exfalso
  have : (upto ops.size k).size = ops.size := by simp [upto]; omega
  rw [Array.getD_eq_getD_getElem?, Array.getElem?_eq_none (by omega)] at hun
  simp at hun
 rw [upto_set hlt]; exact kk _ (ha.put (Nat.le_of_ble_eq_true hd) v)
theorem Z4 (hx : Lx ops) (he : eff k = true) (hk : k < ops.size) (hr : Region.ready .any ops (upto ops.size k) = [k]) (h : ∀ w, C w → WD P ops Z ks N D sl k w) : WM P ops Z ks N D C eff sl k := fun a ha => by
 rw [show ops.size - k = (ops.size - (k + 1)) + 1 by omega]
 refine M_eff hr he fun w hC => ?_
 have := h w hC a ha
 rw [show ops.size - k = (ops.size - (k + 1)) + 1 by omega] at this
 exact this.2 k (by rw [hr]; simp)
theorem WM.fin (hk : k = ops.size) (hr : Region.ready .any ops (upto ops.size k) = []) (h : ∀ w, C w → WN P Z ks N D sl w) : WM P ops Z ks N D C eff sl k := fun a ha => by
 rw [show ops.size - k = 0 by omega]
 exact ⟨hr, fun w hC => h w hC a ha⟩
theorem B5 (hk : k = ops.size) (hr : Region.ready .any ops (upto ops.size k) = []) (h : WN P Z ks N D sl w) : WD P ops Z ks N D sl k w := fun a ha => by
 rw [show ops.size - k = 0 by omega]
 exact ⟨hr, h a ha⟩
theorem X3 (hx : Lx ops) {d : Nat} {op : Op} (ho : ops[k]? = some { dst := some d, op := op, type := t, pos := pos, after := af, guard := none })
  (h : ∀ w, Runs P sl op t w v) (hd : Nat.ble (d + 1) N = true) (kk : WD P ops Z ks N D ((d, v) :: sl) (k + 1) w) : WD P ops Z ks N D sl k w := fun a ha => by
 have hlt : k < ops.size := (Array.getElem?_eq_some_iff.1 ho).1
 obtain ⟨h1, h2, h3⟩ := hx.at_ hlt
 rw [show ops.size - k = (ops.size - (k + 1)) + 1 by omega]
 have hrun : ∀ w, (execOp a.eval { dst := some d, op := op, type := t, pos := pos, after := af, guard := none }).run P w = .ok (.value v) w := fun w => h w a.eval (fun x v hx => ha.ev hx) _ rfl rfl
 refine wpAny_first (v := v) ho (Region.noSelect_spec hx.sel) (fun c a w h => h.elim) _ _ a w (Region.free_spec ho h2) h1 (.inl ⟨wants rfl, hrun⟩) ?_
 rw [upto_set hlt]; exact kk _ (ha.put (Nat.le_of_ble_eq_true hd) v)
theorem F5 {o : Oper} (ho : ops[k]? = some o) (hg : o.guard = none) (hr : Region.ready .any ops (upto ops.size k) = [k]) (h : WL P ops (fun _ _ _ => False) [.cut (fun a' w' => wpAny P .any ops (np (den P Z ks)) (ops.size - (k + 1)) (upto ops.size (k + 1)) a' w')] N D sl [o] w) : WD P ops Z ks N D sl k w := fun a ha => by
 have hlt : k < ops.size := (Array.getElem?_eq_some_iff.1 ho).1
 rw [show ops.size - k = (ops.size - (k + 1)) + 1 by omega]
 refine wpAny_all hr (by simp) fun i hi => ?_
 simp only [List.mem_singleton] at hi
 subst hi
 have h1 := h a ha
 unfold wpOp
 rw [ho]
 simp only [wants hg, if_true]
 unfold wpList at h1
 rw [if_pos (wants hg)] at h1
 have hsame : ∀ e a w, den P (fun _ _ _ => False) [.cut (fun a' w' => wpAny P .any ops (np (den P Z ks)) (ops.size - (i + 1)) (upto ops.size (i + 1)) a' w')] e a w → e = .normal ∧ wpAny P .any ops (np (den P Z ks)) (ops.size - (i + 1)) (upto ops.size (i + 1)) a w := by
  intro e a w h
  cases e with
  |normal => exact ⟨rfl, h⟩
  |_ => exact h.elim
 rw [upto_set hlt]
 rcases h1 with h1 | ⟨_, a0, w0, h1⟩
 ·left
  unfold Oper.wp at h1 ⊢
  generalize (execOp a.eval o).run P w = r at *
  cases r with
  |ok n w' =>
   cases n <;> simp only [Oper.upon] at h1 ⊢
   case value u => exact (hsame _ _ _ h1).2
   case skip => exact (hsame _ _ _ h1).2
   case defer d => exact (hsame _ _ _ h1).2
   case enter f args =>
    refine h1.mono fun e w'' hh => ?_
    cases e with
    |returned u => exact (hsame _ _ _ hh).2
    |panicked ch => exact absurd (hsame _ _ _ hh).1 (by simp)
    |outgrown =>
     obtain ⟨a0, w0, hh⟩ := hh
     exact absurd (hsame _ _ _ hh).1 (by simp)
   case row row args => exact h1.mono fun u w'' hh => (hsame _ _ _ hh).2
  |halt hh w' =>
   cases hh <;> simp only [Oper.upon] at h1
   case panic u => exact absurd (hsame _ _ _ h1).1 (by simp)
 exact absurd (hsame _ _ _ h1).1 (by simp)
theorem I4 (h : WD P ops Z ks N D sl (k + 1) w) : WN P (fun _ _ _ => False) [.cut (fun a' w' => wpAny P .any ops (np (den P Z ks)) (ops.size - (k + 1)) (upto ops.size (k + 1)) a' w')] N D sl w := h
end
end B
end Go.Proofs.YtifdpllfbaogcaaGreat
namespace Go.Proofs.YtifdpllfbaogcaaGreat
open Go Go.RowKit
namespace B
section
variable {P : Program} {Z : Post} {ks : List Fr} {N : Nat} {D : List Deferred} {sl : Sl} {W w : World} {ops : Array Oper} {rest : List Oper} {F : Snap} {cs : List Res} {t T T' E : TypeId} {x y : Operand} {v zv : Value} {pos : String} {af : Array Edge} {sz bytes : Nat} {k : IntKind} {α : Type}
theorem W0 {a : Addr} {len cap n : Nat} {j : Int} (hu : P.underlying T = some (.slice E)) (hi : Inf P E zv 1 bytes) (hx : evs sl x = some (.slice (some a) len cap)) (hy : evs sl y = some (.int k j)) (hj : j = (n : Int)) (hn : n < len) :
  Runs P sl (.indexAddr T x y) t w (.pointer (some (a.add n))) := by
 have := O4 (t := t) (w := w) hu hi hx hy (by omega)
 rwa [hj, Int.toNat_natCast, Nat.mul_one] at this
theorem N2 {a : Addr} {len cap n : Nat} {j : Int} (hu : P.underlying T = some (.slice E)) (hi : Inf P E zv sz bytes) (hx : evs sl x = some (.slice (some a) len cap)) (hy : evs sl y = some (.int k j)) (hj : j = (n : Int)) (hn : n < len) :
  Runs P sl (.indexAddr T x y) t w (.pointer (some (a.add (n * sz)))) := by
 have := O4 (t := t) (w := w) hu hi hx hy (by omega)
 rwa [hj, Int.toNat_natCast] at this
theorem Q3 {b m n : Nat} {j : Int} (hu : P.underlying T = some (.array m E)) (hi : Inf P E zv 1 bytes) (hx : evs sl x = some (.pointer (some ⟨b, 0, none⟩))) (hy : evs sl y = some (.int k j)) (hj : j = (n : Int)) (hn : n < m) :
  Runs P sl (.indexAddr T x y) t w (.pointer (some ⟨b, n, none⟩)) := by
 have := Runs.aidx (t := t) (w := w) hu hi hx hy (by omega)
 rwa [hj, Int.toNat_natCast, Nat.zero_add] at this
theorem I1 {f : α → Value} {xs : List α} {ad : Addr} {n : Nat} {d : TypeDesc} (d0 : α) (h : St W F cs w) (hrd : ∀ i x, xs[i]? = some x → cellF F (ad.add i) = some (f x)) (hn : n < xs.length) (hu : P.underlying T = some d) (hs : scal d = true) (hx : evs sl x = some (.pointer (some (ad.add n)))) :
  Runs P sl (.load T x) t w (f (xs.getD n d0)) := by
 refine K0 hu hs hx (h.cell (hrd n _ ?_))
 rw [List.getD_eq_getElem?_getD, List.getElem?_eq_getElem hn]; rfl
theorem rd1 {f : α → Value} {F : Snap} {A : Option Addr} {xs : List α} (h : RdS (Kd.one f) F A xs) (h0 : 0 < xs.length) : ∃ ad, A = some ad ∧ ∀ i x, xs[i]? = some x → cellF F (ad.add i) = some (f x) := by
 rcases h with h | ⟨ad, hA, h⟩
 ·rw [h] at h0; simp at h0
 refine ⟨ad, hA, fun i x hx => ?_⟩
 obtain ⟨c, h1, h2⟩ := h i x hx
 have h1 : c = [f x] := h1
 subst h1
 have := h2 0 (f x) rfl
 simpa [Kd.one] using this
theorem R3 {f : α → Value} {xs : List α} {b n : Nat} {tt : TypeId} {fz : Nat × Nat} {d : TypeDesc} (d0 : α) (h : St W F cs w) (i : Nat) (hi : cs[i]? = some [(b, .cells (xs.map f).toArray tt fz)]) (hn : n < xs.length) (hu : P.underlying T = some d) (hs : scal d = true) (hx : evs sl x = some (.pointer (some ⟨b, n, none⟩))) :
  Runs P sl (.load T x) t w (f (xs.getD n d0)) := by
 refine K0 hu hs hx (h.ocell hi ?_)
 simp [List.getD_eq_getElem?_getD, List.getElem?_eq_getElem hn]
theorem S5 (h : St W F cs w) (i : Nat) {f : α → Value} {xs : List α} {u : α} {b n : Nat} {tt : TypeId} {fz : Nat × Nat} (hi : cs[i]? = some [(b, .cells (xs.map f).toArray tt fz)]) (hx : evs sl x = some (.pointer (some ⟨b, n, none⟩))) (hy : evs sl y = some (f u))
  (hT : Inf P T zv 1 bytes) (hc : (f u).cells = #[f u]) (h1 : one_ (f u) = true) (hf : Free fz xs.length) (hn : n < xs.length)
  (k : ∀ w', St W F (cs.set i [(b, .cells ((xs.set n u).map f).toArray tt fz)]) w' → WL P ops Z ks N D sl rest w') :
  WL P ops Z ks N D sl ({ dst := none, op := .store T x y, type := t, pos := pos, after := af, guard := none } :: rest) w := by
 refine C4 h i hi hx hy hT (by rw [hc]; rfl) (by rw [hc]; simp [h1]) (by simpa using hf) (by rw [hc]; simp; omega) (fun w' h' => k w' ?_)
 rw [hc] at h'
 have : blit (xs.map f).toArray n [f u] = ((xs.set n u).map f).toArray := by
  apply Array.toList_inj.1
  simp [blit_one, List.map_set]
 rwa [this] at h'
theorem T6 (h : St W F cs w) (i : Nat) {arr vs : Array Value} {b : Nat} {tt : TypeId} {fz : Nat × Nat} (hi : cs[i]? = some [(b, .cells arr tt fz)]) (hx : evs sl x = some (.pointer (some ⟨b, 0, none⟩))) (hy : evs sl y = some (.agg vs))
  (hT : Inf P T zv sz bytes) (hz : sz = vs.size) (ha : arr.size = vs.size) (h1 : vs.toList.all one_ = true) (hf : Free fz arr.size)
  (k : ∀ w', St W F (cs.set i [(b, .cells vs tt fz)]) w' → WL P ops Z ks N D sl rest w') :
  WL P ops Z ks N D sl ({ dst := none, op := .store T x y, type := t, pos := pos, after := af, guard := none } :: rest) w := by
 refine C4 h i hi hx hy hT hz h1 hf (by simp [Value.cells]; omega) (fun w' h' => k w' ?_)
 have : blit arr 0 (Value.agg vs).cells.toList = vs := by
  rw [blit_all _ _ (by simp [Value.cells, ha])]; simp [Value.cells]
 rwa [this] at h'
abbrev V32 (x : BitVec 32) : Value := .int .u32 (x.toNat : Int)
abbrev V8 (x : UInt8) : Value := .int .u8 (x.toNat : Int)
theorem wrap_u32 (n : Int) : IntKind.u32.wrap n = n % 4294967296 := by simp [IntKind.wrap, IntKind.bits, IntKind.signed]
theorem wrap_u8 (n : Int) : IntKind.u8.wrap n = n % 256 := by simp [IntKind.wrap, IntKind.bits, IntKind.signed]
theorem wrap_u32_lt {n : Nat} (h : n < 4294967296) : IntKind.u32.wrap (n : Int) = n := by rw [wrap_u32]; omega
theorem ofInt_toNat (a : BitVec 32) : BitVec.ofInt 32 (a.toNat : Int) = a := by simp
variable {a b : BitVec 32}
theorem S4 (hx : evs sl x = some (V32 a)) (hy : evs sl y = some (V32 b)) : Runs P sl (.binOp .add T x y T') t w (V32 (a + b)) := by
 have := Runs.add (P := P) (t := t) (w := w) (T := T) (T' := T') hx hy
 have e : IntKind.u32.wrap ((a.toNat : Int) + b.toNat) = ((a + b).toNat : Int) := by
  rw [wrap_u32, BitVec.toNat_add]; omega
 rwa [e] at this
theorem T4 (hx : evs sl x = some (V32 a)) (hy : evs sl y = some (V32 b)) : Runs P sl (.binOp .xor T x y T') t w (V32 (a ^^^ b)) := by
 have := Runs.xor (P := P) (t := t) (w := w) (T := T) (T' := T') hx hy
 have e : IntKind.u32.wrap (BitVec.ofInt IntKind.u32.bits (a.toNat : Int) ^^^ BitVec.ofInt IntKind.u32.bits (b.toNat : Int)).toNat = ((a ^^^ b).toNat : Int) := by
  show IntKind.u32.wrap (BitVec.ofInt 32 (a.toNat : Int) ^^^ BitVec.ofInt 32 (b.toNat : Int)).toNat = _
  rw [ofInt_toNat, ofInt_toNat, wrap_u32_lt (a ^^^ b).isLt]
 rwa [e] at this
theorem B6 (hx : evs sl x = some (V32 a)) (hy : evs sl y = some (V32 b)) : Runs P sl (.binOp .and T x y T') t w (V32 (a &&& b)) := by
 have := R6 (P := P) (t := t) (w := w) (T := T) (T' := T') hx hy
 have e : IntKind.u32.wrap (BitVec.ofInt IntKind.u32.bits (a.toNat : Int) &&& BitVec.ofInt IntKind.u32.bits (b.toNat : Int)).toNat = ((a &&& b).toNat : Int) := by
  show IntKind.u32.wrap (BitVec.ofInt 32 (a.toNat : Int) &&& BitVec.ofInt 32 (b.toNat : Int)).toNat = _
  rw [ofInt_toNat, ofInt_toNat, wrap_u32_lt (a &&& b).isLt]
 rwa [e] at this
theorem Y6 (hx : evs sl x = some (V32 a)) (hy : evs sl y = some (V32 b)) : Runs P sl (.binOp .or T x y T') t w (V32 (a ||| b)) := by
 have := Runs.or (P := P) (t := t) (w := w) (T := T) (T' := T') hx hy
 have e : IntKind.u32.wrap (BitVec.ofInt IntKind.u32.bits (a.toNat : Int) ||| BitVec.ofInt IntKind.u32.bits (b.toNat : Int)).toNat = ((a ||| b).toNat : Int) := by
  show IntKind.u32.wrap (BitVec.ofInt 32 (a.toNat : Int) ||| BitVec.ofInt 32 (b.toNat : Int)).toNat = _
  rw [ofInt_toNat, ofInt_toNat, wrap_u32_lt (a ||| b).isLt]
 rwa [e] at this
theorem Runs.com32 (hx : evs sl x = some (V32 a)) : Runs P sl (.unOp .xor T x) t w (V32 (~~~a)) := by
 have := Runs.com (P := P) (t := t) (w := w) (T := T) hx
 have e : IntKind.u32.wrap (BitVec.ofInt IntKind.u32.bits (if IntKind.u32.signed then -1 else IntKind.u32.max) ^^^ BitVec.ofInt IntKind.u32.bits (a.toNat : Int)).toNat = ((~~~a).toNat : Int) := by
  show IntKind.u32.wrap (BitVec.ofInt 32 4294967295 ^^^ BitVec.ofInt 32 (a.toNat : Int)).toNat = _
  rw [ofInt_toNat, show (BitVec.ofInt 32 4294967295 : BitVec 32) = BitVec.allOnes 32 from rfl, BitVec.allOnes_xor, wrap_u32_lt (~~~a).isLt]
 rwa [e] at this
theorem U5 {n : Int} (hx : evs sl x = some (V32 a)) (hy : evs sl y = some (.int k n)) (h0 : 0 ≤ n ∧ n ≤ 32) : Runs P sl (.binOp .shr T x y T') t w (V32 (a >>> n.toNat)) := by
 have := X5 (P := P) (t := t) (w := w) (T := T) (T' := T') hx hy h0.1
 have e : (a.toNat : Int) / 2 ^ Min.min n.toNat IntKind.u32.bits = ((a >>> n.toNat).toNat : Int) := by
  rw [show Min.min n.toNat IntKind.u32.bits = n.toNat from Nat.min_eq_left (by simp [IntKind.bits]; omega), BitVec.toNat_ushiftRight, Nat.shiftRight_eq_div_pow]
  simp
 rwa [e] at this
theorem L6 {n : Int} (hx : evs sl x = some (V32 a)) (hy : evs sl y = some (.int k n)) (h0 : 0 ≤ n ∧ n ≤ 32) : Runs P sl (.binOp .shl T x y T') t w (V32 (a <<< n.toNat)) := by
 have := Runs.shl (P := P) (t := t) (w := w) (T := T) (T' := T') hx hy h0.1
 have e : IntKind.u32.wrap ((a.toNat : Int) * 2 ^ Min.min n.toNat IntKind.u32.bits) = ((a <<< n.toNat).toNat : Int) := by
  rw [show Min.min n.toNat IntKind.u32.bits = n.toNat from Nat.min_eq_left (by simp [IntKind.bits]; omega), wrap_u32, BitVec.toNat_shiftLeft, Nat.shiftLeft_eq]
  simp
 rwa [e] at this
theorem E6 {c : UInt8} (hu : P.underlying T = some (.int .u8)) (hu' : P.underlying T' = some (.int .u32)) (hx : evs sl x = some (V8 c)) : Runs P sl (.convert T T' x) t w (V32 (BitVec.ofNat 32 c.toNat)) := by
 have := O5 (P := P) (t := t) (w := w) hu hu' hx
 have e : IntKind.u32.wrap (c.toNat : Int) = ((BitVec.ofNat 32 c.toNat).toNat : Int) := by
  have := c.toNat_lt
  rw [wrap_u32_lt (by omega), BitVec.toNat_ofNat, Nat.mod_eq_of_lt (by omega)]
 rwa [e] at this
theorem Runs.to8 (hu : P.underlying T = some (.int .u32)) (hu' : P.underlying T' = some (.int .u8)) (hx : evs sl x = some (V32 a)) : Runs P sl (.convert T T' x) t w (V8 (UInt8.ofNat a.toNat)) := by
 have := O5 (P := P) (t := t) (w := w) hu hu' hx
 have e : IntKind.u8.wrap (a.toNat : Int) = ((UInt8.ofNat a.toNat).toNat : Int) := by
  rw [wrap_u8, UInt8.toNat_ofNat']; omega
 rwa [e] at this
theorem W4 {m : Nat} {j : Int} (hu : P.underlying T = some (.int .i64)) (hu' : P.underlying T' = some (.int .u8)) (hx : evs sl x = some (.int .i64 j)) (hj : j = (m : Int)) : Runs P sl (.convert T T' x) t w (V8 (UInt8.ofNat m)) := by
 subst hj
 have := O5 (P := P) (t := t) (w := w) hu hu' hx
 have e : IntKind.u8.wrap (m : Int) = ((UInt8.ofNat m).toNat : Int) := by
  rw [wrap_u8, UInt8.toNat_ofNat']; omega
 rwa [e] at this
end
end B
end Go.Proofs.YtifdpllfbaogcaaGreat
namespace Go.Proofs.YtifdpllfbaogcaaGreat
open Go Go.RowKit
namespace B
theorem one_cells {v : Value} (h : one_ v = true) : v.cells = #[v] := by cases v <;> first | rfl | cases h
def Row {α : Type} (E : TypeId) (f : α → Value) (r : Res) (v : Value) (xs : List α) : Prop := IsRow E 1 r v xs.length (xs.map f)
theorem Row.nil {α : Type} (E : TypeId) (f : α → Value) : Row E f [] (.slice none 0 0) [] := IsRow.nil E 1
theorem Row.val {α : Type} {E : TypeId} {f : α → Value} {r : Res} {v : Value} {xs : List α} (h : Row E f r v xs) : ∃ A cap, v = .slice A xs.length cap ∧ xs.length ≤ cap := IsRow.val h
theorem okb_lo {l : Int} {len cap : Nat} (h : 0 ≤ l ∧ l ≤ len) : okb (some l) none len cap := ⟨fun h e => (by cases e), fun l' e => by injection e with e; subst e; exact h⟩
theorem okb_hi {l : Int} {len cap : Nat} (h : 0 ≤ l ∧ l ≤ cap) : okb none (some l) len cap := ⟨fun h' e => (by injection e with e; subst e; exact h), fun l' e => (by cases e)⟩
theorem okb_lh {l h : Int} {len cap : Nat} (h0 : 0 ≤ l ∧ l ≤ h) (h1 : h ≤ cap) : okb (some l) (some h) len cap := ⟨fun h' e => (by injection e with e; subst e; omega), fun l' e => by injection e with e; subst e; simp only [hi_, Option.map_some, Option.getD_some]; omega⟩
theorem okb_no {len cap : Nat} : okb none none len cap := ⟨fun h e => (by cases e), fun l e => (by cases e)⟩
section
variable {P : Program} {Z : Post} {ks : List Fr} {N : Nat} {D : List Deferred} {sl : Sl} {W w : World} {ops : Array Oper} {rest : List Oper} {F G : Snap} {cs : List Res} {t t' T T' E : TypeId} {x y : Operand} {v zv : Value} {pos : String} {af : Array Edge} {sz bytes : Nat} {α : Type} {f : α → Value}
theorem Row.wcell {r : Res} {xs : List α} {i : Nat} (hr : Row E f r v xs) (h : St W F cs w) (hi : cs[i]? = some r) {A : Option Addr} {n cap : Nat} (hv : v = .slice A n cap) : xs = [] ∨ ∃ ad, A = some ad ∧ ∀ j x, xs[j]? = some x → w.cell? (ad.add j) = some (f x) := by
 rcases hr with ⟨rfl, rfl, hl, _⟩ | ⟨b, cap', arr, fz, rfl, rfl, hs, hn, hc, _⟩
 ·exact .inl (List.eq_nil_of_length_eq_zero hl)
 injection hv with hA
 refine .inr ⟨⟨b, 0, none⟩, hA.symm, fun j x hx => ?_⟩
 rw [add_mk, Nat.zero_add]
 refine h.ocell hi ?_
 have h1 : (xs.map f)[j]? = some (f x) := by simp [hx]
 rw [hc, List.getElem?_take] at h1
 split at h1
 ·simpa using h1
 cases h1
theorem Src.row {r : Res} {xs : List α} {i : Nat} (hr : Row E f r v xs) (h : St W F cs w) (hi : cs[i]? = some r) (h1 : ∀ x, one_ (f x) = true) : Src P w 1 v xs.length (xs.map f) := by
 obtain ⟨A, cap, hv, _⟩ := hr.val
 have hc := hr.wcell h hi hv
 subst hv
 refine Src.slice (by simp) ?_ (by rw [List.all_eq_true]; intro u hu; obtain ⟨x, _, rfl⟩ := List.mem_map.1 hu; exact h1 x)
 rcases hc with hc | ⟨ad, hA, hc⟩
 ·exact .inl (by rw [hc]; rfl)
 refine .inr ⟨ad, hA, fun j u hu => ?_⟩
 rw [List.getElem?_map] at hu
 obtain ⟨x, hx, rfl⟩ := Option.map_eq_some_iff.1 hu
 exact hc j x hx
theorem Src.rd {A : Option Addr} {xs : List α} {n cap : Nat} (hr : RdS (Kd.one f) F A xs) (h : St W F cs w) (hn : n = xs.length) (h1 : ∀ x, one_ (f x) = true) : Src P w 1 (.slice A n cap) xs.length (xs.map f) := by
 subst hn
 refine Src.slice (by simp) ?_ (by rw [List.all_eq_true]; intro u hu; obtain ⟨x, _, rfl⟩ := List.mem_map.1 hu; exact h1 x)
 rcases hr with hr | ⟨ad, hA, hr⟩
 ·exact .inl (by rw [hr]; rfl)
 refine .inr ⟨ad, hA, fun j u hu => ?_⟩
 rw [List.getElem?_map] at hu
 obtain ⟨x, hx, rfl⟩ := Option.map_eq_some_iff.1 hu
 obtain ⟨c, hc1, hc2⟩ := hr j x hx
 have hc1 : c = [f x] := hc1
 subst hc1
 have := hc2 0 (f x) rfl
 simp only [Kd.one, Nat.mul_one, Nat.add_zero] at this
 exact h.cell this
theorem Src.lit {b m c : Nat} {arr : Array Value} {tt : TypeId} {fz : Nat × Nat} (h : St W F cs w) (i : Nat) (hi : cs[i]? = some [(b, .cells arr tt fz)]) (hm : arr.size = m) (h1 : arr.toList.all one_ = true) : Src P w 1 (.slice (some ⟨b, 0, none⟩) m c) m arr.toList :=
 Src.slice (by simp [hm]) (.inr ⟨_, rfl, fun j u hu => by rw [add_mk, Nat.zero_add]; exact h.ocell hi (by simpa using hu)⟩) h1
theorem X2 (h : St W F cs w) {d : Nat} (hd : Nat.ble (d + 1) N = true) {n : Nat} {ps : List (Nat × Operand)} {vs : List Value} (hT : P.underlying T = some (.slice E)) (hE : Inf P E zv 1 bytes) (hz : zv.cells.size = 1) (hp : pargs sl ps = some (numbered 0 vs)) (hn : vs.length = n)
  (hv : vs.all one_ = true) (hbig : Nat.ble n 16777216 = true)
  (k : ∀ b w', St W F ([(b, .cells vs.toArray E (0, 0))] :: cs) w' → WL P ops Z ks N D ((d, .slice (some ⟨b, 0, none⟩) n n) :: sl) rest w') :
  WL P ops Z ks N D sl ({ dst := some d, op := .buildSlice T n ps.toArray, type := t, pos := pos, after := af, guard := none } :: rest) w := by
 have h1 : ∀ u ∈ vs, one_ u = true := fun u hu => List.all_eq_true.1 hv u hu
 refine V4 h hd hT (hE.elem hz rfl) hp hn (by rw [List.all_eq_true]; intro u hu; rw [one_cells (h1 u hu)]; rfl) (by have := Nat.le_of_ble_eq_true hbig; omega) (fun b w' h' => k b w' ?_)
 have : vs.flatMap (·.cells.toList) = vs := by
  clear k h' hp hn hv
  induction vs with
  |nil => rfl
  |cons u r ih =>
   rw [List.flatMap_cons, ih (fun u hu => h1 u (by simp [hu])), one_cells (h1 u (by simp))]
   rfl
 rwa [this] at h'
theorem I3 (i : Nat) (h : St W F cs w) {r : Res} (hi : cs[i]? = some r) {d : Nat} (hd : Nat.ble (d + 1) N = true) {xv : Value} {m : Nat} {xs ys : List α} {src : List Value} {d' : TypeDesc} (hx : evs sl x = some v) (hy : evs sl y = some xv)
  (ht : P.underlying T = some (.slice E)) (ht' : P.underlying T' = some d') (hd' : d' = .string ∨ ∃ e, d' = .slice e) (hE : Inf P E zv 1 bytes) (hz : zv.cells.size = 1)
  (hr : Row E f r v xs) (hs : Src P w 1 xv m src) (hm : m = ys.length) (hsrc : src = ys.map f) (hsmall : (4 * (xs.length + m) + 4096) * bytes ≤ 281474976710656) (hnm : xs.length + m ≤ 9223372036854775807)
  (k : ∀ r' v' w', Row E f r' v' (xs ++ ys) → St W F (cs.set i r') w' → WL P ops Z ks N D ((d, v') :: sl) rest w') :
  WL P ops Z ks N D sl ({ dst := some d, op := .call { callee := .builtin .append, args := #[x, y], argTypes := #[T, T'] }, type := t, pos := pos, after := af, guard := none } :: rest) w := by
 subst hsrc; subst hm
 refine WL.append i h hi hd hx hy ht ht' hd' (hE.elem hz rfl) hr hs hsmall hnm (fun r' v' w' h1 h2 => k r' v' w' ?_ h2)
 unfold Row
 rw [List.length_append, List.map_append]
 exact h1
theorem Row.read {r : Res} {xs : List α} {A : Option Addr} {n cap : Nat} (hr : Row E f r v xs) (hv : v = .slice A n cap) (hG : ∀ p ∈ r, G p.1 = some p.2) : RdS (Kd.one f) G A xs := by
 rcases hr with ⟨rfl, rfl, hl, _⟩ | ⟨b, cap', arr, fz, rfl, rfl, hs, hn, hc, _⟩
 ·exact .inl (List.eq_nil_of_length_eq_zero hl)
 injection hv with hA
 refine .inr ⟨⟨b, 0, none⟩, hA.symm, fun j x hx => ⟨[f x], rfl, fun q u hu => ?_⟩⟩
 have : q = 0 ∧ u = f x := by
  cases q with
  |zero => exact ⟨rfl, by simpa using hu.symm⟩
  |succ q => simp at hu
 obtain ⟨rfl, rfl⟩ := this
 have hb : G b = some (.cells arr E fz) := hG (b, .cells arr E fz) (by simp)
 have h1 : (xs.map f)[j]? = some (f x) := by simp [hx]
 rw [hc, List.getElem?_take] at h1
 simp only [Kd.one, Nat.mul_one, Nat.add_zero, add_mk, Nat.zero_add, cellF, hb]
 split at h1
 ·simpa using h1
 cases h1
theorem F6 {n : Nat} {m : Nat} {j : Int} {k : IntKind} {arr : Array Value} {d : TypeDesc} {u : Value} (hu : P.underlying T = some (.array m E)) (he : P.underlying E = some d) (hs : scal d = true) (hi : Inf P E zv 1 bytes) (hx : evs sl x = some (.agg arr)) (hy : evs sl y = some (.int k j)) (hj : j = (n : Int)) (hn : n < m) (hc : arr[n]? = some u) :
  Runs P sl (.index T x y) t w u := fun ρ hρ o ho _ => by
 obtain ⟨ti, h1, _, h3, _⟩ := hi.get
 subst hj
 have h4 : (isAgg E).run P w = .ok false w := by
  cases d <;> simp_all [isAgg, underlying, program, scal, Sem.run, bind, Sem.bind, pure]
 have h5 : (part E arr n).run P w = .ok u w := by
  unfold part
  rw [Sem.run_bind, h4]
  simp [Result.andThen, hc, Sem.run, pure]
 simp [execOp, ho, hρ _ _ hx, hρ _ _ hy, Instr.index, asIntOf, run_underlying hu, sizeOf, typeInfo, h1, h3, hn, h5]
theorem U6 {A : Option Addr} {len cap n : Nat} {j : Int} (hu : P.underlying T = some (.slice E)) (hi : Inf P E zv sz bytes) (hx : evs sl x = some (.slice A len cap)) (hy : evs sl y = some (.int .i64 j)) (hj : j = (n : Int)) (hn : n ≤ cap) :
  Runs P sl (.slice T x none (some y) none) t w (.slice A n cap) := by
 have := Runs.lsl (t := t) (w := w) (lo := none) (hi' := some y) (l := none) (h := some j) hu hi hx rfl (by simp [evo, hy]) (okb_hi (by omega))
 have e : (if cap = lo_ none then A else A.map (fun a => a.add (lo_ none * sz))) = A := by
  split
  ·rfl
  cases A <;> simp [lo_, Addr.add]
 rw [e] at this
 simpa [hi_, lo_, hj] using this
theorem V6 {A : Option Addr} {len cap n : Nat} {j : Int} (hu : P.underlying T = some (.slice E)) (hi : Inf P E zv sz bytes) (hx : evs sl x = some (.slice A len cap)) (hy : evs sl y = some (.int .i64 j)) (hj : j = (n : Int)) (hn : n ≤ len) :
  Runs P sl (.slice T x (some y) none none) t w (.slice (if cap = n then A else A.map (·.add (n * sz))) (len - n) (cap - n)) := by
 have := Runs.lsl (t := t) (w := w) (lo := some y) (hi' := none) (l := some j) (h := none) hu hi hx (by simp [evo, hy]) rfl (okb_lo (by omega))
 simpa [hi_, lo_, hj] using this
theorem St.nilRes (h : St W F cs w) : St W F ([] :: cs) w := ⟨h.bel, h.imm, by simpa using h.own, by simpa using h.nd⟩
theorem shr_nat {a n : Nat} {j : Int} (hj : j = (n : Int)) (hn : n ≤ 64) : ((a : Int) / 2 ^ min j.toNat IntKind.i64.bits) = ((a / 2 ^ n : Nat) : Int) := by
 subst hj
 rw [Int.toNat_natCast, show min n IntKind.i64.bits = n from Nat.min_eq_left hn]
 simp
end
end B
end Go.Proofs.YtifdpllfbaogcaaGreat
namespace Go.Proofs.YtifdpllfbaogcaaGreat
open Go Go.RowKit
namespace B
section
variable {P : Program} {Z : Post} {ks : List Fr} {N : Nat} {D : List Deferred} {sl : Sl} {W w : World} {ops : Array Oper} {rest : List Oper} {F G : Snap} {cs : List Res} {t T T' E : TypeId} {x y : Operand} {v zv : Value} {pos : String} {af : Array Edge} {bytes : Nat} {k : IntKind}
theorem yield_lk {a : Act} (ha : Ag N D sl a) {j u : Nat} {c : Bool} (hj : (ops[j]?).bind (·.dst) = some u) (hv : lk sl u = some (.bool c)) : yielded ops a.tmps j = some c := by
 have := ha.ag u _ hv
 unfold yielded
 rw [hj]
 simp [this]
theorem WL.gon {dst : Option Nat} {op : Op} {j u : Nat} {c b : Bool} (hj : (ops[j]?).bind (·.dst) = some u) (hv : lk sl u = some (.bool c)) (hc : c = b)
  (h : WL P ops Z ks N D sl ({ dst := dst, op := op, type := t, pos := pos, after := af, guard := none } :: rest) w) :
  WL P ops Z ks N D sl ({ dst := dst, op := op, type := t, pos := pos, after := af, guard := some (j, b) } :: rest) w := fun a ha => by
 have h1 := h a ha
 have hy := yield_lk (ops := ops) ha hj hv
 subst hc
 unfold wpList at h1 ⊢
 rw [if_pos (by simp [Region.wanted])] at h1
 rw [if_pos (by simp [Region.wanted, hy])]
 exact h1
theorem WL.goff {d : Nat} {op : Op} {j u : Nat} {c b : Bool} (hj : (ops[j]?).bind (·.dst) = some u) (hv : lk sl u = some (.bool c)) (hc : c = !b) (hd : Nat.ble (d + 1) N = true)
  (h : WL P ops Z ks N D ((d, undef) :: sl) rest w) :
  WL P ops Z ks N D sl ({ dst := some d, op := op, type := t, pos := pos, after := af, guard := some (j, b) } :: rest) w := fun a ha => by
 have hy := yield_lk (ops := ops) ha hj hv
 unfold wpList
 rw [if_neg (by subst hc; simp [Region.wanted, hy])]
 exact h _ (ha.put (Nat.le_of_ble_eq_true hd) undef)
theorem WQ.gon {C : World → Prop} {Q : Act → Prop} {dst : Option Nat} {op : Op} {j u : Nat} {c b : Bool} (hj : (ops[j]?).bind (·.dst) = some u) (hv : lk sl u = some (.bool c)) (hc : c = b)
  (h : WQ P ops C Q N D sl ({ dst := dst, op := op, type := t, pos := pos, after := af, guard := none } :: rest)) :
  WQ P ops C Q N D sl ({ dst := dst, op := op, type := t, pos := pos, after := af, guard := some (j, b) } :: rest) := fun a ha => by
 have h1 := h a ha
 have hy := yield_lk (ops := ops) ha hj hv
 subst hc
 unfold wpQuiet at h1 ⊢
 rw [if_pos (by simp [Region.wanted])] at h1
 rw [if_pos (by simp [Region.wanted, hy])]
 exact h1
theorem WQ.goff {C : World → Prop} {Q : Act → Prop} {d : Nat} {op : Op} {j u : Nat} {c b : Bool} (hj : (ops[j]?).bind (·.dst) = some u) (hv : lk sl u = some (.bool c)) (hc : c = !b) (hd : Nat.ble (d + 1) N = true)
  (h : WQ P ops C Q N D ((d, undef) :: sl) rest) :
  WQ P ops C Q N D sl ({ dst := some d, op := op, type := t, pos := pos, after := af, guard := some (j, b) } :: rest) := fun a ha => by
 have hy := yield_lk (ops := ops) ha hj hv
 unfold wpQuiet
 rw [if_neg (by subst hc; simp [Region.wanted, hy])]
 exact h _ (ha.put (Nat.le_of_ble_eq_true hd) undef)
theorem ofInt8 (a : UInt8) : BitVec.ofInt 8 (a.toNat : Int) = a.toBitVec := by simp
theorem wrap_u8_lt {n : Nat} (h : n < 256) : IntKind.u8.wrap (n : Int) = n := by rw [wrap_u8]; omega
variable {a b : UInt8}
theorem Runs.xor8 (hx : evs sl x = some (V8 a)) (hy : evs sl y = some (V8 b)) : Runs P sl (.binOp .xor T x y T') t w (V8 (a ^^^ b)) := by
 have := Runs.xor (P := P) (t := t) (w := w) (T := T) (T' := T') hx hy
 have e : IntKind.u8.wrap (BitVec.ofInt IntKind.u8.bits (a.toNat : Int) ^^^ BitVec.ofInt IntKind.u8.bits (b.toNat : Int)).toNat = ((a ^^^ b).toNat : Int) := by
  show IntKind.u8.wrap (BitVec.ofInt 8 (a.toNat : Int) ^^^ BitVec.ofInt 8 (b.toNat : Int)).toNat = _
  rw [ofInt8, ofInt8, wrap_u8_lt (a.toBitVec ^^^ b.toBitVec).isLt]; rfl
 rwa [e] at this
theorem D7 {op : Op} {b c : Bool} (h : Runs P sl op t w (.bool b)) (e : b = c) : Runs P sl op t w (.bool c) := e ▸ h
theorem Runs.eqlb {b c : Bool} (hu : P.underlying T = some .bool) (hx : evs sl x = some (.bool b)) (hy : evs sl y = some (.bool c)) : Runs P sl (.binOp .eql T x y T') t w (.bool (b == c)) := fun ρ h o ho _ => by
 have := run_eql_bool (P := P) w T b c hu
 simp only [execOp, ho, h _ _ hx, h _ _ hy, eqGuard]
 simp [this]
theorem E7 {s : ByteArray} {n : Nat} {j : Int} (hu : P.underlying T = some .string) (hx : evs sl x = some (.string s)) (hy : evs sl y = some (.int k j)) (hj : j = (n : Int)) (hn : n < s.size) : Runs P sl (.index T x y) t w (V8 (s.data.toList.getD n 0)) := by
 have := Runs.sindex (P := P) (t := t) (w := w) hu hx hy (by omega)
 have e : bt s j = ((s.data.toList.getD n 0).toNat : Int) := by
  subst hj
  unfold bt
  rw [Int.toNat_natCast, List.getD_eq_getElem?_getD, ← Array.getElem?_toList]
 rwa [e] at this
theorem string_ext {s u : ByteArray} (h : s.data.toList = u.data.toList) : s = u := by
 cases s; cases u; simpa using Array.toList_inj.1 h
end
end B
end Go.Proofs.YtifdpllfbaogcaaGreat
namespace Go.Proofs.YtifdpllfbaogcaaGreat
open Go Go.RowKit
namespace B
def Gives {α : Type} (W : World) (F : Snap) (cs : List Res) (f : α → Value) (xs : List α) (e : Ending) (w : World) : Prop :=
 ∃ G A cap, Le F G ∧ e = .returned (.slice A xs.length cap) ∧ xs.length ≤ cap ∧ RdS (Kd.one f) G A xs ∧ St W G cs w
theorem Row.gives {α : Type} {W w : World} {F : Snap} {cs : List Res} {E : TypeId} {f : α → Value} {r : Res} {v : Value} {xs : List α} (hr : Row E f r v xs) (h : St W F (r :: cs) w) : Gives W F cs f xs (.returned v) w := by
 obtain ⟨A, cap, rfl, hc⟩ := hr.val
 obtain ⟨G, h1, h2, h3⟩ := h.freeze (i := 0) rfl
 exact ⟨G, A, cap, h1, rfl, hc, Row.read hr rfl h2, h3⟩
theorem St.litRd {α : Type} {W w : World} {F : Snap} {cs : List Res} {f : α → Value} {xs : List α} {b : Nat} {tt : TypeId} {fz : Nat × Nat} (h : St W F ([(b, .cells (xs.map f).toArray tt fz)] :: cs) w) : ∃ G, Le F G ∧ RdS (Kd.one f) G (some ⟨b, 0, none⟩) xs ∧ St W G cs w := by
 obtain ⟨G, h1, h2, h3⟩ := h.freeze (i := 0) rfl
 refine ⟨G, h1, .inr ⟨_, rfl, fun i x hx => ⟨[f x], rfl, fun j v hv => ?_⟩⟩, h3⟩
 have hj : j = 0 := by
  rcases j with _ | j
  ·rfl
  simp at hv
 subst hj
 simp only [List.getElem?_cons_zero, Option.some.injEq] at hv
 subst hv
 have := h2 _ (List.mem_cons_self)
 show cellF G ((⟨b, 0, none⟩ : Addr).add (i * 1 + 0)) = some (f x)
 rw [add_mk, Nat.mul_one, Nat.add_zero, Nat.zero_add]
 unfold cellF
 simp only [this]
 simp [hx]
theorem St.litGives {α : Type} {W w : World} {F : Snap} {cs : List Res} {f : α → Value} {xs : List α} {b n : Nat} {tt : TypeId} {fz : Nat × Nat} (h : St W F ([(b, .cells (xs.map f).toArray tt fz)] :: cs) w) (hn : n = xs.length) : Gives W F cs f xs (.returned (.slice (some ⟨b, 0, none⟩) n n)) w := by
 subst hn
 obtain ⟨G, h1, h2, h3⟩ := h.litRd
 exact ⟨G, _, _, h1, rfl, Nat.le_refl _, h2, h3⟩
theorem Row.some {α : Type} {E : TypeId} {f : α → Value} {r : Res} {A : Option Addr} {n cap : Nat} {xs : List α} (hr : Row E f r (.slice A n cap) xs) (h0 : 0 < xs.length) : ∃ ad, A = .some ad := by
 rcases hr with ⟨_, _, hl, _⟩ | ⟨b, cap', arr, fz, _, hv, _⟩
 ·omega
 injection hv with hA; exact ⟨_, hA⟩
section
variable {P : Program} {sl : Sl} {w : World} {t T T' : TypeId} {x y : Operand} {k : IntKind}
theorem I2 {α : Type} {W : World} {F : Snap} {cs : List Res} {E : TypeId} {f : α → Value} {r : Res} {ad : Addr} {m cap n : Nat} {xs : List α} {d : TypeDesc} (d0 : α) (h : St W F cs w) (i : Nat) (hi : cs[i]? = .some r) (hr : Row E f r (.slice (.some ad) m cap) xs) (hn : n < xs.length) (hu : P.underlying T = .some d) (hs : scal d = true) (hx : evs sl x = .some (.pointer (.some (ad.add n)))) :
  Runs P sl (.load T x) t w (f (xs.getD n d0)) := by
 rcases hr.wcell h hi rfl with e | ⟨ad', e, hc⟩
 ·rw [e] at hn; simp at hn
 injection e with e
 subst e
 refine K0 hu hs hx (hc n _ ?_)
 rw [List.getD_eq_getElem?_getD, List.getElem?_eq_getElem hn]; rfl
theorem Runs.lsl_lh {E : TypeId} {zv : Value} {sz bytes : Nat} {z : Operand} {A : Option Addr} {len cap n m : Nat} {j j' : Int} (hu : P.underlying T = .some (.slice E)) (hi : Inf P E zv sz bytes) (hx : evs sl x = .some (.slice A len cap)) (hy : evs sl y = .some (.int .i64 j)) (hz : evs sl z = .some (.int .i64 j')) (hj : j = (n : Int)) (hj' : j' = (m : Int)) (hn : n ≤ m) (hm : m ≤ cap) :
  Runs P sl (.slice T x (.some y) (.some z) none) t w (.slice (if cap = n then A else A.map (·.add (n * sz))) (m - n) (cap - n)) := by
 have := Runs.lsl (t := t) (w := w) (lo := .some y) (hi' := .some z) (l := .some j) (h := .some j') hu hi hx (by simp [evo, hy]) (by simp [evo, hz]) (okb_lh (len := len) (by omega) (by omega))
 simpa [hi_, lo_, hj, hj'] using this
theorem R0 {op : Op} {m n : Int} (h : Runs P sl op t w (.int k m)) (e : m = n) : Runs P sl op t w (.int k n) := e ▸ h
theorem Runs.strT {op : Op} {a b : ByteArray} (h : Runs P sl op t w (.string a)) (e : a = b) : Runs P sl op t w (.string b) := e ▸ h
theorem V5 {c : UInt8} (hu : P.underlying T = some (.int .u8)) (hu' : P.underlying T' = some (.int .i64)) (hx : evs sl x = some (V8 c)) : Runs P sl (.convert T T' x) t w (.int .i64 (c.toNat : Int)) := by
 have := O5 (P := P) (t := t) (w := w) hu hu' hx
 rwa [wrap64_in ⟨by omega, by have := c.toNat_lt; omega⟩] at this
theorem ofInt64 (n : Nat) (h : n < 4294967296) : (BitVec.ofInt 64 (n : Int)).toNat = n := by
 rw [BitVec.toNat_ofInt]; omega
theorem Runs.xorN {m n : Nat} (hm : m < 4294967296) (hn : n < 4294967296) (hx : evs sl x = some (.int .i64 (m : Int))) (hy : evs sl y = some (.int .i64 (n : Int))) : Runs P sl (.binOp .xor T x y T') t w (.int .i64 ((m ^^^ n : Nat) : Int)) := by
 have := Runs.xor (P := P) (t := t) (w := w) (T := T) (T' := T') hx hy
 have hb : m ^^^ n < 2 ^ 32 := Nat.xor_lt_two_pow hm hn
 have e : (BitVec.ofInt IntKind.i64.bits (m : Int) ^^^ BitVec.ofInt IntKind.i64.bits (n : Int)).toNat = m ^^^ n := by
  rw [BitVec.toNat_xor]
  show (BitVec.ofInt 64 (m : Int)).toNat ^^^ (BitVec.ofInt 64 (n : Int)).toNat = _
  rw [ofInt64 _ hm, ofInt64 _ hn]
 rw [e, wrap64_in ⟨by omega, by omega⟩] at this
 exact this
theorem Runs.andN {m n : Nat} (hm : m < 4294967296) (hn : n < 4294967296) (hx : evs sl x = some (.int .i64 (m : Int))) (hy : evs sl y = some (.int .i64 (n : Int))) : Runs P sl (.binOp .and T x y T') t w (.int .i64 ((m &&& n : Nat) : Int)) := by
 have := R6 (P := P) (t := t) (w := w) (T := T) (T' := T') hx hy
 have hb : m &&& n < 2 ^ 32 := Nat.and_lt_two_pow m hn
 have e : (BitVec.ofInt IntKind.i64.bits (m : Int) &&& BitVec.ofInt IntKind.i64.bits (n : Int)).toNat = m &&& n := by
  rw [BitVec.toNat_and]
  show (BitVec.ofInt 64 (m : Int)).toNat &&& (BitVec.ofInt 64 (n : Int)).toNat = _
  rw [ofInt64 _ hm, ofInt64 _ hn]
 rw [e, wrap64_in ⟨by omega, by omega⟩] at this
 exact this
theorem Runs.xorB {a b : UInt8} (hx : evs sl x = .some (.int .i64 (a.toNat : Int))) (hy : evs sl y = .some (.int .i64 (b.toNat : Int))) : Runs P sl (.binOp .xor T x y T') t w (.int .i64 ((a ^^^ b).toNat : Int)) := by
 have ha := a.toNat_lt; have hb := b.toNat_lt
 have := Runs.xorN (P := P) (t := t) (w := w) (T := T) (T' := T') (m := a.toNat) (n := b.toNat) (by omega) (by omega) hx hy
 rwa [← UInt8.toNat_xor] at this
abbrev VI (x : BitVec 32) : Value := .int .i64 (x.toNat : Int)
abbrev VB (x : UInt8) : Value := .int .i64 (x.toNat : Int)
theorem X4 {a b : BitVec 32} (hx : evs sl x = some (VI a)) (hy : evs sl y = some (VI b)) : Runs P sl (.binOp .xor T x y T') t w (VI (a ^^^ b)) := by
 have := Runs.xorN (P := P) (t := t) (w := w) (T := T) (T' := T') a.isLt b.isLt hx hy
 rwa [← BitVec.toNat_xor] at this
theorem J6 {a b : BitVec 32} (hx : evs sl x = some (VI a)) (hy : evs sl y = some (VI b)) : Runs P sl (.binOp .and T x y T') t w (VI (a &&& b)) := by
 have := Runs.andN (P := P) (t := t) (w := w) (T := T) (T' := T') a.isLt b.isLt hx hy
 rwa [← BitVec.toNat_and] at this
theorem Runs.notI {a : BitVec 32} (hx : evs sl x = some (VI a)) : Runs P sl (.binOp .sub T (.const (.int .i64 4294967295)) x T') t w (VI (~~~a)) := by
 have := N3 (P := P) (t := t) (w := w) (T := T) (T' := T') (x := .const (.int .i64 4294967295)) rfl hx ⟨by have := a.isLt; omega, by have := a.isLt; omega⟩
 refine R0 this ?_
 rw [BitVec.toNat_not]
 have := a.isLt
 omega
end
end B
end Go.Proofs.YtifdpllfbaogcaaGreat
namespace Go.Proofs.YtifdpllfbaogcaaGreat
open Go Go.RowKit
namespace B
def ments : Nat → List (Int × Value) → List MapEntry
 |_, [] => []
 |i, p :: l => { key := .int .i64 p.1, val := p.2, born := i } :: ments (i + 1) l
def mobj (l : List (Int × Value)) : Obj := .map (ments 0 l).toArray l.length
def mfind (k : Int) : List (Int × Value) → Nat → Option (Nat × Value)
 |[], _ => none
 |p :: l, j => if k = p.1 then some (j, p.2) else mfind k l (j + 1)
def mset (k : Int) (v : Value) : List (Int × Value) → List (Int × Value)
 |[] => [(k, v)]
 |p :: l => if k = p.1 then (k, v) :: l else p :: mset k v l
theorem findNow_ments (q : IntKind) (k : Int) : ∀ (l : List (Int × Value)) (i j : Nat), Instr.findNow (.int q) (.int .i64 k) (ments i l) j = some (mfind k l j)
 |[], _, _ => rfl
 |p :: l, i, j => by
  show (match Instr.sameNow (.int q) (.int .i64 k) (.int .i64 p.1) with | some true => some (some (j, p.2)) | some false => Instr.findNow (.int q) (.int .i64 k) (ments (i + 1) l) (j + 1) | none => none) = _
  have e : Instr.sameNow (.int q) (.int .i64 k) (.int .i64 p.1) = some (k == p.1) := by simp [Instr.sameNow]
  rw [e]
  unfold mfind
  by_cases h : k = p.1
  ·have e2 : (k == p.1) = true := by simpa using h
   rw [e2, if_pos h]
  have e2 : (k == p.1) = false := by simpa using h
  rw [e2, if_neg h, findNow_ments q k l (i + 1) (j + 1)]
theorem ments_len : ∀ (l : List (Int × Value)) (i : Nat), (ments i l).length = l.length
 |[], _ => rfl
 |p :: l, i => by simp [ments, ments_len l (i + 1)]
theorem ments_at : ∀ (l : List (Int × Value)) (i j : Nat), (ments i l)[j]? = (l[j]?).map fun p => { key := .int .i64 p.1, val := p.2, born := i + j }
 |[], _, _ => by simp [ments]
 |p :: l, i, 0 => by simp [ments]
 |p :: l, i, j + 1 => by simp [ments, ments_at l (i + 1) j]; cases l[j]? <;> simp; omega
theorem mfind_at : ∀ (k : Int) (l : List (Int × Value)) (j i : Nat) (v : Value), mfind k l j = some (i, v) → j ≤ i ∧ l[i - j]? = some (k, v)
 |k, [], _, _, _, h => by simp [mfind] at h
 |k, p :: l, j, i, v, h => by
  unfold mfind at h
  split at h
  ·rename_i e
   simp only [Option.some.injEq, Prod.mk.injEq] at h
   obtain ⟨rfl, rfl⟩ := h
   subst e
   simp
  obtain ⟨h1, h2⟩ := mfind_at k l (j + 1) i v h
  refine ⟨by omega, ?_⟩
  rw [show i - j = (i - (j + 1)) + 1 by omega, List.getElem?_cons_succ]
  exact h2
theorem ments_app : ∀ (l : List (Int × Value)) (i : Nat) (q : Int × Value), ments i (l ++ [q]) = ments i l ++ [{ key := .int .i64 q.1, val := q.2, born := i + l.length }]
 |[], i, q => by simp [ments]
 |p :: l, i, q => by simp [ments, ments_app l (i + 1) q]; omega
theorem mset_none : ∀ (k : Int) (v : Value) (l : List (Int × Value)) (j : Nat), mfind k l j = none → mset k v l = l ++ [(k, v)]
 |k, v, [], _, _ => rfl
 |k, v, p :: l, j, h => by
  unfold mfind at h
  split at h
  ·cases h
  rename_i e
  unfold mset
  rw [if_neg e, mset_none k v l (j + 1) h]; rfl
theorem mset_some : ∀ (k : Int) (v : Value) (l : List (Int × Value)) (j i : Nat) (u : Value) (b : Nat), mfind k l j = some (i, u) → ments b (mset k v l) = (ments b l).modify (i - j) fun e => { e with key := .int .i64 k, val := v }
 |k, v, [], _, _, _, _, h => by simp [mfind] at h
 |k, v, p :: l, j, i, u, b, h => by
  have h0 := (mfind_at k (p :: l) j i u h).1
  unfold mfind at h
  unfold mset
  split at h
  ·rename_i e
   simp only [Option.some.injEq, Prod.mk.injEq] at h
   obtain ⟨rfl, rfl⟩ := h
   rw [if_pos e, Nat.sub_self]
   simp [ments]
  rename_i e
  have h1 := (mfind_at k l (j + 1) i u h).1
  rw [if_neg e, show i - j = (i - (j + 1)) + 1 by omega]
  simp [ments, mset_some k v l (j + 1) i u (b + 1) h]
theorem mset_len_some {k : Int} {v u : Value} {l : List (Int × Value)} {j i : Nat} (h : mfind k l j = some (i, u)) : (mset k v l).length = l.length := by
 have := congrArg List.length (mset_some k v l j i u 0 h)
 simpa [ments_len] using this
section
variable {P : Program} {Z : Post} {ks : List Fr} {N : Nat} {D : List Deferred} {sl : Sl} {W w : World} {ops : Array Oper} {rest : List Oper} {F : Snap} {cs : List Res} {t T K E : TypeId} {x y z : Operand} {v zv : Value} {pos : String} {af : Array Edge} {sz bytes : Nat}
theorem M6 {d : Nat} (hd : Nat.ble (d + 1) N = true) (h : St W F cs w)
  (k : ∀ b w', St W F ([(b, mobj [])] :: cs) w' → WL P ops Z ks N D ((d, .map (some b)) :: sl) rest w') :
  WL P ops Z ks N D sl ({ dst := some d, op := .makeMap T none, type := t, pos := pos, after := af, guard := none } :: rest) w := by
 refine M5 (w' := w.alloc (mobj [])) hd (fun ρ hρ o ho _ => ?_) (k _ _ (h.alloc _))
 simp [execOp, ho, Instr.makeMap, newObj, bind, Sem.bind, pure, Sem.run, mobj, ments]
theorem run_find {k : Int} {l : List (Int × Value)} (hK : P.underlying K = some (.int .i64)) : (Instr.findKey K (.int .i64 k) (ments 0 l)).run P w = .ok (mfind k l 0) w := by
 simp [Instr.findKey, underlying, program, hK, findNow_ments, bind, Sem.bind, pure, Sem.run]
theorem run_check {e : Bool} {k : Int} (hK : P.underlying K = some (.int .i64)) : (Instr.checkKey e 10000 K (.int .i64 k)).run P w = .ok () w := by
 rw [show (10000 : Nat) = 9999 + 1 from rfl]
 unfold Instr.checkKey
 simp [underlying, program, hK, bind, Sem.bind, pure, Sem.run]
theorem run_lookup (h : St W F cs w) (i : Nat) {b : Nat} {l : List (Int × Value)} {k : Int} {c : Bool} (hi : cs[i]? = some [(b, mobj l)]) (hT : P.underlying T = some (.map K E)) (hK : P.underlying K = some (.int .i64)) (hE : Inf P E zv sz bytes) :
  (Instr.lookup T (.map (some b)) (.int .i64 k) c).run P w = .ok (if c then .tuple #[((mfind k l 0).map (·.2)).getD zv, .bool (mfind k l 0).isSome] else ((mfind k l 0).map (·.2)).getD zv) w := by
 obtain ⟨ti, h3, hz, _⟩ := hE.get
 have hb := h.blk hi
 have hf := run_find (w := w) (k := k) (l := l) hK
 have hc := run_check (w := w) (e := (ments 0 l).isEmpty) (k := k) hK
 have hu : (underlying T).run P w = .ok (.map K E) w := by simp [underlying, program, hT, bind, Sem.bind, pure, Sem.run]
 have hzv : (zeroValue E).run P w = .ok zv w := by simp [zeroValue, typeInfo, program, h3, hz, bind, Sem.bind, pure, Sem.run]
 unfold Instr.lookup
 simp only [Sem.run_bind, hu, Result.andThen]
 simp only [getObj, Sem.run, hb, mobj, Result.andThen, Sem.run_bind, pure]
 have e1 : (ments 0 l).toArray.isEmpty = (ments 0 l).isEmpty := by simp
 rw [e1, hc]
 simp only [Result.andThen, hf]
 cases hm : mfind k l 0 with
 |none => cases c <;> simp [hzv, Sem.run, Sem.run_bind, Result.andThen]
 |some p => cases c <;> simp [Sem.run, Sem.run_bind, Result.andThen]
theorem N6 (h : St W F cs w) (i : Nat) {b : Nat} {l : List (Int × Value)} {k : Int} (hi : cs[i]? = some [(b, mobj l)]) (hT : P.underlying T = some (.map K E)) (hK : P.underlying K = some (.int .i64)) (hE : Inf P E zv sz bytes) (hx : evs sl x = some (.map (some b))) (hy : evs sl y = some (.int .i64 k)) :
  Runs P sl (.lookup T x y false) t w (((mfind k l 0).map (·.2)).getD zv) := fun ρ hρ o ho _ => by
 have := run_lookup (c := false) (k := k) h i hi hT hK hE
 simp only [execOp, ho, hρ _ _ hx, hρ _ _ hy]
 simp [Sem.run_bind, this, Result.andThen, Sem.run, pure]
theorem L4 (h : St W F cs w) (i : Nat) {b : Nat} {l : List (Int × Value)} {k : Int} (hi : cs[i]? = some [(b, mobj l)]) (hT : P.underlying T = some (.map K E)) (hK : P.underlying K = some (.int .i64)) (hE : Inf P E zv sz bytes) (hx : evs sl x = some (.map (some b))) (hy : evs sl y = some (.int .i64 k)) :
  Runs P sl (.lookup T x y true) t w (.tuple #[((mfind k l 0).map (·.2)).getD zv, .bool (mfind k l 0).isSome]) := fun ρ hρ o ho _ => by
 have := run_lookup (c := true) (k := k) h i hi hT hK hE
 simp only [execOp, ho, hρ _ _ hx, hρ _ _ hy]
 simp [Sem.run_bind, this, Result.andThen, Sem.run, pure]
theorem run_setObj {b : Nat} {es : Array MapEntry} {c : Nat} {o' : Obj} (hb : w.heap[b]? = some (.map es c)) : (setObj b o').run P w = .ok () (World.setBlk w b o') := by
 simp [setObj, Sem.run, hb, World.setBlk]
theorem run_update (h : St W F cs w) (i : Nat) {b : Nat} {l : List (Int × Value)} {k : Int} (hi : cs[i]? = some [(b, mobj l)]) (hT : P.underlying T = some (.map K E)) (hK : P.underlying K = some (.int .i64)) :
  (Instr.mapUpdate T (.map (some b)) (.int .i64 k) v).run P w = .ok () (World.setBlk w b (mobj (mset k v l))) := by
 have hb := h.blk hi
 have hf := run_find (w := w) (k := k) (l := l) hK
 have hc := run_check (w := w) (e := false) (k := k) hK
 have hu : (underlying T).run P w = .ok (.map K E) w := by simp [underlying, program, hT, bind, Sem.bind, pure, Sem.run]
 unfold Instr.mapUpdate
 simp only [Sem.run_bind, hu, Result.andThen]
 simp only [getObj, Sem.run, hb, mobj, Result.andThen, Sem.run_bind, hc]
 simp only [hf, Result.andThen]
 cases hm : mfind k l 0 with
 |none =>
  simp only
  rw [run_setObj hb]
  congr 2
  have e := mset_none k v l 0 hm
  rw [e, ments_app]
  simp
 |some p =>
  obtain ⟨i', u⟩ := p
  have h1 := mfind_at k l 0 i' u hm
  simp only [Nat.sub_zero] at h1
  have h2 : (ments 0 l).toArray[i']? = some { key := .int .i64 k, val := u, born := i' } := by
   rw [List.getElem?_toArray, ments_at, h1.2]; simp
  have hk : (Instr.keyThatStays (.int .i64 k) (.int .i64 k)).run P w = .ok (.int .i64 k) w := by
   simp [Instr.keyThatStays, Instr.sameBits, Sem.run, pure]
  simp only [Sem.run_bind, h2, Option.map_some, Option.getD_some, hk, Result.andThen]
  rw [run_setObj hb]
  congr 2
  rw [mset_len_some hm, mset_some k v l 0 i' u 0 hm]
  simp
theorem A6 (h : St W F cs w) (i : Nat) {b : Nat} {l : List (Int × Value)} {k : Int} (hi : cs[i]? = some [(b, mobj l)]) (hT : P.underlying T = some (.map K E)) (hK : P.underlying K = some (.int .i64)) (hx : evs sl x = some (.map (some b))) (hy : evs sl y = some (.int .i64 k)) (hz : evs sl z = some v)
  (c : ∀ w', St W F (cs.set i [(b, mobj (mset k v l))]) w' → WL P ops Z ks N D sl rest w') :
  WL P ops Z ks N D sl ({ dst := none, op := .mapUpdate T x y z, type := t, pos := pos, after := af, guard := none } :: rest) w := by
 refine WL.skip_ (w' := World.setBlk w b (mobj (mset k v l))) (fun ρ hρ o ho => ?_) (c _ (h.set1 hi _))
 have := run_update (v := v) (k := k) h i hi hT hK
 simp only [execOp, ho, hρ _ _ hx, hρ _ _ hy, hρ _ _ hz]
 simp [Sem.run_bind, this, Result.andThen, Sem.run, pure]
end
end B
end Go.Proofs.YtifdpllfbaogcaaGreat
namespace Go.Proofs.YtifdpllfbaogcaaGreat
open Go Go.RowKit
namespace B
section
variable {P : Program} {Z : Post} {ks : List Fr} {N : Nat} {D : List Deferred} {sl : Sl} {W w : World} {ops : Array Oper} {rest : List Oper} {F : Snap} {cs : List Res} {t T T' K E : TypeId} {x y z : Operand} {v zv : Value} {pos : String} {af : Array Edge} {sz bytes : Nat}
theorem run_eqlP {p : Option Addr} (hu : P.underlying T = some (.pointer E)) : (Op.equal T (.pointer p) (.pointer none)).run P w = .ok p.isNone w := by
 unfold Op.equal Op.maxDepth
 rw [show (10000 : Nat) = 9999 + 1 from rfl]
 unfold Op.equalIn
 cases p <;> simp [underlying, program, hu, bind, Sem.bind, pure, Sem.run]
theorem run_eqlS {p : Option Addr} {n c : Nat} (hu : P.underlying T = some (.slice E)) : (Op.equal T (.slice p n c) (.slice none 0 0)).run P w = .ok p.isNone w := by
 unfold Op.equal Op.maxDepth
 rw [show (10000 : Nat) = 9999 + 1 from rfl]
 unfold Op.equalIn
 cases p <;> simp [underlying, program, hu, bind, Sem.bind, pure, Sem.run]
theorem L2 {p : Option Addr} (hu : P.underlying T = some (.pointer E)) (hx : evs sl x = some (.pointer p)) (hy : evs sl y = some (.pointer none)) : Runs P sl (.binOp .eql T x y T') t w (.bool p.isNone) := fun ρ h o ho _ => by
 have := run_eqlP (w := w) (p := p) hu
 simp only [execOp, ho, h _ _ hx, h _ _ hy, eqGuard]
 simp [binOp, this, Sem.run_bind, Result.andThen, Sem.run, pure]
theorem U3 {p : Option Addr} (hu : P.underlying T = some (.pointer E)) (hx : evs sl x = some (.pointer p)) (hy : evs sl y = some (.pointer none)) : Runs P sl (.binOp .neq T x y T') t w (.bool p.isSome) := fun ρ h o ho _ => by
 have := run_eqlP (w := w) (p := p) hu
 simp only [execOp, ho, h _ _ hx, h _ _ hy, eqGuard]
 cases p <;> simp [binOp, this, Sem.run_bind, Result.andThen, Sem.run, pure]
theorem H6 {p : Option Addr} {n c : Nat} (hu : P.underlying T = some (.slice E)) (hx : evs sl x = some (.slice p n c)) (hy : evs sl y = some (.slice none 0 0)) : Runs P sl (.binOp .eql T x y T') t w (.bool p.isNone) := fun ρ h o ho _ => by
 have := run_eqlS (w := w) (p := p) (n := n) (c := c) hu
 simp only [execOp, ho, h _ _ hx, h _ _ hy, eqGuard]
 simp [binOp, this, Sem.run_bind, Result.andThen, Sem.run, pure]
def fldB (P : Program) (T : TypeId) (j off : Nat) : Bool :=
 match P.underlying T with
 |some (.struct fs) => match fs[j]? with
  |some f => f.offset == off && (match P.info? f.type with | some i => i.size != 0 | none => false)
  |none => false
 |_ => false
theorem Runs.fld {j off : Nat} {a : Addr} (hf : fldB P T j off = true) (hx : evs sl x = some (.pointer (some a))) : Runs P sl (.fieldAddr T x j) t w (.pointer (some (a.add off))) := fun ρ h o ho _ => by
 unfold fldB at hf
 split at hf
 ·rename_i fs hu
  split at hf
  ·rename_i f hfj
   simp only [Bool.and_eq_true, beq_iff_eq] at hf
   obtain ⟨rfl, hf⟩ := hf
   split at hf
   ·rename_i i hi
    have hs : (sizeOf f.type).run P w = .ok i.size w := by simp [sizeOf, typeInfo, program, hi, bind, Sem.bind, pure, Sem.run]
    have hne : ¬ i.size = 0 := by simpa using hf
    simp only [execOp, ho, h _ _ hx]
    simp [Instr.fieldAt, underlying, program, hu, hfj, Instr.sureAddr, fieldPlace, hs, hne, Sem.run_bind, Result.andThen, Sem.run, pure]
   cases hf
  cases hf
 cases hf
theorem R2 {ps : List (Nat × Operand)} {vs : List (Nat × Value)} {cells : Array Value} (hp : pargs sl ps = some vs) (hb : P.built T vs = some cells) : Runs P sl (.build T ps.toArray) t w (.agg cells) := fun ρ h o ho _ => by
 have e := pargs_spec h ps vs hp
 have := run_build w T vs.toArray cells (by simpa using hb)
 simp only [execOp, ho]
 have e2 : (ps.toArray.map fun p => (p.1, ρ p.2)) = vs.toArray := by simp [← e]
 simp only [e2]
 simp [this, Sem.run_bind, Result.andThen, Sem.run, pure]
theorem X1 {op : Op} {u : Value} (h : Runs P sl op t w v) (e : v = u) : Runs P sl op t w u := e ▸ h
theorem Row.lit {α : Type} {E : TypeId} {f : α → Value} {b n : Nat} {xs : List α} (hn : n = xs.length) : Row E f [(b, .cells (xs.map f).toArray E (0, 0))] (.slice (.some ⟨b, 0, none⟩) n n) xs := by
 subst hn
 exact .inr ⟨b, xs.length, _, (0, 0), rfl, rfl, by simp, Nat.le_refl _, by rw [Nat.mul_one]; exact (List.take_of_length_le (by simp)).symm, Free.zero _⟩
theorem Row.blk {α : Type} {E : TypeId} {f : α → Value} {r : Res} {v : Value} {xs : List α} (h : Row E f r v xs) (h0 : 0 < xs.length) : ∃ b zs fz, r = [(b, .cells (xs.map f ++ zs).toArray E fz)] ∧ v = .slice (.some ⟨b, 0, none⟩) xs.length (xs.length + zs.length) ∧ Free fz (xs.length + zs.length) := by
 rcases h with ⟨_, _, hl, _⟩ | ⟨b, cap, arr, fz, hr, hv, hs, hn, hc, hf⟩
 ·omega
 rw [Nat.mul_one] at hs hc
 have e : arr = (xs.map f ++ arr.toList.drop xs.length).toArray := by
  apply Array.toList_inj.1
  rw [hc]; simp
 have hl : (arr.toList.drop xs.length).length = cap - xs.length := by simp [hs]
 refine ⟨b, arr.toList.drop xs.length, fz, by rw [← e]; exact hr, ?_, ?_⟩
 ·rw [hv, hl, show xs.length + (cap - xs.length) = cap by omega]
 rw [hl, show xs.length + (cap - xs.length) = cap by omega, ← hs]; exact hf
theorem T3 {α : Type} {E : TypeId} {f : α → Value} {b : Nat} {fz : Nat × Nat} {xs : List α} {zs : List Value} {cap : Nat} (hcap : cap = xs.length + zs.length) (hf : Free fz (xs.length + zs.length)) : Row E f [(b, .cells (xs.map f ++ zs).toArray E fz)] (.slice (.some ⟨b, 0, none⟩) xs.length cap) xs := by
 subst hcap
 exact .inr ⟨b, _, _, fz, rfl, rfl, by simp, Nat.le_add_right _ _, by simp, by simpa using hf⟩
theorem E4 {α : Type} (h : St W F cs w) (i : Nat) {f : α → Value} {xs : List α} {zs : List Value} {u : α} {b n : Nat} {tt : TypeId} {fz : Nat × Nat} (hi : cs[i]? = some [(b, .cells (xs.map f ++ zs).toArray tt fz)]) (hx : evs sl x = some (.pointer (some ⟨b, n, none⟩))) (hy : evs sl y = some (f u))
  (hT : Inf P T zv 1 bytes) (h1 : one_ (f u) = true) (hf : Free fz (xs.length + zs.length)) (hn : n < xs.length)
  (k : ∀ w', St W F (cs.set i [(b, .cells ((xs.set n u).map f ++ zs).toArray tt fz)]) w' → WL P ops Z ks N D sl rest w') :
  WL P ops Z ks N D sl ({ dst := none, op := .store T x y, type := t, pos := pos, after := af, guard := none } :: rest) w := by
 have hc := one_cells h1
 refine C4 h i hi hx hy hT (by rw [hc]; rfl) (by rw [hc]; simp [h1]) (by simpa using hf) (by rw [hc]; simp; omega) (fun w' h' => k w' ?_)
 rw [hc] at h'
 have : blit (xs.map f ++ zs).toArray n [f u] = ((xs.set n u).map f ++ zs).toArray := by
  apply Array.toList_inj.1
  simp [blit_one, List.map_set, List.set_append_left _ _ (show n < (xs.map f).length by simpa using hn)]
 rwa [this] at h'
theorem S3 {d : Nat} {f : FuncId} {first cap : List Value} {xs : List Operand} {vs : List Value} {ts : Array TypeId} {R : Ending → World → Prop} (hc : Can P f) (hx : evs sl x = some (.func (.func f) first.toArray cap.toArray)) (hv : args_ sl xs = some vs) (hd : Nat.ble (d + 1) N = true)
  (c : Calls P f (first ++ vs ++ cap).toArray w R) (k : ∀ e w', R e w' → ∃ v, e = .returned v ∧ WL P ops Z ks N D ((d, v) :: sl) rest w') :
  WL P ops Z ks N D sl ({ dst := some d, op := .call { callee := .value x, args := xs.toArray, argTypes := ts }, type := t, pos := pos, after := af, guard := none } :: rest) w := fun a ha =>
 wpList_plain rfl fun K hK => by
  have e := args_spec (fun x v hx => ha.ev hx) xs vs hv
  have hr := run_callFunc (w := w) hc (first ++ vs ++ cap).toArray
  have : (execOp a.eval { dst := some d, op := .call { callee := .value x, args := xs.toArray, argTypes := ts }, type := t, pos := pos, after := af, guard := none }).run P w = .ok (.enter f (first ++ vs ++ cap).toArray) w := by
   have e2 : xs.toArray.map a.eval = vs.toArray := by simp [← e]
   simp only [execOp, resolve, ha.ev hx, Deferred.ofValue, e2]
   have e3 : first.toArray ++ vs.toArray ++ cap.toArray = (first ++ vs ++ cap).toArray := by simp
   simp only [Sem.run_bind, pure, Sem.run, Result.andThen, invoke, e3]
   exact hr
  unfold Oper.wp
  rw [this]
  refine c.mono fun e w' hr => ?_
  obtain ⟨v, rfl, hk⟩ := k e w' hr
  exact hK _ _ (hk _ (ha.put (Nat.le_of_ble_eq_true hd) v))
theorem WL.range (h : St W F cs w) (i : Nat) {d m : Nat} {l : List (Int × Value)} (hi : cs[i]? = some [(m, mobj l)]) (hT : P.underlying T = some (.map K E)) (hx : evs sl x = some (.map (some m))) (hd : Nat.ble (d + 1) N = true)
  (k : ∀ b w', St W F ([(b, .mapIter (some m) l.length #[] l.length)] :: cs) w' → WL P ops Z ks N D ((d, .pointer (some ⟨b, 0, none⟩)) :: sl) rest w') :
  WL P ops Z ks N D sl ({ dst := some d, op := .range T x, type := t, pos := pos, after := af, guard := none } :: rest) w := by
 have hb := h.blk hi
 refine M5 (w' := w.alloc (.mapIter (some m) l.length #[] l.length)) hd (fun ρ hρ o ho _ => ?_) (k _ _ (h.alloc _))
 simp only [execOp, ho, hρ _ _ hx]
 simp [Instr.range, underlying, program, hT, getObj, hb, mobj, newObj, Sem.run_bind, Result.andThen, Sem.run, pure]
theorem ments_mem {l : List (Int × Value)} {e : MapEntry} (h : e ∈ (ments 0 l)) : ∃ p kv, l[p]? = some kv ∧ e = { key := .int .i64 kv.1, val := kv.2, born := p } := by
 obtain ⟨p, hp⟩ := List.getElem?_of_mem h
 rw [ments_at] at hp
 cases e1 : l[p]? with
 |none => rw [e1] at hp; cases hp
 |some kv => rw [e1] at hp; simp only [Option.map_some, Option.some.injEq] at hp; exact ⟨p, kv, e1, by rw [← hp]; simp⟩
theorem WL.next (h : St W F cs w) (i j : Nat) {d b m : Nat} {l : List (Int × Value)} {seen : Array Nat} (hi : cs[i]? = some [(b, .mapIter (some m) l.length seen l.length)]) (hj : cs[j]? = some [(m, mobj l)]) (hx : evs sl x = some (.pointer (some ⟨b, 0, none⟩))) (hd : Nat.ble (d + 1) N = true)
  (k0 : (∀ p, p < l.length → p ∈ seen) → WL P ops Z ks N D ((d, .tuple #[.bool false]) :: sl) rest w)
  (k1 : ∀ p kv w', l[p]? = some kv → p ∉ seen → St W F (cs.set i [(b, .mapIter (some m) l.length (seen.push p) l.length)]) w' → WL P ops Z ks N D ((d, .tuple #[.bool true, .int .i64 kv.1, kv.2]) :: sl) rest w') :
  WL P ops Z ks N D sl ({ dst := some d, op := .next x false, type := t, pos := pos, after := af, guard := none } :: rest) w := by
 have hb := h.blk hi
 have hm := h.blk hj
 have hlt : ∀ e ∈ (ments 0 l).toArray.toList, e.born < l.length := by
  intro e he
  obtain ⟨p, kv, h1, rfl⟩ := ments_mem (by simpa using he)
  exact (List.getElem?_eq_some_iff.1 h1).1
 rcases run_next_at (P := P) w t b m l.length l.length seen (ments 0 l).toArray l.length hb hm hlt (Nat.le_refl _) with ⟨h0, hr⟩ | ⟨e, he, w1, hw1, hr⟩
 ·refine M5 (w' := w) hd (fun ρ hρ o ho hot => ?_) (k0 fun p hp => ?_)
  ·simp only [execOp, ho, hρ _ _ hx, hot]
   simp [hr, Sem.run_bind, Result.andThen, Sem.run, pure]
  have hnil : leftOf (ments 0 l).toArray seen = #[] := Array.eq_empty_of_size_eq_zero h0
  unfold leftOf at hnil
  rw [Array.filter_eq_empty_iff] at hnil
  have := hnil { key := .int .i64 (l[p]).1, val := (l[p]).2, born := p } (by
   rw [← Array.mem_toList_iff]
   apply List.mem_of_getElem? (i := p)
   simp [ments_at, List.getElem?_eq_getElem hp])
  simpa using this
 have he' : e ∈ ments 0 l ∧ e.born ∉ seen := by
  unfold leftOf at he
  simpa using he
 obtain ⟨p, kv, h1, rfl⟩ := ments_mem he'.1
 have hS : St W F cs w1 := by rcases hw1 with rfl | rfl <;> first | exact h | exact h.drew
 refine M5 hd (fun ρ hρ o ho hot => ?_) (k1 p kv _ h1 he'.2 (hS.set1 hi _))
 simp only [execOp, ho, hρ _ _ hx, hot]
 simp [hr, Sem.run_bind, Result.andThen, Sem.run, pure]
 rfl
def nxa : Option (Int × Value) → Array Value
 |none => #[.bool false]
 |some kv => #[.bool true, .int .i64 kv.1, kv.2]
theorem nxa0 (o : Option (Int × Value)) : (nxa o)[0]? = some (.bool o.isSome) := by cases o <;> rfl
theorem WL.next1 (h : St W F cs w) (i j : Nat) {d b m : Nat} {l : List (Int × Value)} {seen : Array Nat} (hi : cs[i]? = some [(b, .mapIter (some m) l.length seen l.length)]) (hj : cs[j]? = some [(m, mobj l)]) (hx : evs sl x = some (.pointer (some ⟨b, 0, none⟩))) (hd : Nat.ble (d + 1) N = true)
  (k : ∀ o w', ((o = none ∧ (∀ p, p < l.length → p ∈ seen) ∧ St W F cs w') ∨ ∃ p kv, o = some kv ∧ l[p]? = some kv ∧ p ∉ seen ∧ St W F (cs.set i [(b, .mapIter (some m) l.length (seen.push p) l.length)]) w') → WL P ops Z ks N D ((d, .tuple (nxa o)) :: sl) rest w') :
  WL P ops Z ks N D sl ({ dst := some d, op := .next x false, type := t, pos := pos, after := af, guard := none } :: rest) w :=
 WL.next h i j hi hj hx hd (fun ha => k none w (.inl ⟨rfl, ha, h⟩)) (fun p kv w' h1 h2 h3 => k (some kv) w' (.inr ⟨p, kv, rfl, h1, h2, h3⟩))
def togo (n : Nat) (seen : Array Nat) : Nat := ((List.range n).filter fun p => !seen.contains p).length
theorem filter_less {α : Type} {q r : α → Bool} : ∀ {l : List α} {x : α}, (∀ y, q y = true → r y = true) → x ∈ l → r x = true → q x = false → (l.filter q).length < (l.filter r).length
 |[], _, _, h, _, _ => by simp at h
 |a :: l, x, hi, hm, h1, h2 => by
  have hle : ∀ l : List α, (l.filter q).length ≤ (l.filter r).length := by
   intro l
   induction l with
   |nil => simp
   |cons b l ih =>
    rw [List.filter_cons, List.filter_cons]
    by_cases hb : q b = true
    ·rw [if_pos hb, if_pos (hi b hb)]; simp; exact ih
    rw [if_neg hb]
    split
    ·simp; omega
    exact ih
  rw [List.filter_cons, List.filter_cons]
  rcases List.mem_cons.1 hm with rfl | hm
  ·rw [if_neg (by rw [h2]; simp), if_pos h1]
   have := hle l
   simp; omega
  have ih := filter_less hi hm h1 h2
  by_cases hb : q a = true
  ·rw [if_pos hb, if_pos (hi a hb)]; simp; exact ih
  rw [if_neg hb]
  split
  ·simp; omega
  exact ih
theorem togo_push {n p : Nat} {seen : Array Nat} (hp : p < n) (h : p ∉ seen) : togo n (seen.push p) < togo n seen := by
 unfold togo
 refine filter_less (x := p) (fun y hy => ?_) (List.mem_range.2 hp) ?_ ?_
 ·simp at hy ⊢; exact hy.1
 ·simpa using h
 simp
theorem ments_born : ∀ (l : List (Int × Value)) (i : Nat), (ments i l).map (·.born) = (List.range' i l.length)
 |[], _ => rfl
 |p :: l, i => by simp [ments, ments_born l (i + 1), List.range'_succ]
theorem Runs.entry (h : St W F cs w) (i j : Nat) {b m p : Nat} {kv : Int × Value} {l : List (Int × Value)} {seen : Array Nat} (hi : cs[i]? = some [(b, .mapIter (some m) l.length (seen.push p) l.length)]) (hj : cs[j]? = some [(m, mobj l)]) (hp : l[p]? = some kv) (hx : evs sl x = some (.pointer (some ⟨b, 0, none⟩))) :
  Runs P sl (.entry x) t w (.tuple #[.int .i64 kv.1, kv.2]) := fun ρ hρ o ho _ => by
 have := run_entry_at (P := P) w b m l.length seen (ments 0 l).toArray l.length { key := .int .i64 kv.1, val := kv.2, born := p } (h.blk hi) (h.blk hj) (by
   simp only
   apply List.mem_of_getElem? (i := p)
   simp [ments_at, hp]) (by simp only; rw [ments_born]; exact List.nodup_range' ..)
 simp only [execOp, ho, hρ _ _ hx]
 simp [this, Sem.run_bind, Result.andThen, Sem.run, pure]
theorem WL.val0_ {op : Op} {w' : World} (h : ∀ (ρ : Operand → Value), (∀ x v, evs sl x = some v → ρ x = v) → ∀ o : Oper, o.op = op → o.type = t → (execOp ρ o).run P w = .ok (.value v) w') (k : WL P ops Z ks N D sl rest w') :
  WL P ops Z ks N D sl ({ dst := none, op := op, type := t, pos := pos, after := af, guard := none } :: rest) w := fun a ha =>
 wpList_plain rfl fun K hK => by
  unfold Oper.wp
  rw [h a.eval (fun x v hx => ha.ev hx) _ rfl rfl]
  exact hK _ _ (k _ ha)
theorem setBlk_same {b : Nat} {o : Obj} (hb : w.heap[b]? = some o) : World.setBlk w b o = w := by
 obtain ⟨h1, h2⟩ := Array.getElem?_eq_some_iff.1 hb
 have : w.heap.setIfInBounds b o = w.heap := by
  rw [← h2]; simp [Array.setIfInBounds, h1]
 unfold World.setBlk
 rw [this]
theorem WL.clear (h : St W F cs w) (i : Nat) {b off n c : Nat} {arr : Array Value} {tt : TypeId} {fz : Nat × Nat} (hi : cs[i]? = some [(b, .cells arr tt fz)]) (hT : P.underlying T = some (.slice E)) (hE : Inf P E zv 1 bytes) (hz : one_ zv = true) (hx : evs sl x = some (.slice (some ⟨b, off, none⟩) n c)) (hf : Free fz arr.size) (ho : off + n ≤ arr.size)
  (k : ∀ w', St W F (cs.set i [(b, .cells (blit arr off (List.replicate n zv)) tt fz)]) w' → WL P ops Z ks N D sl rest w') :
  WL P ops Z ks N D sl ({ dst := none, op := .call { callee := .builtin .clear, args := #[x], argTypes := #[T] }, type := t, pos := pos, after := af, guard := none } :: rest) w := by
 have hb := h.blk hi
 obtain ⟨ti, h3, hzv, _⟩ := hE.get
 refine WL.val0_ (v := .tuple #[]) (w' := World.setBlk w b (.cells (blit arr off (List.replicate n zv)) tt fz)) (fun ρ hρ o ho' _ => ?_) (k _ (h.set1 hi _))
 have hu : (underlying T).run P w = .ok (.slice E) w := by simp [underlying, program, hT, bind, Sem.bind, pure, Sem.run]
 have hz2 : (zeroValue E).run P w = .ok zv w := by simp [zeroValue, typeInfo, program, h3, hzv, bind, Sem.bind, pure, Sem.run]
 have hc : (Builtin.zeroCells zv.cells n).toList = List.replicate n zv := by
  rw [one_cells hz]
  simp [Builtin.zeroCells]
  apply List.ext_getElem
  ·simp
  intro j h1 h2
  simp [Nat.mod_one]
 have hs := run_storeCells (P := P) (b := b) (tt := tt) (fz := fz) (List.replicate n zv) w off 0 arr hb hf (by simpa using ho) (by simp; intro _; exact hz)
 simp only [Nat.add_zero] at hs
 have key : (Builtin.clear_ #[T] o.type #[.slice (some ⟨b, off, none⟩) n c]).run P w = .ok (.tuple #[]) (World.setBlk w b (.cells (blit arr off (List.replicate n zv)) tt fz)) := by
  unfold Builtin.clear_
  simp only [List.getElem?_toArray, List.getElem?_cons_zero, Sem.run_bind, hu, Result.andThen]
  cases n with
  |zero =>
   simp only [List.replicate_zero, blit]
   simp [Sem.run, pure, Sem.run_bind, Result.andThen, setBlk_same hb]
  |succ n => simp [hz2, hc, hs, Sem.run, pure, Sem.run_bind, Result.andThen]
 simp only [execOp, ho', resolve]
 simp [invoke, builtin, hρ _ _ hx, key, Sem.run, pure, Sem.run_bind, Result.andThen]
end
end B
end Go.Proofs.YtifdpllfbaogcaaGreat
namespace Go.Proofs.YtifdpllfbaogcaaGreat
open Go Go.RowKit
namespace B
section
variable {P : Program} {Z : Post} {ks : List Fr} {N : Nat} {D : List Deferred} {sl : Sl} {w : World} {ops : Array Oper} {rest : List Oper} {t : TypeId} {pos : String} {af : Array Edge}
theorem yield_un {a : Act} (ha : Ag N D sl a) {j u : Nat} (hj : (ops[j]?).bind (·.dst) = some u) (hv : lk sl u = some undef) : yielded ops a.tmps j = none := by
 have := ha.ag u _ hv
 unfold yielded
 rw [hj]
 simp [this, undef]
theorem E5 {d : Nat} {op : Op} {j u : Nat} {b : Bool} (hj : (ops[j]?).bind (·.dst) = some u) (hv : lk sl u = some undef) (hd : Nat.ble (d + 1) N = true)
  (h : WL P ops Z ks N D ((d, undef) :: sl) rest w) :
  WL P ops Z ks N D sl ({ dst := some d, op := op, type := t, pos := pos, after := af, guard := some (j, b) } :: rest) w := fun a ha => by
 have hy := yield_un (ops := ops) ha hj hv
 unfold wpList
 rw [if_neg (by simp [Region.wanted, hy])]
 exact h _ (ha.put (Nat.le_of_ble_eq_true hd) undef)
theorem Q2 {C : World → Prop} {Q : Act → Prop} {d : Nat} {op : Op} {j u : Nat} {b : Bool} (hj : (ops[j]?).bind (·.dst) = some u) (hv : lk sl u = some undef) (hd : Nat.ble (d + 1) N = true)
  (h : WQ P ops C Q N D ((d, undef) :: sl) rest) :
  WQ P ops C Q N D sl ({ dst := some d, op := op, type := t, pos := pos, after := af, guard := some (j, b) } :: rest) := fun a ha => by
 have hy := yield_un (ops := ops) ha hj hv
 unfold wpQuiet
 rw [if_neg (by simp [Region.wanted, hy])]
 exact h _ (ha.put (Nat.le_of_ble_eq_true hd) undef)
end
end B
end Go.Proofs.YtifdpllfbaogcaaGreat
namespace Go.Proofs.YtifdpllfbaogcaaGreat
open Go Go.RowKit
namespace B
section
variable {P : Program} {Z : Post} {ks : List Fr} {N : Nat} {D : List Deferred} {sl : Sl} {W w : World} {ops : Array Oper} {C : World → Prop} {eff : Nat → Bool} {t : TypeId} {v : Value} {pos : String} {af : Array Edge} {k n : Nat} {L : Array Bool}
def WMs (P : Program) (ops : Array Oper) (Z : Post) (ks : List Fr) (N : Nat) (D : List Deferred) (C : World → Prop) (eff : Nat → Bool) (sl : Sl) (L : Array Bool) (n : Nat) : Prop :=
 ∀ a, Ag N D sl a → wpAnyM P ops C eff (np (den P Z ks)) n L a
def WDs (P : Program) (ops : Array Oper) (Z : Post) (ks : List Fr) (N : Nat) (D : List Deferred) (sl : Sl) (L : Array Bool) (n : Nat) (w : World) : Prop :=
 ∀ a, Ag N D sl a → wpAny P .any ops (np (den P Z ks)) n L a w
theorem WM.s (h : WMs P ops Z ks N D C eff sl (upto ops.size k) (ops.size - k)) : WM P ops Z ks N D C eff sl k := h
def dcB (ops : Array Oper) (L : Array Bool) : Bool := (List.range ops.size).all fun j => !(L.getD j false) || ((ops[j]?).map fun o => o.after.all fun e => !Region.binds .any e || L.getD e.on false).getD true
theorem dcB_spec (h : dcB ops L = true) : DC ops L := by
 intro j o ho hl e he hb
 have hj : j < ops.size := (Array.getElem?_eq_some_iff.1 ho).1
 have := List.all_eq_true.1 h j (List.mem_range.2 hj)
 rw [ho, hl] at this
 simp only [Bool.not_true, Bool.false_or, Option.map_some, Option.getD_some] at this
 have := Array.all_eq_true_iff_forall_mem.1 this e he
 simpa [hb] using this
end
end B
end Go.Proofs.YtifdpllfbaogcaaGreat
namespace Go.Proofs.YtifdpllfbaogcaaGreat
open Go Go.RowKit
namespace B
section
variable {P : Program} {Z : Post} {ks : List Fr} {N : Nat} {D : List Deferred} {sl : Sl} {W w : World} {F : Snap} {cs : List Res} {ops : Array Oper} {t : TypeId} {v : Value} {pos : String} {af : Array Edge} {n : Nat} {L : Array Bool}
theorem WDs.swap {x y : Nat × Value} (hne : Nat.beq x.1 y.1 = false) (h : WDs P ops Z ks N D (y :: x :: sl) L n w) : WDs P ops Z ks N D (x :: y :: sl) L n w := fun a ha => h a ⟨ha.df, ha.sz, fun e u hl => ha.ag e u (by
 obtain ⟨x1, x2⟩ := x
 obtain ⟨y1, y2⟩ := y
 unfold lk at hl ⊢
 unfold lk at hl ⊢
 cases hx : Nat.beq x1 e with
 |true =>
  have : Nat.beq y1 e = false := by
   cases hy : Nat.beq y1 e with
   |false => rfl
   |true =>
    have h1 := Nat.eq_of_beq_eq_true hx
    have h2 := Nat.eq_of_beq_eq_true hy
    rw [h1, h2] at hne
    rw [show Nat.beq e e = true from Nat.beq_refl e] at hne
    cases hne
  simp only [this, hx] at hl ⊢
  exact hl
 |false => simp only [hx] at hl ⊢; exact hl)⟩
end
end B
end Go.Proofs.YtifdpllfbaogcaaGreat
namespace Go.Proofs.YtifdpllfbaogcaaGreat
open Go Go.RowKit
namespace B
section
variable {P : Program} {ops : Array Oper} {C : World → Prop} {S : Nat → Bool} {Q : Post}
def EI (S : Nat → Bool) (C : World → Prop) (L : Array Bool) (w : World) : Prop := (∃ s, S s = true ∧ L.getD s false = true) ∨ C w
def wpE (P : Program) (ops : Array Oper) (S : Nat → Bool) (C : World → Prop) (Q : Post) : Nat → Array Bool → Act → World → Prop
 |0, L, a, w => EI S C L w ∧ Region.ready .any ops L = [] ∧ Q .normal a w
 |f + 1, L, a, w => EI S C L w ∧ (Region.ready .any ops L = [] → Q .normal a w) ∧ ∀ i ∈ Region.ready .any ops L, wpOp P ops Q i (wpE P ops S C Q f (L.setIfInBounds i true)) a w
theorem wpE_inv : ∀ {f : Nat} {L : Array Bool} {a : Act} {w : World}, wpE P ops S C Q f L a w → EI S C L w
 |0, _, _, _, h => h.1
 |_ + 1, _, _, _, h => h.1
theorem any_of_E : ∀ (f : Nat) (L : Array Bool) (a : Act) (w : World), wpE P ops S C Q f L a w → wpAny P .any ops Q f L a w
 |0, _, _, _, h => h.2
 |f + 1, L, a, w, h => ⟨h.2.1, fun i hi => wpOp_mono (fun a' w' h' => any_of_E f _ a' w' h') (h.2.2 i hi)⟩
def pp (Q : Post) : Post
 |.normal, a, w => Q .normal a w
 |.panic ch, a, w => ∀ a' : Act, a'.defers = a.defers → a'.tmps.size = a.tmps.size → Q (.panic ch) a' w
 |_, _, _ => False
theorem pp_imp {Q : Post} : ∀ e a w, pp Q e a w → Q e a w := fun e a w h => by
 cases e with
 |normal => exact h
 |panic ch => exact h a rfl rfl
 |_ => exact h.elim
theorem pp_put {Q : Post} {ch : List PanicEntry} {a : Act} {d : Option Tmp} {v : Value} {w : World} (h : pp Q (.panic ch) (a.put d v) w) : pp Q (.panic ch) a w := fun a' h1 h2 => h a' (by rw [h1]; cases d <;> rfl) (by rw [h2]; cases d <;> simp [Act.put])
def YC (P : Program) (ops : Array Oper) (C : World → Prop) (o : Oper) (v : Value) (a : Act) : Prop :=
 (Region.wanted o (yielded ops a.tmps) = true ∧ ∀ w, C w → (execOp a.eval o).run P w = .ok (.value v) w) ∨
 (Region.wanted o (yielded ops a.tmps) = false ∧ v = undef)
theorem YC.wpOp {i : Nat} {o : Oper} {v : Value} {a : Act} (hi : ops[i]? = some o) (hy : YC P ops C o v a)
  {K : Act → World → Prop} {w : World} (hC : C w) (h : K (a.put o.dst v) w) : wpOp P ops Q i K a w := by
 unfold Go.wpOp
 simp only [hi]
 rcases hy with ⟨hw, hv⟩ | ⟨hw, rfl⟩
 ·simp only [hw, if_true, Oper.wp, hv w hC, Oper.upon]; exact .inl h
 simp only [hw, Bool.false_eq_true, if_false]; exact h
theorem YC.of_same {o : Oper} {v : Value} {a a' : Act} (hy : YC P ops C o v a) (he : execOp a'.eval o = execOp a.eval o)
  (hw : Region.wanted o (yielded ops a'.tmps) = Region.wanted o (yielded ops a.tmps)) : YC P ops C o v a' := by
 unfold YC at *
 rw [he, hw]
 exact hy
theorem wpOp_putC {j : Nat} {oi oj : Oper} {v : Value} (hj : ops[j]? = some oj) (hap : oi.apart ops oj = true)
  (hsi : ∀ cs b, oi.op ≠ .select cs b) (hsj : ∀ cs b, oj.op ≠ .select cs b) {K : Act → World → Prop} {a : Act} {w : World}
  (hy : YC P ops C oi v a) (h : wpOp P ops (pp Q) j K (a.put oi.dst v) w) :
  wpOp P ops (pp Q) j (fun a' w' => YC P ops C oi v a' ∧ K (a'.put oi.dst v) w') a w := by
 obtain ⟨h1, h2, h3⟩ := Oper.apart_spec hap
 have keep : ∀ (a : Act), YC P ops C oi v a → ∀ u, YC P ops C oi v (a.put oj.dst u) := fun a hy u =>
  hy.of_same (execOp_put oi hsi a oj.dst u h3) (wanted_put oi a oj.dst u h3)
 have keepD : ∀ d, YC P ops C oi v { a with defers := d :: a.defers } := fun d => hy.of_same rfl rfl
 unfold wpOp at *
 simp only [hj] at *
 rw [wanted_put oj a oi.dst v h1] at h
 split
 ·rename_i hw
  simp only [hw, if_true] at h
  rcases h with h | ⟨hasks, hlets⟩
  case inr => exact .inr ⟨by unfold Oper.asks at *; rw [execOp_put oj hsj a oi.dst v h1] at hasks; exact hasks, hlets⟩
  refine .inl ?_
  unfold Oper.wp at *
  rw [execOp_put oj hsj a oi.dst v h1] at h
  generalize (execOp a.eval oj).run P w = r at *
  cases r with
  |ok n w' =>
   cases n <;> simp only [Oper.upon] at h ⊢
   case value u => exact ⟨keep a hy u, by rw [← Act.put_comm a v u h2]; exact h⟩
   case skip => exact ⟨keep a hy _, by rw [← Act.put_comm a v undef h2]; exact h⟩
   case defer d =>
    refine ⟨keep _ (keepD d) _, ?_⟩
    rw [← Act.put_comm _ v undef h2, ← Act.put_defers]
    exact h
   case enter f args =>
    refine Calls.mono h fun e w'' he => ?_
    cases e with
    |returned u => exact ⟨keep a hy u, by rw [← Act.put_comm a v u h2]; exact he⟩
    |panicked c => exact pp_put he
    |outgrown => exact he
   case row row args => exact Rows.mono h fun u w'' he => ⟨keep a hy u, by rw [← Act.put_comm a v u h2]; exact he⟩
  |halt x w' =>
   cases x <;> simp only [Oper.upon] at h ⊢
   case panic u => exact pp_put h
 rename_i hw
 simp only [hw] at h
 exact ⟨keep a hy _, by rw [← Act.put_comm a v undef h2]; exact h⟩
theorem un_ready {k : Nat} {L : Array Bool} (hr : k ∈ Region.ready .any ops L) : L.getD k false = false := by
 have h0 := (mem_ready.1 hr).1
 rcases Nat.lt_or_ge k L.size with h' | h'
 ·simp [h'] at h0 ⊢; exact h0
 simp [Array.getElem?_eq_none h'] at h0
theorem EI.back {k : Nat} {L : Array Bool} {w : World} (hdc : DC ops L) (hr : k ∈ Region.ready .any ops L) (hS : ∀ s, S s = true → Anc ops s k) (h : EI S C (L.setIfInBounds k true) w) : EI S C L w := by
 rcases h with ⟨s, hs, hl⟩ | h
 ·by_cases e : k = s
  ·subst e
   obtain ⟨_, o, ho, hall⟩ := mem_ready.1 hr
   have := hdc.anc (hS k hs) (fun o' ho' e' he' hb' => by rw [ho] at ho'; injection ho' with ho'; subst ho'; exact hall e' he' hb')
   rw [un_ready hr] at this; cases this
  rw [getD_set_ne false e] at hl
  exact .inl ⟨s, hs, hl⟩
 exact .inr h
theorem EI.now {k : Nat} {L : Array Bool} {w : World} (hdc : DC ops L) (hr : k ∈ Region.ready .any ops L) (hS : ∀ s, S s = true → Anc ops s k) (h : EI S C L w) : C w := by
 rcases h with ⟨s, hs, hl⟩ | h
 ·have := hdc.anc (hS s hs) (fun o ho e he hb => hdc s o ho hl e he hb)
  rw [un_ready hr] at this; cases this
 exact h
theorem E_first {C' : World → Prop} {k : Nat} {ok : Oper} {v : Value} (hk : ops[k]? = some ok) (hsel : ∀ (j : Nat) (o : Oper) cs b, ops[j]? = some o → o.op ≠ .select cs b)
  (hB : ∀ L w, DC ops L → k ∈ Region.ready .any ops L → EI S C (L.setIfInBounds k true) w → EI S C L w) (hN : ∀ L w, DC ops L → k ∈ Region.ready .any ops L → EI S C L w → C' w) :
  ∀ (fuel : Nat) (L : Array Bool) (a : Act) (w : World), DC ops L →
   (∀ j oj, ops[j]? = some oj → j ≠ k → L.getD j true = false → (∀ e ∈ oj.after, Region.binds .any e = true → e.on ≠ k) → ok.apart ops oj = true) →
   k ∈ Region.ready .any ops L → YC P ops C' ok v a →
   wpE P ops S C (pp Q) fuel (L.setIfInBounds k true) (a.put ok.dst v) w → wpE P ops S C (pp Q) (fuel + 1) L a w := by
 intro fuel
 induction fuel with
 |zero =>
  intro L a w hdc _ hr hy H
  have hI := hB _ _ hdc hr (wpE_inv H)
  refine ⟨hI, fun h => (by rw [h] at hr; cases hr), fun j hj => ?_⟩
  by_cases hji : j = k
  ·subst hji
   exact hy.wpOp hk (hN _ _ hdc hr hI) H
  have := ready_mono hj hji
  rw [H.2.1] at this
  cases this
 |succ fuel ih =>
  intro L a w hdc hfree hr hy H
  have hI := hB _ _ hdc hr (wpE_inv H)
  refine ⟨hI, fun h => (by rw [h] at hr; cases hr), fun j hj => ?_⟩
  by_cases hji : j = k
  ·subst hji
   exact hy.wpOp hk (hN _ _ hdc hr hI) H
  have h1 := H.2.2 j (ready_mono hj hji)
  obtain ⟨hjun, oj, hoj, hall⟩ := mem_ready.1 hj
  have hkun := un_ready hr
  have hnot : ∀ e ∈ oj.after, Region.binds .any e = true → e.on ≠ k := fun e he hb heq => by
   have h1 := hall e he hb
   rw [heq, hkun] at h1; cases h1
  have h2 := wpOp_putC hoj (hfree j oj hoj hji hjun hnot) (fun cs b => hsel k ok cs b hk) (fun cs b => hsel j oj cs b hoj) hy h1
  have hfree' : ∀ i oi, ops[i]? = some oi → i ≠ k → (L.setIfInBounds j true).getD i true = false →
    (∀ e ∈ oi.after, Region.binds .any e = true → e.on ≠ k) → ok.apart ops oi = true := fun i oi hi hik hun hno => by
   refine hfree i oi hi hik ?_ hno
   by_cases hjk : j = i
   ·subst hjk; exact hjun
   rw [getD_set_ne true hjk] at hun; exact hun
  refine wpOp_mono (fun a' w' h3 => ih (L.setIfInBounds j true) a' w' (hdc.set hj) hfree' (ready_mono hr (Ne.symm hji)) h3.1 ?_) h2
  rw [Array.setIfInBounds_comm _ _ hji]
  exact h3.2
theorem EI.backP {k : Nat} {L : Array Bool} {w : World} (hS : S k = false) (h : EI S C (L.setIfInBounds k true) w) : EI S C L w := by
 rcases h with ⟨s, hs, hl⟩ | h
 ·have e : k ≠ s := fun e => by subst e; rw [hS] at hs; cases hs
  rw [getD_set_ne false e] at hl
  exact .inl ⟨s, hs, hl⟩
 exact .inr h
end
section
variable {P : Program} {Z : Post} {ks : List Fr} {N : Nat} {D : List Deferred} {sl : Sl} {W w : World} {F : Snap} {cs : List Res} {ops : Array Oper} {C : World → Prop} {S : Nat → Bool} {t : TypeId} {v : Value} {pos : String} {af : Array Edge} {g : Option (Nat × Bool)} {k n : Nat} {L : Array Bool}
def WE (P : Program) (ops : Array Oper) (Z : Post) (ks : List Fr) (N : Nat) (D : List Deferred) (S : Nat → Bool) (C : World → Prop) (sl : Sl) (L : Array Bool) (n : Nat) (w : World) : Prop :=
 ∀ a, Ag N D sl a → wpE P ops S C (pp (den P Z ks)) n L a w
theorem WC.ereg (hs : St W F cs w) (C : World → Prop) (S : Nat → Bool) {id : Nat} {l : List Oper} (hm : P.follows .mixedOrders = true) (hB : Region.noSelect l.toArray = true) (h : Region.noSelect l.toArray = true → ∀ w', St W F cs w' → WE P l.toArray Z ks N D S C sl (upto l.toArray.size 0) l.toArray.size w') : WC P Z ks N D sl (.region id l.toArray true) w := fun a ha => by
 refine wp_mono (Q := pp (den P Z ks)) (wp_region_any hm ?_) pp_imp
 have := any_of_E _ _ _ _ (h hB _ hs.drew a ha)
 have e : upto l.toArray.size 0 = Array.replicate l.toArray.size false := by
  apply Array.toList_inj.1; simp [upto]
 rw [e] at this
 exact this
def EC (W : World) (F : Snap) (w : World) : Prop := ∃ cs, St W F cs w
theorem EC.mk (h : St W F cs w) {G : Snap} (hle : Le G F) : EC W G w := ⟨_, h.weak hle⟩
theorem T5 (hs : St W F cs w) (S : Nat → Bool) {id : Nat} {l : List Oper} (hm : P.follows .mixedOrders = true) (hB : Region.noSelect l.toArray = true) (h : Region.noSelect l.toArray = true → ∀ w', St W F cs w' → WE P l.toArray Z ks N D S (St W F cs) sl (upto l.toArray.size 0) l.toArray.size w') : WC P Z ks N D sl (.region id l.toArray true) w := WC.ereg hs _ S hm hB h
theorem WC.eregF (hs : St W F cs w) (S : Nat → Bool) {id : Nat} {l : List Oper} (hm : P.follows .mixedOrders = true) (hB : Region.noSelect l.toArray = true) (h : Region.noSelect l.toArray = true → ∀ w', St W F cs w' → WE P l.toArray Z ks N D S (EC W F) sl (upto l.toArray.size 0) l.toArray.size w') : WC P Z ks N D sl (.region id l.toArray true) w := WC.ereg hs _ S hm hB h
def gOn (ops : Array Oper) (sl : Sl) : Option (Nat × Bool) → Prop
 |none => True
 |some (j, b) => ∃ u c, (ops[j]?).bind (·.dst) = some u ∧ lk sl u = some (.bool c) ∧ c = b
theorem gOn_wanted {o : Oper} {a : Act} (ha : Ag N D sl a) (hg : o.guard = g) (h : gOn ops sl g) : Region.wanted o (yielded ops a.tmps) = true := by
 subst hg
 unfold Region.wanted
 cases hgd : o.guard with
 |none => rfl
 |some gw =>
  obtain ⟨j, b⟩ := gw
  rw [hgd] at h
  obtain ⟨u, c, h1, h2, rfl⟩ := h
  simp [yield_lk ha h1 h2]
def gOff (ops : Array Oper) (sl : Sl) : Option (Nat × Bool) → Prop
 |none => False
 |some (j, b) => ∃ u x, (ops[j]?).bind (·.dst) = some u ∧ lk sl u = some x ∧ (x = undef ∨ x = .bool (!b))
theorem gOff_wanted {o : Oper} {a : Act} (ha : Ag N D sl a) (hg : o.guard = g) (h : gOff ops sl g) : Region.wanted o (yielded ops a.tmps) = false := by
 subst hg
 unfold Region.wanted
 cases hgd : o.guard with
 |none => rw [hgd] at h; exact h.elim
 |some gw =>
  obtain ⟨j, b⟩ := gw
  rw [hgd] at h
  obtain ⟨u, x, h1, h2, h3⟩ := h
  rcases h3 with rfl | rfl
  ·simp [yield_un ha h1 h2]
  simp [yield_lk ha h1 h2]
theorem ancS (fl : Nat) {l : List Nat} (hE : (l.all fun j => ancB ops fl j k) = true) : ∀ s, (fun s => l.any (Nat.beq s)) s = true → Anc ops s k := fun s hs' => by
 obtain ⟨x, hx, he⟩ := List.any_eq_true.1 hs'
 have := List.all_eq_true.1 hE x hx
 rw [Nat.eq_of_beq_eq_true he]
 exact ancB_spec fl x k this
theorem WE.val (fl : Nat) (hs : Region.noSelect ops = true) (k : Nat) {l : List Nat} {d : Nat} {op : Op} (ho : ops[k]? = some { dst := some d, op := op, type := t, pos := pos, after := af, guard := g }) (hg : gOn ops sl g)
  (hdc : dcB ops L = true) (hf : Region.free .any ops L k = true) (hr : (Region.ready .any ops L).contains k = true)
  (hE : (l.all fun j => ancB ops fl j k) = true)
  (h : ∀ w, C w → Runs P sl op t w v) (hd : Nat.ble (d + 1) N = true) (kk : WE P ops Z ks N D (fun s => l.any (Nat.beq s)) C ((d, v) :: sl) (L.setIfInBounds k true) n w) : WE P ops Z ks N D (fun s => l.any (Nat.beq s)) C sl L (n + 1) w := fun a ha =>
 E_first (C' := C) (v := v) ho (Region.noSelect_spec hs) (fun _ _ hdc hr h => h.back hdc hr (ancS fl hE)) (fun _ _ hdc hr h => h.now hdc hr (ancS fl hE)) _ _ a w (dcB_spec hdc) (Region.free_spec ho hf) (by simpa using hr) (.inl ⟨gOn_wanted ha rfl hg, fun w hC => h w hC a.eval (fun x v hx => ha.ev hx) _ rfl rfl⟩) (kk _ (ha.put (Nat.le_of_ble_eq_true hd) v))
theorem Z6 (hs : Region.noSelect ops = true) (k : Nat) {d : Nat} {op : Op} (ho : ops[k]? = some { dst := some d, op := op, type := t, pos := pos, after := af, guard := g }) (hg : gOn ops sl g)
  (hdc : dcB ops L = true) (hf : Region.free .any ops L k = true) (hr : (Region.ready .any ops L).contains k = true)
  (hS : S k = false)
  (h : ∀ w, Runs P sl op t w v) (hd : Nat.ble (d + 1) N = true) (kk : WE P ops Z ks N D S C ((d, v) :: sl) (L.setIfInBounds k true) n w) : WE P ops Z ks N D S C sl L (n + 1) w := fun a ha =>
 E_first (C' := fun _ => True) (v := v) ho (Region.noSelect_spec hs) (fun _ _ _ _ h => h.backP hS) (fun _ _ _ _ _ => trivial) _ _ a w (dcB_spec hdc) (Region.free_spec ho hf) (by simpa using hr) (.inl ⟨gOn_wanted ha rfl hg, fun w _ => h w a.eval (fun x v hx => ha.ev hx) _ rfl rfl⟩) (kk _ (ha.put (Nat.le_of_ble_eq_true hd) v))
theorem WE.off (hs : Region.noSelect ops = true) (k : Nat) {d : Nat} {op : Op} (ho : ops[k]? = some { dst := some d, op := op, type := t, pos := pos, after := af, guard := g }) (hg : gOff ops sl g)
  (hdc : dcB ops L = true) (hf : Region.free .any ops L k = true) (hr : (Region.ready .any ops L).contains k = true)
  (hS : S k = false)
  (hd : Nat.ble (d + 1) N = true) (kk : WE P ops Z ks N D S C ((d, undef) :: sl) (L.setIfInBounds k true) n w) : WE P ops Z ks N D S C sl L (n + 1) w := fun a ha =>
 E_first (C' := fun _ => True) (v := undef) ho (Region.noSelect_spec hs) (fun _ _ _ _ h => h.backP hS) (fun _ _ _ _ _ => trivial) _ _ a w (dcB_spec hdc) (Region.free_spec ho hf) (by simpa using hr) (.inr ⟨gOff_wanted ha rfl hg, rfl⟩) (kk _ (ha.put (Nat.le_of_ble_eq_true hd) undef))
theorem V3 (fl : Nat) (hs : Region.noSelect ops = true) (k : Nat) {l : List Nat} {d : Nat} {op : Op} (ho : ops[k]? = some { dst := some d, op := op, type := t, pos := pos, after := af, guard := none })
  (h : ∀ w, C w → Runs P sl op t w v) (hd : Nat.ble (d + 1) N = true) (kk : WE P ops Z ks N D (fun s => l.any (Nat.beq s)) C ((d, v) :: sl) (L.setIfInBounds k true) n w)
  (hdc : dcB ops L = true := by kernel_rfl) (hf : Region.free .any ops L k = true := by kernel_rfl) (hr : (Region.ready .any ops L).contains k = true := by kernel_rfl) (hE : (l.all fun j => ancB ops fl j k) = true := by kernel_rfl) : WE P ops Z ks N D (fun s => l.any (Nat.beq s)) C sl L (n + 1) w :=
 WE.val (g := none) fl hs k ho trivial hdc hf hr hE h hd kk
theorem Y4 (fl : Nat) (hs : Region.noSelect ops = true) (k : Nat) {l : List Nat} {d j : Nat} {b : Bool} {op : Op} (ho : ops[k]? = some { dst := some d, op := op, type := t, pos := pos, after := af, guard := some (j, b) }) (hg : gOn ops sl (some (j, b)))
  (h : ∀ w, C w → Runs P sl op t w v) (hd : Nat.ble (d + 1) N = true) (kk : WE P ops Z ks N D (fun s => l.any (Nat.beq s)) C ((d, v) :: sl) (L.setIfInBounds k true) n w)
  (hdc : dcB ops L = true := by kernel_rfl) (hf : Region.free .any ops L k = true := by kernel_rfl) (hr : (Region.ready .any ops L).contains k = true := by kernel_rfl) (hE : (l.all fun j => ancB ops fl j k) = true := by kernel_rfl) : WE P ops Z ks N D (fun s => l.any (Nat.beq s)) C sl L (n + 1) w :=
 WE.val (g := some (j, b)) fl hs k ho hg hdc hf hr hE h hd kk
theorem Z2 (hs : Region.noSelect ops = true) (k : Nat) {d : Nat} {op : Op} (ho : ops[k]? = some { dst := some d, op := op, type := t, pos := pos, after := af, guard := none })
  (h : ∀ w, Runs P sl op t w v) (hd : Nat.ble (d + 1) N = true) (kk : WE P ops Z ks N D S C ((d, v) :: sl) (L.setIfInBounds k true) n w)
  (hdc : dcB ops L = true := by kernel_rfl) (hf : Region.free .any ops L k = true := by kernel_rfl) (hr : (Region.ready .any ops L).contains k = true := by kernel_rfl) (hS : S k = false := by kernel_rfl) : WE P ops Z ks N D S C sl L (n + 1) w :=
 Z6 (g := none) hs k ho trivial hdc hf hr hS h hd kk
theorem M4 (hs : Region.noSelect ops = true) (k : Nat) {d j : Nat} {b : Bool} {op : Op} (ho : ops[k]? = some { dst := some d, op := op, type := t, pos := pos, after := af, guard := some (j, b) }) (hg : gOn ops sl (some (j, b)))
  (h : ∀ w, Runs P sl op t w v) (hd : Nat.ble (d + 1) N = true) (kk : WE P ops Z ks N D S C ((d, v) :: sl) (L.setIfInBounds k true) n w)
  (hdc : dcB ops L = true := by kernel_rfl) (hf : Region.free .any ops L k = true := by kernel_rfl) (hr : (Region.ready .any ops L).contains k = true := by kernel_rfl) (hS : S k = false := by kernel_rfl) : WE P ops Z ks N D S C sl L (n + 1) w :=
 Z6 (g := some (j, b)) hs k ho hg hdc hf hr hS h hd kk
theorem WE.o1 (hs : Region.noSelect ops = true) (k : Nat) {d j : Nat} {b : Bool} {op : Op} (ho : ops[k]? = some { dst := some d, op := op, type := t, pos := pos, after := af, guard := some (j, b) }) (hg : gOff ops sl (some (j, b)))
  (hd : Nat.ble (d + 1) N = true) (kk : WE P ops Z ks N D S C ((d, undef) :: sl) (L.setIfInBounds k true) n w)
  (hdc : dcB ops L = true := by kernel_rfl) (hf : Region.free .any ops L k = true := by kernel_rfl) (hr : (Region.ready .any ops L).contains k = true := by kernel_rfl) (hS : S k = false := by kernel_rfl) : WE P ops Z ks N D S C sl L (n + 1) w :=
 WE.off (g := some (j, b)) hs k ho hg hdc hf hr hS hd kk
abbrev KE (P : Program) (ops : Array Oper) (Z : Post) (ks : List Fr) (S : Nat → Bool) (C : World → Prop) (L : Array Bool) (n : Nat) : Act → World → Prop := fun a' w' => wpE P ops S C (pp (den P Z ks)) n L a' w'
def ZE (N : Nat) (D : List Deferred) (Q : Post) : Post
 |.panic ch, _, w => ∀ a', Ag N D [] a' → Q (.panic ch) a' w
 |_, _, _ => False
theorem wpOp_of_WLg {Q : Post} {K : Act → World → Prop} {i : Nat} {o : Oper} {a : Act} (ho : ops[i]? = some o) (h : WL P ops (ZE N D Q) [.cut K] N D sl [o] w) (ha : Ag N D sl a) : wpOp P ops (pp Q) i K a w := by
 have h1 := h a ha
 unfold wpOp
 rw [ho]
 simp only
 unfold wpList at h1
 have hn : ∀ a w, den P (ZE N D Q) [.cut K] .normal a w → K a w := fun a w h => h
 have hp : ∀ ch w, den P (ZE N D Q) [.cut K] (.panic ch) a w → pp Q (.panic ch) a w := fun ch w h a' h1 h2 => h a' ⟨by rw [h1, ha.df], by rw [h2, ha.sz], fun d v hl => by simp [lk] at hl⟩
 have hout : ∀ a w, ¬ den P (ZE N D Q) [.cut K] .outgrown a w := fun a w h => h
 split
 ·rename_i hw
  rw [if_pos hw] at h1
  rcases h1 with h1 | ⟨_, a0, w0, h1⟩
  ·left
   unfold Oper.wp at h1 ⊢
   generalize (execOp a.eval o).run P w = r at *
   cases r with
   |ok n w' =>
    cases n <;> simp only [Oper.upon] at h1 ⊢
    case value u => exact h1
    case skip => exact h1
    case defer d => exact h1
    case enter f args =>
     refine h1.mono fun e w'' hh => ?_
     cases e with
     |returned u => exact hh
     |panicked ch => exact hp _ _ hh
     |outgrown =>
      obtain ⟨a0, w0, hh⟩ := hh
      exact (hout _ _ hh).elim
    case row row args => exact h1.mono fun u w'' hh => hh
   |halt hh w' =>
    cases hh <;> simp only [Oper.upon] at h1 ⊢
    case panic u => exact hp _ _ h1
  exact (hout _ _ h1).elim
 rename_i hw
 rw [if_neg hw] at h1
 exact h1
theorem WE.op {i : Nat} {o : Oper} (hI : EI S C L w) (ho : ops[i]? = some o) (hr : Region.ready .any ops L = [i]) (h : WL P ops (ZE N D (den P Z ks)) [.cut (KE P ops Z ks S C (L.setIfInBounds i true) n)] N D sl [o] w) : WE P ops Z ks N D S C sl L (n + 1) w := fun a ha =>
 ⟨hI, fun h0 => (by rw [hr] at h0; cases h0), fun i' hi => by
  rw [hr] at hi
  simp only [List.mem_singleton] at hi
  subst hi
  exact wpOp_of_WLg ho h ha⟩
theorem H2 (h : WE P ops Z ks N D S C sl L n w) : WN P (ZE N D (den P Z ks)) [.cut (KE P ops Z ks S C L n)] N D sl w := h
theorem H3 (hI : EI S C L w) (hr : Region.ready .any ops L = []) (h : WN P Z ks N D sl w) : WE P ops Z ks N D S C sl L 0 w := fun a ha => ⟨hI, hr, h a ha⟩
theorem St.thaw {W w w' : World} {F G : Snap} {cs : List Res} {r : Res} {i : Nat} {new : List Res} (h : St W F cs w) (hi : cs[i]? = some r) (hG : ∀ p ∈ r, G p.1 = some p.2) (hle : Le F G) (h' : St W G (new ++ cs.eraseIdx i) w') : St W F (new ++ cs) w' := by
 have h0 := h'.weak hle
 obtain ⟨l1, l2, e1, _, e3⟩ := split_at cs i _ hi
 rw [e3] at h' h0
 subst e1
 have hnd := h.nd
 have hnd' := h'.nd
 have hr0 : ∀ p ∈ r, p ∈ (l1 ++ r :: l2).flatten := fun p hp => by simp [hp]
 have hdis : ∀ p ∈ (new ++ (l1 ++ l2)).flatten, ∀ q ∈ r, p.1 ≠ q.1 := fun p hp q hq e => by
  have h1 := (h'.own p hp).2.2
  have h2 := hG q hq
  rw [e, h2] at h1; cases h1
 refine ⟨h0.bel, h0.imm, fun p hp => ?_, ?_⟩
 ·have hp' : p ∈ r ∨ p ∈ (new ++ (l1 ++ l2)).flatten := by
   simp only [List.flatten_append, List.flatten_cons, List.mem_append] at hp ⊢
   rcases hp with hp | hp | hp | hp
   ·exact .inr (.inl hp)
   ·exact .inr (.inr (.inl hp))
   ·exact .inl hp
   exact .inr (.inr (.inr hp))
  rcases hp' with hp' | hp'
  ·exact ⟨h'.imm _ _ (hG p hp'), (h.own p (hr0 p hp')).2⟩
  exact h0.own p hp'
 have hperm : List.Perm ((new ++ (l1 ++ r :: l2)).flatten.map (·.1)) (r.map (·.1) ++ (new ++ (l1 ++ l2)).flatten.map (·.1)) := by
  rw [← List.map_append]
  refine List.Perm.map _ ?_
  simp only [List.flatten_append, List.flatten_cons]
  exact (List.Perm.append_left _ (List.perm_append_comm_assoc _ _ _)).trans (List.perm_append_comm_assoc _ _ _)
 rw [hperm.nodup_iff, List.nodup_append]
 refine ⟨?_, hnd', fun x hx y hy => ?_⟩
 ·refine hnd.sublist (List.Sublist.map _ ?_)
  simp only [List.flatten_append, List.flatten_cons]
  exact (List.sublist_append_left _ _).trans (List.sublist_append_right _ _)
 obtain ⟨q, hq, rfl⟩ := List.mem_map.1 hx
 obtain ⟨p, hp, rfl⟩ := List.mem_map.1 hy
 exact Ne.symm (hdis p hp q hq)
end
end B
end Go.Proofs.YtifdpllfbaogcaaGreat
namespace Go.Proofs.YtifdpllfbaogcaaGreat
open Go Go.RowKit
namespace B
def Kd.rows {α : Type} (m : Nat) (f : α → List Value) (h : ∀ x, (f x).length = m) : Kd α := ⟨m, fun _ x c => c = f x, fun h' => by rw [h']; exact h _, fun _ h => h⟩
section
variable {P : Program} {sl : Sl} {W w : World} {F : Snap} {cs : List Res} {t T : TypeId} {x : Operand} {zv : Value} {bytes : Nat}
theorem Runs.loadRows {α : Type} {m n : Nat} {f : α → List Value} {hf : ∀ x, (f x).length = m} {A : Option Addr} {ad : Addr} {xs : List α} {d : TypeDesc} (d0 : α) (h : St W F cs w) (hR : RdS (Kd.rows m f hf) F A xs) (hA : A = some ad) (hn : n < xs.length) (hu : P.underlying T = some d) (hs : scal d = false) (hT : Inf P T zv m bytes)
  (hx : evs sl x = some (.pointer (some (ad.add (n * m))))) : Runs P sl (.load T x) t w (.agg (f (xs.getD n d0)).toArray) := by
 obtain ⟨ti, h1, _, h3, _⟩ := hT.get
 obtain ⟨ad', c, hA', hc, hr⟩ := hR.at_ (i := n) (x := xs.getD n d0) (by rw [List.getD_eq_getElem?_getD, List.getElem?_eq_getElem hn]; rfl)
 rw [hA] at hA'
 injection hA' with hA'
 subst hA'
 have hc' : c = f (xs.getD n d0) := hc
 subst hc'
 refine Q5 hu hs h1 (by rw [h3, hf]) hx (fun j v hj => ?_)
 rw [add_add]
 exact h.cell (hr j v hj)
theorem rdA {α : Type} {d : Kd α} {A : Option Addr} {xs : List α} (h : RdS d F A xs) (h0 : 0 < xs.length) : ∃ ad, A = some ad := by
 rcases h with h | ⟨ad, hA, _⟩
 ·rw [h] at h0; simp at h0
 exact ⟨ad, hA⟩
end
end B
end Go.Proofs.YtifdpllfbaogcaaGreat
namespace Go.Proofs.YtifdpllfbaogcaaGreat
open Go Go.RowKit
namespace B
theorem list_of {α : Type} {p : Nat → α → Prop} : ∀ {n : Nat}, (∀ i, i < n → ∃ x, p i x) → ∃ xs : List α, xs.length = n ∧ ∀ i x, xs[i]? = some x → p i x
 |0, _ => ⟨[], rfl, fun i x h => by simp at h⟩
 |n + 1, h => by
  obtain ⟨xs, h1, h2⟩ := list_of (n := n) (fun i hi => h i (by omega))
  obtain ⟨x, hx⟩ := h n (by omega)
  refine ⟨xs ++ [x], by simp [h1], fun i y hy => ?_⟩
  by_cases e : i < xs.length
  ·rw [List.getElem?_append_left e] at hy
   exact h2 i y hy
  rw [List.getElem?_append_right (by omega)] at hy
  have : i = n := by
   by_cases e' : i - xs.length = 0
   ·omega
   obtain ⟨m, hm⟩ := Nat.exists_eq_succ_of_ne_zero e'
   rw [hm] at hy
   simp at hy
  subst this
  rw [h1, Nat.sub_self] at hy
  simp only [List.getElem?_cons_zero, Option.some.injEq] at hy
  subst hy
  exact hx
theorem cellF_heap (W : World) (a : Addr) : cellF (fun k => W.heap[k]?) a = W.cell? a := by
 unfold cellF World.cell?
 rfl
section
variable {H : Type} {enc : TypeId × Value → H} {P : Program} {W : World} {base : Nat} {spare : Nat → Bool} {held : Bool}
theorem open_rd {α : Type} (kd : Kd α) (R : α → Prop) {t e : TypeId} (ht : P.underlying t = some (.slice e)) (hce : P.cellsOf e = kd.sz)
  (elem : ∀ n cs x, cs.length = kd.sz → DataW.trod enc P W base spare held n e cs = some x → ∃ y, kd.K (fun k => W.heap[k]?) y cs ∧ R y)
  {fuel : Nat} {cs : List Value} {x : DataW H × List MemPlace} (h : DataW.trod enc P W base spare held fuel t cs = some x) :
  ∃ A cap xs, cs = [.slice A xs.length cap] ∧ RdS kd (fun k => W.heap[k]?) A xs ∧ (∀ y ∈ xs, R y) ∧ xs.length ≤ cap ∧ cap ≤ maxLen := by
 rcases Go.Deep.open_slice ht h with ⟨rfl, _⟩ | ⟨a, len, cap, m, n, D, Pl, rfl, _, hl, hm, hmm, _, hx⟩
 ·exact ⟨none, 0, [], rfl, .inl rfl, by simp, Nat.le_refl _, by decide⟩
 have hlm : len ≤ m := by rw [hmm]; split <;> omega
 obtain ⟨xs, h1, h2⟩ := list_of (n := len) (p := fun i y => R y ∧ ∃ c, kd.K (fun k => W.heap[k]?) y c ∧ ∀ j v, c[j]? = some v → cellF (fun k => W.heap[k]?) (a.add (i * kd.sz + j)) = some v) (fun i hi => by
  obtain ⟨cs', g1, g2⟩ := hx i (by omega)
  rw [hce] at g1
  obtain ⟨_, hlen, hcell⟩ := World.cells?_some g1
  obtain ⟨y, hy, hr⟩ := elem _ _ _ hlen g2
  refine ⟨y, hr, cs', hy, fun j v hj => ?_⟩
  have hj' : j < kd.sz := by rw [← hlen]; exact (List.getElem?_eq_some_iff.1 hj).1
  have := hcell j hj'
  rw [add_add] at this
  rw [cellF_heap, this, hj])
 subst h1
 refine ⟨some a, cap, xs, rfl, .inr ⟨a, rfl, fun i x hx => (h2 i x hx).2⟩, fun y hy => ?_, hl, hm⟩
 obtain ⟨i, hi⟩ := List.getElem?_of_mem hy
 exact (h2 i y hi).1
end
end B
end Go.Proofs.YtifdpllfbaogcaaGreat
namespace Go.Proofs.YtifdpllfbaogcaaGreat
open Go Go.RowKit
namespace B
section
variable {P : Program} {Z : Post} {ks : List Fr} {N : Nat} {D : List Deferred} {sl : Sl} {W w : World} {ops : Array Oper} {rest : List Oper} {F : Snap} {cs : List Res} {t T E : TypeId} {x y : Operand} {zv : Value} {pos : String} {af : Array Edge} {sz bytes : Nat} {kl kc : IntKind}
theorem WL.makeSlice {d l c : Nat} (hd : Nat.ble (d + 1) N = true) (h : St W F cs w) (hT : P.underlying T = some (.slice E)) (hE : Inf P E zv sz bytes) (hx : evs sl x = some (.int kl (l : Int))) (hy : evs sl y = some (.int kc (c : Int))) (hlc : l ≤ c)
  (hc : c * sz ≤ 16777216) (hb : bytes * c ≤ 281474976710656) (h63 : c ≤ 9223372036854775807)
  (k : ∀ b w', St W F ([(b, .cells (madeCells zv.cells (c * sz)) E (0, 0))] :: cs) w' → WL P ops Z ks N D ((d, .slice (some ⟨b, 0, none⟩) l c) :: sl) rest w') :
  WL P ops Z ks N D sl ({ dst := some d, op := .makeSlice T x y, type := t, pos := pos, after := af, guard := none } :: rest) w := by
 obtain ⟨ti, h1, h2, h3, h4⟩ := hE.get
 refine M5 (w' := w.alloc (.cells (madeCells zv.cells (c * sz)) E)) hd (fun ρ hρ o ho _ => ?_) (k _ _ (h.alloc _))
 have hb' : (ti.bytes : Int) * (c : Int) ≤ 281474976710656 := by
  rw [h4, ← Int.natCast_mul]
  omega
 have hr := run_makeSlice (P := P) w T E ti zv hT h1 h2 kl kc l c (by omega) (by omega) (by rw [h3]; simpa using hc) hb' (by omega)
 simp only [Int.toNat_natCast, h3] at hr
 simp only [execOp, ho, hρ _ _ hx, hρ _ _ hy]
 rw [Sem.run_bind, hr]
 rfl
theorem made1 {zv : Value} (h1 : one_ zv = true) (c : Nat) : madeCells zv.cells (c * 1) = (List.replicate c zv).toArray := by
 rw [one_cells h1, Nat.mul_one]
 apply Array.ext
 ·simp [madeCells]
 intro i hi hj
 simp [madeCells]
 have : i % 1 = 0 := Nat.mod_one i
 simp [this]
theorem WL.make1 {d l c : Nat} (hd : Nat.ble (d + 1) N = true) (h : St W F cs w) (hT : P.underlying T = some (.slice E)) (hE : Inf P E zv 1 bytes) (h1 : one_ zv = true) (hx : evs sl x = some (.int kl (l : Int))) (hy : evs sl y = some (.int kc (c : Int))) (hlc : l ≤ c)
  (hc : c ≤ 16777216) (hb : bytes * c ≤ 281474976710656)
  (k : ∀ b w', St W F ([(b, .cells (List.replicate c zv).toArray E (0, 0))] :: cs) w' → WL P ops Z ks N D ((d, .slice (some ⟨b, 0, none⟩) l c) :: sl) rest w') :
  WL P ops Z ks N D sl ({ dst := some d, op := .makeSlice T x y, type := t, pos := pos, after := af, guard := none } :: rest) w :=
 WL.makeSlice hd h hT hE hx hy hlc (by omega) hb (by omega) (by rw [made1 h1]; exact k)
end
end B
end Go.Proofs.YtifdpllfbaogcaaGreat
namespace Go.Proofs.YtifdpllfbaogcaaGreat
open Go Go.RowKit
namespace B
section
variable {H : Type} {enc : TypeId × Value → H} {P : Program} {W : World} {base : Nat} {spare : Nat → Bool} {held : Bool} {t : TypeId} {fs : Array Field} {cs : List Value} {x : DataW H × List MemPlace} {fuel i : Nat} {f : Field} {k : IntKind}
theorem fld_one (h : DataW.trod enc P W base spare held fuel t cs = some x) (ht : P.underlying t = some (.struct fs)) (hf : fs[i]? = some f) (hc : P.cellsOf f.type = 1) : ∃ n y, DataW.trod enc P W base spare held n f.type ((cs.drop f.offset).take 1) = some y := by
 obtain ⟨xs, n, _, _, hl, hlen, hx⟩ := DataW.trod_struct ht h
 have := hx i f hf
 rw [hc] at this
 have hi : i < fs.size := (Array.getElem?_eq_some_iff.1 hf).1
 rw [List.getElem?_eq_getElem (by rw [hlen]; simpa using hi)] at this
 exact ⟨n, _, this⟩
theorem one_at {v : Value} {n : Nat} (h : (cs.drop n).take 1 = [v]) : cs[n]? = some v := by
 have := congrArg (fun l : List Value => l[0]?) h
 simpa [List.getElem?_take, List.getElem?_drop] using this
theorem fld_int (h : DataW.trod enc P W base spare held fuel t cs = some x) (ht : P.underlying t = some (.struct fs)) (hf : fs[i]? = some f) (hc : P.cellsOf f.type = 1) (hu : P.underlying f.type = some (.int k)) : ∃ n, cs[f.offset]? = some (.int k n) ∧ (Lit.int k n).wf = true := by
 obtain ⟨n, y, hy⟩ := fld_one h ht hf hc
 obtain ⟨m, e, _, w⟩ := DataW.trod_int hu hy
 exact ⟨m, one_at e, w⟩
theorem fld_str (h : DataW.trod enc P W base spare held fuel t cs = some x) (ht : P.underlying t = some (.struct fs)) (hf : fs[i]? = some f) (hc : P.cellsOf f.type = 1) (hu : P.underlying f.type = some .string) : ∃ s, cs[f.offset]? = some (.string s) ∧ s.size ≤ maxLen := by
 obtain ⟨n, y, hy⟩ := fld_one h ht hf hc
 obtain ⟨m, e, _, w⟩ := DataW.trod_string hu hy
 exact ⟨m, one_at e, w⟩
end
end B
end Go.Proofs.YtifdpllfbaogcaaGreat
namespace Go.Proofs.YtifdpllfbaogcaaGreat
open Go Go.RowKit
namespace B
variable {α : Type} {W w : World} {F : Snap} {cs : List Res} {f : α → Value} {A : Option Addr} {xs : List α} {E : TypeId} {r : Res} {v : Value} {n cap i : Nat}
def RdW (W : World) (F : Snap) (cs : List Res) (f : α → Value) (A : Option Addr) (xs : List α) : Prop :=
 xs = [] ∨ ∃ ad, A = some ad ∧ ∀ w, St W F cs w → ∀ j x, xs[j]? = some x → w.cell? (ad.add j) = some (f x)
theorem RdW.of (h : RdS (Kd.one f) F A xs) : RdW W F cs f A xs := by
 by_cases h0 : xs = []
 ·exact .inl h0
 obtain ⟨ad, hA, hr⟩ := rd1 h (List.length_pos_iff.2 h0)
 exact .inr ⟨ad, hA, fun w hs j x hx => hs.cell (hr j x hx)⟩
theorem RdW.row (hr : Row E f r v xs) (hi : cs[i]? = some r) (hv : v = .slice A n cap) (hs : St W F cs w) : RdW W F cs f A xs := by
 by_cases h0 : xs = []
 ·exact .inl h0
 rcases hr.wcell hs hi hv with h | ⟨ad, hA, _⟩
 ·exact absurd h h0
 refine .inr ⟨ad, hA, fun w' hs' j x hx => ?_⟩
 rcases hr.wcell hs' hi hv with h | ⟨ad', hA', h'⟩
 ·exact absurd h h0
 rw [hA] at hA'; injection hA' with hA'; subst hA'; exact h' j x hx
theorem RdW.at1 (h : RdW W F cs f A xs) (h0 : 0 < xs.length) : ∃ ad, A = some ad ∧ ∀ w, St W F cs w → ∀ (n : Nat) (d0 : α), n < xs.length → w.cell? (ad.add n) = some (f (xs.getD n d0)) := by
 rcases h with h | ⟨ad, hA, h⟩
 ·rw [h] at h0; simp at h0
 exact ⟨ad, hA, fun w hs n d0 hn => h w hs n _ (by rw [List.getD_eq_getElem?_getD, List.getElem?_eq_getElem hn]; rfl)⟩
end B
end Go.Proofs.YtifdpllfbaogcaaGreat
namespace Go.Proofs.YtifdpllfbaogcaaGreat
open Go Go.RowKit
namespace B
def allK {α : Type} (d : Kd α) (G : Snap) : List α → List (List Value) → Prop
 |[], [] => True
 |x :: xs, c :: cl => d.K G x c ∧ allK d G xs cl
 |_, _ => False
theorem allK.at_ {α : Type} {d : Kd α} {G : Snap} : ∀ {xs : List α} {cl : List (List Value)}, allK d G xs cl → ∀ {i : Nat} {x : α}, xs[i]? = some x → ∃ c, d.K G x c ∧ ∀ j v, c[j]? = some v → cl.flatten[i * d.sz + j]? = some v
 |[], cl, h, i, x, hx => by cases i <;> cases hx
 |y :: ys, [], h, i, x, hx => h.elim
 |y :: ys, c :: cl, h, 0, x, hx => by
  injection hx with hx
  subst hx
  refine ⟨c, h.1, fun j v hv => ?_⟩
  rw [List.flatten_cons, Nat.zero_mul, Nat.zero_add, List.getElem?_append_left (List.getElem?_eq_some_iff.1 hv).1]
  exact hv
 |y :: ys, c :: cl, h, i + 1, x, hx => by
  obtain ⟨c', h1, h2⟩ := h.2.at_ (i := i) (x := x) hx
  refine ⟨c', h1, fun j v hv => ?_⟩
  have hl := d.len h.1
  rw [List.flatten_cons, List.getElem?_append_right (by rw [hl, Nat.succ_mul]; omega), hl, ← h2 j v hv]
  congr 1
  rw [Nat.succ_mul]
  omega
theorem RdS.blks {α : Type} {d : Kd α} {G : Snap} {b : Nat} {arr : Array Value} {E : TypeId} {fz : Nat × Nat} {xs : List α} (cl : List (List Value)) (hb : G b = some (.cells arr E fz)) (harr : arr.toList = cl.flatten) (h : allK d G xs cl) : RdS d G (some ⟨b, 0, none⟩) xs :=
 .inr ⟨_, rfl, fun i x hx => by
  obtain ⟨c, h1, h2⟩ := h.at_ hx
  refine ⟨c, h1, fun j v hv => ?_⟩
  rw [add_mk, Nat.zero_add]
  unfold cellF
  rw [hb]
  show arr[i * d.sz + j]? = some v
  rw [← Array.getElem?_toList, harr]
  exact h2 j v hv⟩
end B
end Go.Proofs.YtifdpllfbaogcaaGreat
namespace Go.Proofs.YtifdpllfbaogcaaGreat
open Go Go.RowKit
namespace B
section
variable {H : Type} {enc : TypeId × Value → H} {P : Program} {W : World} {base : Nat} {spare : Nat → Bool} {held : Bool} {t : TypeId} {fs : Array Field} {cs : List Value} {x : DataW H × List MemPlace} {fuel i : Nat} {f : Field} {e : TypeId}
theorem fld_rd {α : Type} (kd : Kd α) (R : α → Prop) (h : DataW.trod enc P W base spare held fuel t cs = some x) (ht : P.underlying t = some (.struct fs)) (hf : fs[i]? = some f) (hc : P.cellsOf f.type = 1) (hu : P.underlying f.type = some (.slice e)) (hce : P.cellsOf e = kd.sz)
  (elem : ∀ n cs x, cs.length = kd.sz → DataW.trod enc P W base spare held n e cs = some x → ∃ y, kd.K (fun k => W.heap[k]?) y cs ∧ R y) :
  ∃ A cap xs, cs[f.offset]? = some (.slice A xs.length cap) ∧ RdS kd (fun k => W.heap[k]?) A xs ∧ (∀ y ∈ xs, R y) ∧ xs.length ≤ cap ∧ cap ≤ maxLen := by
 obtain ⟨n, y, hy⟩ := fld_one h ht hf hc
 obtain ⟨A, cap, xs, h1, h2⟩ := open_rd kd R hu hce elem hy
 exact ⟨A, cap, xs, one_at h1, h2⟩
theorem list_eq {α : Type} {l l2 : List α} (hl : l.length = l2.length) (h : ∀ j, j < l2.length → l[j]? = l2[j]?) : l = l2 := by
 apply List.ext_getElem?
 intro j
 rcases Nat.lt_or_ge j l2.length with h1 | h1
 ·exact h j h1
 rw [List.getElem?_eq_none (by omega), List.getElem?_eq_none h1]
end
end B
end Go.Proofs.YtifdpllfbaogcaaGreat
namespace Go.Proofs.YtifdpllfbaogcaaGreat
open Go Go.RowKit
namespace B
section
variable {P : Program} {Z : Post} {ks : List Fr} {N : Nat} {D : List Deferred} {sl : Sl} {w : World} {ops : Array Oper} {C : World → Prop} {S : Nat → Bool} {n : Nat} {L : Array Bool}
theorem WE.op2 {i j : Nat} {oi oj : Oper} (hI : EI S C L w) (hi : ops[i]? = some oi) (hj : ops[j]? = some oj) (hr : Region.ready .any ops L = [i, j])
  (h1 : WL P ops (ZE N D (den P Z ks)) [.cut (KE P ops Z ks S C (L.setIfInBounds i true) n)] N D sl [oi] w) (h2 : WL P ops (ZE N D (den P Z ks)) [.cut (KE P ops Z ks S C (L.setIfInBounds j true) n)] N D sl [oj] w) : WE P ops Z ks N D S C sl L (n + 1) w := fun a ha =>
 ⟨hI, fun h0 => (by rw [hr] at h0; cases h0), fun k hk => by
  rw [hr] at hk
  rcases List.mem_cons.1 hk with rfl | hk
  ·exact wpOp_of_WLg hi h1 ha
  obtain rfl := List.mem_singleton.1 hk
  exact wpOp_of_WLg hj h2 ha⟩
end
end B
end Go.Proofs.YtifdpllfbaogcaaGreat
namespace Go.Proofs.YtifdpllfbaogcaaGreat
open Go Go.RowKit
namespace B
theorem WC.label {P : Program} {Z : Post} {ks : List Fr} {N : Nat} {D : List Deferred} {sl : Sl} {w : World} {l : Nat} (h : WN P Z ks N D sl w) : WC P Z ks N D sl (.label l) w := fun a ha => wp_label (h a ha)
theorem den_goto {P : Program} {Z : Post} {l : Nat} {a : Act} {w : World} : ∀ (ks : List Fr), den P Z ks (.goto l) a w → Z (.goto l) a w
 |[], h => h
 |.thn _ :: ks, h => den_goto ks h
 |.blk _ :: ks, h => den_goto ks h
 |.cut _ :: ks, h => den_goto ks h
theorem WC.scope {P : Program} {Z : Post} {ks : List Fr} {N : Nat} {D : List Deferred} {sl : Sl} {w : World} {c : Code} (hz : ∀ l a w, Z (.goto l) a w → False) (h : WC P Z ks N D sl c w) : WC P Z ks N D sl (.scope c) w := fun a ha => by
 refine wp_scope_straight (wp_mono (h a ha) ?_)
 intro e a' w' hq
 cases e with
 |goto l => exact hz _ _ _ (den_goto ks hq)
 |normal => exact hq
 |exit id => exact hq
 |ret => exact hq
 |panic ch => exact hq
 |outgrown => exact hq
abbrev mk_ (D : Nat) : Deferred := { target := .collected D, args := #[] }
section
variable {P : Program} {Z : Post} {ks : List Fr} {N : Nat} {D : List Deferred} {sl : Sl} {W w : World} {F : Snap} {cs : List Res} {ops : Array Oper} {rest : List Oper} {l : Nat} {t : TypeId} {pos : String} {af : Array Edge}
theorem enterM {f : FuncId} {fn : Func} {c : Code} {args : List Value} {R : Ending → World → Prop} (hf : P.funcs[f]? = some fn) (hb : fn.body = some c) (hN : fn.ntmps = N) (hn : Nat.ble args.length N = true)
  (h : WC P (bodyPostM Fence.wide 1 P fn R) [] N [] (slots 0 args) c w) : Calls P f args.toArray w R := by
 have hn := Nat.le_of_ble_eq_true hn
 refine (callsIn_wide (n := 1)).1 (callsIn_of_wp_marks hf hb trivial (wpIn_wide.2 (h _ ⟨rfl, by simp [hN]; omega, fun d v hl => ?_⟩)))
 obtain ⟨j, hj, hv⟩ := lk_slots args 0 d v hl
 have hlt : j < args.length := (List.getElem?_eq_some_iff.1 hv).1
 simp only [Nat.zero_add] at hj
 subst hj
 rw [Array.getElem?_append_left (by simpa using hlt)]
 simpa using hv
theorem St.shut {Dd : Nat} {ds : List Deferred} (h : St W F cs w) {i : Nat} (hi : cs[i]? = some [(Dd, .deferred (some ds))]) : St W F (cs.eraseIdx i) (w.putObj Dd (.deferred none)) := by
 have := h.set1 hi (.deferred none)
 have h2 := this.drop i
 rwa [List.eraseIdx_set_eq] at h2
theorem St.blkOf (h : St W F cs w) {b i : Nat} {o : Obj} (hi : cs[i]? = some [(b, o)]) : w.heap[b]? = some o := by
 obtain ⟨l1, l2, e1, _, _⟩ := split_at cs i _ hi
 subst e1
 exact (h.own (b, o) (by simp)).1
abbrev lrec (fn : FuncId) (tm : Array Value) (ps : Array Tmp) (assign body : Code) (Dd : Nat) (s : LoopState) : Loop := { state := s, pending := none, fn, tmps := tm, params := ps, assign, body, defers := Dd }
def WI (P : Program) (ops : Array Oper) (Z : Post) (ks : List Fr) (N : Nat) (D : List Deferred) (sl : Sl) (rest : List Oper) (w : World) : Prop :=
 ∀ a, Ag N D sl a → wpListIn Fence.wide 2 P ops (den P Z ks) rest a w
theorem B7 {id : Nat} {l : List Oper} (h : WI P l.toArray Z ks N D sl l w) : WC P Z ks N D sl (.region id l.toArray false) w := fun a ha => (wpIn_wide (n := 2)).1 (wpIn_region_lit (h a ha))
theorem WI.nil (h : WN P Z ks N D sl w) : WI P ops Z ks N D sl [] w := fun a ha => wpListIn_nil (h a ha)
theorem L5 {d : Nat} {op : Op} {v : Value} (h : Runs P sl op t w v) (hd : Nat.ble (d + 1) N = true) (k : WI P ops Z ks N D ((d, v) :: sl) rest w) :
  WI P ops Z ks N D sl ({ dst := some d, op := op, type := t, pos := pos, after := af, guard := none } :: rest) w := fun a ha =>
 wpListIn_plain rfl fun K hK => by
  refine ⟨fun _ _ => trivial, ?_⟩
  rw [show Fence.wide.round = none from rfl, Oper.semAt_none, h a.eval (fun x v hx => ha.ev hx) _ rfl rfl]
  exact hK _ _ (k _ (ha.put (Nat.le_of_ble_eq_true hd) v))
theorem WI.yield {d : Nat} {x y z : Operand} {u v : Value} {ts : Array TypeId} {R : Ending → World → Prop} (hx : evs sl x = some (.func (.yield l) #[] #[])) (hy : evs sl y = some u) (hz : evs sl z = some v) (hY : YieldAt Fence.wide 1 P l #[u, v] w R)
  (hd : Nat.ble (d + 1) N = true) (k : ∀ e w', R e w' → ∃ b, e = .returned b ∧ WI P ops Z ks N D ((d, b) :: sl) rest w') :
  WI P ops Z ks N D sl ({ dst := some d, op := .call { callee := .value x, args := #[y, z], argTypes := ts }, type := t, pos := pos, after := af, guard := none } :: rest) w := fun a ha =>
 wpListIn_plain rfl fun K hK => by
  obtain ⟨fn, tm, as_, bd, h1, h2⟩ := hY
  refine ⟨fun _ _ => trivial, ?_⟩
  rw [show Fence.wide.round = none from rfl, Oper.semAt_none]
  have hrun : (execOp a.eval { dst := some d, op := .call { callee := .value x, args := #[y, z], argTypes := ts }, type := t, pos := pos, after := af, guard := none }).run P w = .ok (.round l fn tm as_ bd) w := by
   have e1 := ha.ev hx
   have e2 := ha.ev hy
   have e3 := ha.ev hz
   generalize a.eval = ρ at e1 e2 e3 ⊢
   simp only [execOp, resolve, e1]
   simp [go_sem, e2, e3, h1]
  rw [hrun]
  refine ⟨fun h => (by cases h), h2.mono fun e w' hR => ?_⟩
  obtain ⟨b, rfl, hk⟩ := k e w' hR
  exact hK _ _ (hk _ (ha.put (Nat.le_of_ble_eq_true hd) b))
def denR (l : Nat) (P : Program) (Z : Post) : List Fr → Post
 |[] => Z
 |.thn c :: ks => Exit.then (fun a w => c.wpIn (Fence.wide.inRound l) 1 P (denR l P Z ks) a w) (denR l P Z ks)
 |.blk id :: ks => Exit.inBlock id (denR l P Z ks)
 |.cut R :: ks => Exit.then R (denR l P Z ks)
def NoOut (Z : Post) : Prop := ∀ a w, ¬ Z .outgrown a w
theorem denR_out (hZ : NoOut Z) : ∀ ks, NoOut (denR l P Z ks)
 |[] => hZ
 |.thn _ :: ks => fun a w h => denR_out hZ ks a w h
 |.blk _ :: ks => fun a w h => denR_out hZ ks a w h
 |.cut _ :: ks => fun a w h => denR_out hZ ks a w h
def RC (l : Nat) (P : Program) (Z : Post) (ks : List Fr) (N : Nat) (D : List Deferred) (sl : Sl) (c : Code) (w : World) : Prop := ∀ a, Ag N D sl a → c.wpIn (Fence.wide.inRound l) 1 P (denR l P Z ks) a w
def RN (l : Nat) (P : Program) (Z : Post) (ks : List Fr) (N : Nat) (D : List Deferred) (sl : Sl) (w : World) : Prop := ∀ a, Ag N D sl a → denR l P Z ks .normal a w
theorem RC.seq {x y : Code} (h : RC l P Z (.thn y :: ks) N D sl x w) : RC l P Z ks N D sl (.seq x y) w := fun a ha => wpIn_seq (h a ha)
theorem RC.block {id : Nat} {c : Code} (h : RC l P Z (.blk id :: ks) N D sl c w) : RC l P Z ks N D sl (.block id c) w := fun a ha => wpIn_block (h a ha)
theorem RN.thn {y : Code} (h : RC l P Z ks N D sl y w) : RN l P Z (.thn y :: ks) N D sl w := h
theorem RN.blk {id : Nat} (h : RN l P Z ks N D sl w) : RN l P Z (.blk id :: ks) N D sl w := h
def noDefer : Op → Bool
 |.defer _ => false
 |_ => true
theorem list_in {Q : Post} (hQ : NoOut Q) : ∀ (rest : List Oper) (a : Act) (w : World), (rest.all fun o => noDefer o.op) = true → wpList P ops Q rest a w → wpListIn (Fence.wide.inRound l) 1 P ops Q rest a w
 |[], _, _, _, h => h
 |o :: rest, a, w, hd, h => by
  rw [List.all_cons, Bool.and_eq_true] at hd
  have ih := list_in hQ rest
  have hno : ∀ c, o.op ≠ .defer c := fun c e => by have := hd.1; rw [e] at this; cases this
  unfold wpList at h
  unfold wpListIn
  split
  ·rename_i hw
   rw [if_pos hw] at h
   rcases h with h | ⟨_, a0, w0, h⟩
   ·refine ⟨fun _ _ => trivial, ?_⟩
    rw [show (Fence.wide.inRound l).round = some l from rfl, Oper.semAt_some l _ o hno]
    unfold Oper.wp at h
    generalize (execOp a.eval o).run P w = r at *
    cases r with
    |ok n w' =>
     cases n <;> simp only [Oper.upon] at h
     case value u => exact ih _ _ hd.2 h
     case skip => exact ih _ _ hd.2 h
     case defer d => exact ih _ _ hd.2 h
     case enter f args =>
      refine ⟨fun h => (by cases h), CallsIn.inRound l ((callsIn_wide (n := 0)).2 (h.mono fun e w'' hh => ?_))⟩
      cases e with
      |returned u => exact ih _ _ hd.2 hh
      |panicked ch => exact hh
      |outgrown => exact hh
     case row row args =>
      refine ⟨fun h => (by cases h), fun c cs _ => ?_⟩
      obtain ⟨v, w'', r, s⟩ := h c cs
      exact ⟨v, w'', ih _ _ hd.2 r, stepsIn_wide.2 s⟩
    |halt hh w' =>
     cases hh <;> simp only [Oper.upon] at h
     case panic u => exact h
   exact (hQ _ _ h).elim
  rename_i hw
  rw [if_neg hw] at h
  exact ⟨fun _ _ => trivial, ih _ _ hd.2 h⟩
theorem RC.reg {id : Nat} {L : List Oper} (hZ : NoOut Z) (hd : (L.all fun o => noDefer o.op) = true) (h : WL P L.toArray (denR l P Z ks) [] N D sl L w) : RC l P Z ks N D sl (.region id L.toArray false) w := fun a ha =>
 wpIn_region_lit (list_in (denR_out hZ ks) L a w hd (h a ha))
theorem RN.wn (h : RN l P Z ks N D sl w) : WN P (denR l P Z ks) [] N D sl w := h
def begP (l : Nat) (P : Program) (body : Code) (R : Ending → World → Prop) : Post := Exit.then (fun a₁ w₁ => ∃ w₂, (Instr.beginRound l).run P w₁ = .ok () w₂ ∧ body.wpIn (Fence.wide.inRound l) 1 P (roundPost P l R) a₁ w₂) (fun _ _ _ => False)
theorem begP_out {body : Code} {R : Ending → World → Prop} : NoOut (begP l P body R) := fun _ _ h => h
theorem rndP_out {R : Ending → World → Prop} : NoOut (roundPost P l R) := fun _ _ h => h
theorem RN.beg {rec : Loop} {body : Code} {R : Ending → World → Prop} {i : Nat} (h : St W F cs w) (hi : cs[i]? = some [(l, .loop rec)]) (hst : rec.state = .ready) (k : ∀ w', St W F (cs.set i [(l, .loop { rec with state := .busy })]) w' → RC l P (roundPost P l R) [] N D sl body w') : RN l P (begP l P body R) [] N D sl w := fun a ha =>
 ⟨_, run_beginRound (h.blkOf hi) hst, k _ (h.set1 hi _) a ha⟩
theorem RN.fin {rec : Loop} {R : Ending → World → Prop} {i : Nat} (h : St W F cs w) (hi : cs[i]? = some [(l, .loop rec)]) (k : ∀ w', St W F (cs.set i [(l, .loop { rec with state := .ready, pending := none })]) w' → R (.returned (.bool true)) w') : RN l P (roundPost P l R) [] N D sl w := fun a ha =>
 ⟨_, _, run_endRound none (h.blkOf hi), k _ (h.set1 hi _)⟩
end
end B
end Go.Proofs.YtifdpllfbaogcaaGreat
namespace Go.Proofs.YtifdpllfbaogcaaGreat
open Go Go.RowKit
namespace B
def RowM {α : Type} (E : TypeId) (m : Nat) (f : α → List Value) (r : Res) (v : Value) (xs : List α) : Prop := IsRow E m r v xs.length (xs.flatMap f)
theorem RowM.nil {α : Type} (E : TypeId) (m : Nat) (f : α → List Value) : RowM E m f [] (.slice none 0 0) [] := IsRow.nil E m
theorem RowM.val {α : Type} {E : TypeId} {m : Nat} {f : α → List Value} {r : Res} {v : Value} {xs : List α} (h : RowM E m f r v xs) : ∃ A cap, v = .slice A xs.length cap ∧ xs.length ≤ cap := IsRow.val h
section
variable {P : Program} {Z : Post} {ks : List Fr} {N : Nat} {D : List Deferred} {sl : Sl} {W w : World} {ops : Array Oper} {rest : List Oper} {F G : Snap} {cs : List Res} {t t' T T' E : TypeId} {x y : Operand} {v zv : Value} {pos : String} {af : Array Edge} {bytes m : Nat} {α : Type} {f : α → List Value}
theorem WL.appM (i : Nat) (h : St W F cs w) {r : Res} (hi : cs[i]? = some r) {d : Nat} (hd : Nat.ble (d + 1) N = true) {xv : Value} {n : Nat} {xs ys : List α} {d' : TypeDesc} (hx : evs sl x = some v) (hy : evs sl y = some xv)
  (ht : P.underlying T = some (.slice E)) (ht' : P.underlying T' = some d') (hd' : d' = .string ∨ ∃ e, d' = .slice e) (hE : ElemOk P E m bytes)
  (hr : RowM E m f r v xs) (hs : Src P w m xv n (ys.flatMap f)) (hn : n = ys.length) (hsmall : (4 * (xs.length + n) + 4096) * bytes ≤ 281474976710656) (hnm : xs.length + n ≤ 9223372036854775807)
  (k : ∀ r' v' w', RowM E m f r' v' (xs ++ ys) → St W F (cs.set i r') w' → WL P ops Z ks N D ((d, v') :: sl) rest w') :
  WL P ops Z ks N D sl ({ dst := some d, op := .call { callee := .builtin .append, args := #[x, y], argTypes := #[T, T'] }, type := t, pos := pos, after := af, guard := none } :: rest) w := by
 subst hn
 refine WL.append i h hi hd hx hy ht ht' hd' hE hr hs hsmall hnm (fun r' v' w' h1 h2 => k r' v' w' ?_ h2)
 unfold RowM
 rw [List.length_append, List.flatMap_append]
 exact h1
theorem Src.litM {b n c : Nat} {arr : Array Value} {tt : TypeId} {fz : Nat × Nat} (h : St W F cs w) (i : Nat) (hi : cs[i]? = some [(b, .cells arr tt fz)]) (hm : arr.size = n * m) (h1 : arr.toList.all one_ = true) : Src P w m (.slice (some ⟨b, 0, none⟩) n c) n arr.toList :=
 Src.slice (by simp [hm]) (.inr ⟨_, rfl, fun j u hu => by rw [add_mk, Nat.zero_add]; exact h.ocell hi (by simpa using hu)⟩) h1
theorem allK_map {α : Type} {m : Nat} {f : α → List Value} (hf : ∀ x, (f x).length = m) (G : Snap) : ∀ xs : List α, allK (Kd.rows m f hf) G xs (xs.map f)
 |[] => trivial
 |x :: xs => ⟨rfl, allK_map hf G xs⟩
theorem RowM.read (hf : ∀ x, (f x).length = m) {r : Res} {xs : List α} {A : Option Addr} {n cap : Nat} (hr : RowM E m f r v xs) (hv : v = .slice A n cap) (hG : ∀ p ∈ r, G p.1 = some p.2) : RdS (Kd.rows m f hf) G A xs := by
 rcases hr with ⟨rfl, rfl, hl, _⟩ | ⟨b, cap', arr, fz, rfl, rfl, hs, hn, hc, _⟩
 ·exact .inl (List.eq_nil_of_length_eq_zero hl)
 injection hv with hA
 refine .inr ⟨⟨b, 0, none⟩, hA.symm, fun i x hx => ?_⟩
 obtain ⟨c, h1, h2⟩ := (allK_map hf G xs).at_ hx
 refine ⟨c, h1, fun j u hj => ?_⟩
 have h3 := h2 j u hj
 rw [← List.flatMap_def, hc, List.getElem?_take] at h3
 have hb : G b = some (.cells arr E fz) := hG (b, .cells arr E fz) (by simp)
 rw [add_mk, Nat.zero_add]
 unfold cellF
 rw [hb]
 split at h3
 ·simpa using h3
 cases h3
theorem Src.rdM {hf : ∀ x, (f x).length = m} {A : Option Addr} {xs : List α} {n cap : Nat} (hr : RdS (Kd.rows m f hf) F A xs) (h : St W F cs w) (hn : n = xs.length) (h1 : ∀ x, (f x).all one_ = true) : Src P w m (.slice A n cap) xs.length (xs.flatMap f) := by
 subst hn
 have hlen : (xs.flatMap f).length = xs.length * m := by
  clear hr
  induction xs with
  |nil => simp
  |cons x xs ih => rw [List.flatMap_cons, List.length_append, hf, ih, List.length_cons, Nat.succ_mul, Nat.add_comm]
 refine Src.slice hlen ?_ (by rw [List.all_eq_true]; intro u hu; obtain ⟨x, _, h2⟩ := List.mem_flatMap.1 hu; exact List.all_eq_true.1 (h1 x) u h2)
 rcases hr with hr | ⟨ad, hA, hr⟩
 ·exact .inl (by rw [hr]; rfl)
 refine .inr ⟨ad, hA, fun j u hu => ?_⟩
 clear hlen
 have key : ∀ (xs : List α) (j : Nat) (u : Value), (xs.flatMap f)[j]? = some u → ∃ i x k, xs[i]? = some x ∧ (f x)[k]? = some u ∧ j = i * m + k := by
  intro xs
  induction xs with
  |nil => intro j u hu; simp at hu
  |cons x xs ih =>
   intro j u hu
   rw [List.flatMap_cons] at hu
   by_cases hj : j < m
   ·rw [List.getElem?_append_left (by rw [hf]; exact hj)] at hu
    exact ⟨0, x, j, rfl, hu, by omega⟩
   rw [List.getElem?_append_right (by rw [hf]; omega), hf] at hu
   obtain ⟨i, y, k, h1, h2, h3⟩ := ih _ _ hu
   exact ⟨i + 1, y, k, h1, h2, by rw [Nat.succ_mul]; omega⟩
 obtain ⟨i, x, k, hx, hk, rfl⟩ := key xs j u hu
 obtain ⟨c, hc1, hc2⟩ := hr i x hx
 have hc1 : c = f x := hc1
 subst hc1
 exact h.cell (hc2 k u hk)
end
end B
end Go.Proofs.YtifdpllfbaogcaaGreat
namespace Go.Proofs.YtifdpllfbaogcaaGreat
open Go Go.RowKit
namespace B
section
variable {P : Program} {Z : Post} {ks : List Fr} {N : Nat} {D : List Deferred} {sl : Sl} {W w : World} {ops : Array Oper} {rest : List Oper} {F : Snap} {cs : List Res} {t T T' : TypeId} {x y : Operand} {v : Value} {pos : String} {af : Array Edge} {ch : List PanicEntry}
def WP (P : Program) (Z : Post) (ks : List Fr) (N : Nat) (D : List Deferred) (ch : List PanicEntry) (w : World) : Prop := ∀ a, Ag N D [] a → den P Z ks (.panic ch) a w
theorem WP.of (h : ∀ a, Ag N D [] a → Z (.panic ch) a w) : WP P Z ks N D ch w := fun a ha => den_panic ch ks a w (h a ha)
theorem WP.region {ks' : List Fr} (h : WP P Z ks N D ch w) : WP P (ZE N D (den P Z ks)) ks' N D ch w := WP.of fun _ _ => h
theorem Ag.any {a : Act} (ha : Ag N D sl a) : Ag N D [] a := ⟨ha.df, ha.sz, fun d v hl => by simp [lk] at hl⟩
theorem die0 {fn : Func} {R : Ending → World → Prop} (hR : R (.panicked ch) w) : WP P (bodyPost P fn R) ks N [] ch w := WP.of fun a ha => ⟨ha.df, hR⟩
def chain1 (T : TypeId) (v : Value) : List PanicEntry := [{ v := .iface T v, recovered := false }]
theorem WL.panicI {dst : Option Nat} (hx : evs sl x = some (.iface T v)) (h : WP P Z ks N D (chain1 T v) w) : WL P ops Z ks N D sl ({ dst := dst, op := .panic x, type := t, pos := pos, after := af, guard := none } :: rest) w := fun a ha =>
 wpList_plain rfl fun K hK => by
  unfold Oper.wp
  have : (execOp a.eval { dst := dst, op := .panic x, type := t, pos := pos, after := af, guard := none }).run P w = .halt (.panic (.iface T v)) w := by
   simp only [execOp, ha.ev hx]
   rfl
  rw [this]
  exact h a ha.any
def Ends (P : Program) (Z : Post) (ks : List Fr) (N : Nat) (D : List Deferred) (K : Value → World → Prop) (e : Ending) (w : World) : Prop := (∃ v, e = .returned v ∧ K v w) ∨ ∃ ch, e = .panicked ch ∧ WP P Z ks N D ch w
theorem H5 {d : Nat} {f : FuncId} {xs : List Operand} {vs : List Value} {ts : Array TypeId} {R : Ending → World → Prop} (hc : Can P f) (hv : args_ sl xs = some vs) (hd : Nat.ble (d + 1) N = true)
  (c : Calls P f vs.toArray w R) (k : ∀ e w', R e w' → Ends P Z ks N D (fun v w' => WL P ops Z ks N D ((d, v) :: sl) rest w') e w') :
  WL P ops Z ks N D sl ({ dst := some d, op := .call { callee := .value (.func f), args := xs.toArray, argTypes := ts }, type := t, pos := pos, after := af, guard := none } :: rest) w := fun a ha =>
 wpList_plain rfl fun K hK => by
  unfold Oper.wp
  rw [exec_call hc rfl rfl (args_spec (fun x v hx => ha.ev hx) xs vs hv)]
  refine c.mono fun e w' hr => ?_
  rcases k e w' hr with ⟨v, rfl, hk⟩ | ⟨ch, rfl, hk⟩
  ·exact hK _ _ (hk _ (ha.put (Nat.le_of_ble_eq_true hd) v))
  exact hk a ha.any
theorem WL.callvP {d : Nat} {f : FuncId} {first cap : List Value} {xs : List Operand} {vs : List Value} {ts : Array TypeId} {R : Ending → World → Prop} (hc : Can P f) (hx : evs sl x = some (.func (.func f) first.toArray cap.toArray)) (hv : args_ sl xs = some vs) (hd : Nat.ble (d + 1) N = true)
  (c : Calls P f (first ++ vs ++ cap).toArray w R) (k : ∀ e w', R e w' → Ends P Z ks N D (fun v w' => WL P ops Z ks N D ((d, v) :: sl) rest w') e w') :
  WL P ops Z ks N D sl ({ dst := some d, op := .call { callee := .value x, args := xs.toArray, argTypes := ts }, type := t, pos := pos, after := af, guard := none } :: rest) w := fun a ha =>
 wpList_plain rfl fun K hK => by
  have e := args_spec (fun x v hx => ha.ev hx) xs vs hv
  have hr := run_callFunc (w := w) hc (first ++ vs ++ cap).toArray
  have : (execOp a.eval { dst := some d, op := .call { callee := .value x, args := xs.toArray, argTypes := ts }, type := t, pos := pos, after := af, guard := none }).run P w = .ok (.enter f (first ++ vs ++ cap).toArray) w := by
   have e2 : xs.toArray.map a.eval = vs.toArray := by simp [← e]
   simp only [execOp, resolve, ha.ev hx, Deferred.ofValue, e2]
   have e3 : first.toArray ++ vs.toArray ++ cap.toArray = (first ++ vs ++ cap).toArray := by simp
   simp only [Sem.run_bind, pure, Sem.run, Result.andThen, invoke, e3]
   exact hr
  unfold Oper.wp
  rw [this]
  refine c.mono fun e w' hr => ?_
  rcases k e w' hr with ⟨v, rfl, hk⟩ | ⟨ch, rfl, hk⟩
  ·exact hK _ _ (hk _ (ha.put (Nat.le_of_ble_eq_true hd) v))
  exact hk a ha.any
theorem WL.deferC {f : FuncId} {caps : Array Value} (hx : evs sl x = some (.func (.func f) #[] caps)) (k : WL P ops Z ks N ({ target := .fn (.func f) caps, args := #[] } :: D) sl rest w) :
  WL P ops Z ks N D sl ({ dst := none, op := .defer { callee := .value x, args := #[], argTypes := #[] }, type := t, pos := pos, after := af, guard := none } :: rest) w := fun a ha =>
 wpList_plain rfl fun K hK => by
  unfold Oper.wp
  have : (execOp a.eval { dst := none, op := .defer { callee := .value x, args := #[], argTypes := #[] }, type := t, pos := pos, after := af, guard := none }).run P w = .ok (.defer { target := .fn (.func f) caps, args := #[] }) w := by
   simp [execOp, resolve, ha.ev hx, Deferred.ofValue, Sem.run, pure, bind, Sem.bind]
  rw [this]
  exact hK _ _ (k _ ⟨by simp [Act.put, ha.df], by simpa [Act.put] using ha.sz, fun d v hl => by simpa [Act.put] using ha.ag d v hl⟩)
theorem enterD {f : FuncId} {fn : Func} {c : Code} {args : List Value} {R : Ending → World → Prop} (hf : P.funcs[f]? = some fn) (hb : fn.body = some c) (hN : fn.ntmps = N) (hn : Nat.ble args.length N = true)
  (h : WC P (bodyPostD P fn R) [] N [] (slots 0 args) c w) : Calls P f args.toArray w R := by
 have hn := Nat.le_of_ble_eq_true hn
 refine calls_of_wp_defers hf hb (h _ ⟨rfl, by simp [hN]; omega, fun d v hl => ?_⟩)
 obtain ⟨j, hj, hv⟩ := lk_slots args 0 d v hl
 have hlt : j < args.length := (List.getElem?_eq_some_iff.1 hv).1
 simp only [Nat.zero_add] at hj
 subst hj
 rw [Array.getElem?_append_left (by simpa using hlt)]
 simpa using hv
theorem leaveN {fn : Func} {R : Ending → World → Prop} (hr : fn.results = #[]) (hR : R (.returned (.tuple #[])) w) : ∀ a, Ag N [] sl a → bodyPostD P fn R .ret a w := fun a ha => by
 show Leaves P fn a.tmps R a.defers .returning w
 rw [ha.df]
 exact ⟨.tuple #[], results_none hr _ _ _, hR⟩
theorem run_invokeC {f : FuncId} {caps : Array Value} (hc : Can P f) : (invoke (.fn (.func f) caps) #[]).run P w = .ok (.enter f caps) w := by
 have := run_callFunc (w := w) hc (#[] ++ caps)
 simpa [invoke] using this
theorem leaveC {fn : Func} {f : FuncId} {caps : Array Value} {R : Ending → World → Prop} (hr : fn.results = #[]) (hc : Can P f)
  (h : CallsD P f caps .returning w fun e u' w' => e = .returned (.tuple #[]) ∧ u' = .returning ∧ R (.returned (.tuple #[])) w') : WN P (bodyPostD P fn R) [] N [{ target := .fn (.func f) caps, args := #[] }] sl w := fun a ha => by
 show Leaves P fn a.tmps R a.defers .returning w
 rw [ha.df]
 refine leaves_cons (f := f) (args := caps) (by simp) (run_invokeC hc) (h.mono fun e u' w' ⟨h1, h2, h3⟩ => ?_)
 subst h1; subst h2
 exact ⟨.tuple #[], results_none hr _ _ _, h3⟩
theorem dieC {fn : Func} {f : FuncId} {caps : Array Value} {R : Ending → World → Prop} {pe : PanicEntry} (hr : fn.results = #[]) (hc : Can P f) (hg : pe.goexit = false)
  (h : CallsD P f caps (.panicking [pe]) w fun e u' w' => e = .returned (.tuple #[]) ∧ u' = .panicking [{ pe with recovered := true }] ∧ R (.returned (.tuple #[])) w') : WP P (bodyPostD P fn R) ks N [{ target := .fn (.func f) caps, args := #[] }] [pe] w := WP.of fun a ha => by
 show Leaves P fn a.tmps R a.defers (.panicking [pe]) w
 rw [ha.df]
 refine leaves_cons (f := f) (args := caps) (by simp) (run_invokeC hc) (h.mono fun e u' w' ⟨h1, h2, h3⟩ => ?_)
 subst h1; subst h2
 exact ⟨.tuple #[], results_none hr _ _ _, h3⟩
def isI : TypeDesc → Bool
 |.interface _ => true
 |_ => false
theorem Runs.makeI {A : TypeId} {d : TypeDesc} (hu : P.underlying A = some d) (hd : isI d = false) (hx : evs sl x = some v) : Runs P sl (.makeInterface A x) t w (.iface A v) := fun ρ h o ho _ => by
 simp only [execOp, ho, h _ _ hx]
 have : (Instr.makeInterface A v).run P w = .ok (.iface A v) w := by
  cases d with
  |interface m => cases hd
  |_ => simp [Instr.makeInterface, underlying, program, hu, Sem.run, bind, Sem.bind, pure]
 rw [Sem.run_bind, this]
 rfl
theorem Runs.assertS {A : TypeId} {d : TypeDesc} (hu : P.underlying A = some d) (hd : isI d = false) (hx : evs sl x = some (.iface A v)) : Runs P sl (.typeAssert x T A false) t w v := fun ρ h o ho _ => by
 simp only [execOp, ho, h _ _ hx]
 have : (Instr.typeAssert (.iface A v) T A false).run P w = .ok v w := by
  cases d with
  |interface m => cases hd
  |_ => simp [Instr.typeAssert, underlying, program, hu, Sem.run, bind, Sem.bind, pure]
 rw [Sem.run_bind, this]
 rfl
end
end B
end Go.Proofs.YtifdpllfbaogcaaGreat
