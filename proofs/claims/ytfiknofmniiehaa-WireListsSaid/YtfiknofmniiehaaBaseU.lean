/- Panics, deferred closures, recover. Plain lemmas. -/
import Derived.Test.YtfiknofmniiehaaBaseT
import Derived.Defers
import Derived.Recover
namespace Go.Proofs.Ytfiknofmniiehaa
open Go Go.RowKit
set_option linter.unusedVariables false
set_option linter.unusedSimpArgs false
namespace B
section
variable {P : Program} {Z : Post} {ks : List Fr} {N : Nat} {D : List Deferred} {sl : Sl} {W w : World} {ops : Array Oper} {rest : List Oper} {F : Snap} {cs : List Res} {t T T' : TypeId} {x y : Operand} {v : Value} {pos : String} {af : Array Edge} {ch : List PanicEntry}
/-- a panic goes up from here, whatever lies in the slots -/
def WP (P : Program) (Z : Post) (ks : List Fr) (N : Nat) (D : List Deferred) (ch : List PanicEntry) (w : World) : Prop := ∀ a, Ag N D [] a → den P Z ks (.panic ch) a w
theorem WP.of (h : ∀ a, Ag N D [] a → Z (.panic ch) a w) : WP P Z ks N D ch w := fun a ha => den_panic ch ks a w (h a ha)
theorem WP.region {ks' : List Fr} (h : WP P Z ks N D ch w) : WP P (ZE N D (den P Z ks)) ks' N D ch w := WP.of fun _ _ => h
theorem Ag.any {a : Act} (ha : Ag N D sl a) : Ag N D [] a := ⟨ha.df, ha.sz, fun d v hl => by simp [lk] at hl⟩
theorem die0 {fn : Func} {R : Ending → World → Prop} (hR : R (.panicked ch) w) : WP P (bodyPost P fn R) ks N [] ch w := WP.of fun a ha => ⟨ha.df, hR⟩
def chain1 (T : TypeId) (v : Value) : List PanicEntry := [{ v := .iface T v, recovered := false }]
theorem WL.panicI {dst : Option Nat} (hx : evs sl x = some (.iface T v)) (h : WP P Z ks N D (chain1 T v) w) : WL P ops Z ks N D sl ({ dst := dst, op := .panic x, type := t, pos := pos, after := af, guard := none } :: rest) w := fun a ha =>
  wpList_plain rfl fun K hK => by
    unfold Oper.wp
    have : (execOp a.eval { dst := dst, op := .panic x, type := t, pos := pos, after := af, guard := none }).run P w = .halt (.panic (.iface T v)) w := by
      simp only [execOp, ha.ev hx]
      rfl
    rw [this]
    exact h a ha.any
/-- what a call comes to: a value, or a panic that goes on -/
def Ends (P : Program) (Z : Post) (ks : List Fr) (N : Nat) (D : List Deferred) (K : Value → World → Prop) (e : Ending) (w : World) : Prop := (∃ v, e = .returned v ∧ K v w) ∨ ∃ ch, e = .panicked ch ∧ WP P Z ks N D ch w
theorem WL.callP {d : Nat} {f : FuncId} {xs : List Operand} {vs : List Value} {ts : Array TypeId} {R : Ending → World → Prop} (hc : Can P f) (hv : args_ sl xs = some vs) (hd : Nat.ble (d + 1) N = true)
    (c : Calls P f vs.toArray w R) (k : ∀ e w', R e w' → Ends P Z ks N D (fun v w' => WL P ops Z ks N D ((d, v) :: sl) rest w') e w') :
    WL P ops Z ks N D sl ({ dst := some d, op := .call { callee := .value (.func f), args := xs.toArray, argTypes := ts }, type := t, pos := pos, after := af, guard := none } :: rest) w := fun a ha =>
  wpList_plain rfl fun K hK => by
    unfold Oper.wp
    rw [exec_call hc rfl rfl (args_spec (fun x v hx => ha.ev hx) xs vs hv)]
    refine c.mono fun e w' hr => ?_
    rcases k e w' hr with ⟨v, rfl, hk⟩ | ⟨ch, rfl, hk⟩
    · exact hK _ _ (hk _ (ha.put (Nat.le_of_ble_eq_true hd) v))
    · exact hk a ha.any
theorem WL.callvP {d : Nat} {f : FuncId} {first cap : List Value} {xs : List Operand} {vs : List Value} {ts : Array TypeId} {R : Ending → World → Prop} (hc : Can P f) (hx : evs sl x = some (.func (.func f) first.toArray cap.toArray)) (hv : args_ sl xs = some vs) (hd : Nat.ble (d + 1) N = true)
    (c : Calls P f (first ++ vs ++ cap).toArray w R) (k : ∀ e w', R e w' → Ends P Z ks N D (fun v w' => WL P ops Z ks N D ((d, v) :: sl) rest w') e w') :
    WL P ops Z ks N D sl ({ dst := some d, op := .call { callee := .value x, args := xs.toArray, argTypes := ts }, type := t, pos := pos, after := af, guard := none } :: rest) w := fun a ha =>
  wpList_plain rfl fun K hK => by
    have e := args_spec (fun x v hx => ha.ev hx) xs vs hv
    have hr := run_callFunc (w := w) hc (first ++ vs ++ cap).toArray
    have : (execOp a.eval { dst := some d, op := .call { callee := .value x, args := xs.toArray, argTypes := ts }, type := t, pos := pos, after := af, guard := none }).run P w = .ok (.enter f (first ++ vs ++ cap).toArray) w := by
      have e2 : xs.toArray.map a.eval = vs.toArray := by simp [← e]
      simp only [execOp, resolve, ha.ev hx, Deferred.ofValue, e2]
      have e3 : first.toArray ++ vs.toArray ++ cap.toArray = (first ++ vs ++ cap).toArray := by simp
      simp only [Sem.run_bind, pure, Sem.run, Result.andThen, invoke, e3]
      exact hr
    unfold Oper.wp
    rw [this]
    refine c.mono fun e w' hr => ?_
    rcases k e w' hr with ⟨v, rfl, hk⟩ | ⟨ch, rfl, hk⟩
    · exact hK _ _ (hk _ (ha.put (Nat.le_of_ble_eq_true hd) v))
    · exact hk a ha.any
/-- a closure without arguments, deferred -/
theorem WL.deferC {f : FuncId} {caps : Array Value} (hx : evs sl x = some (.func (.func f) #[] caps)) (k : WL P ops Z ks N ({ target := .fn (.func f) caps, args := #[] } :: D) sl rest w) :
    WL P ops Z ks N D sl ({ dst := none, op := .defer { callee := .value x, args := #[], argTypes := #[] }, type := t, pos := pos, after := af, guard := none } :: rest) w := fun a ha =>
  wpList_plain rfl fun K hK => by
    unfold Oper.wp
    have : (execOp a.eval { dst := none, op := .defer { callee := .value x, args := #[], argTypes := #[] }, type := t, pos := pos, after := af, guard := none }).run P w = .ok (.defer { target := .fn (.func f) caps, args := #[] }) w := by
      simp [execOp, resolve, ha.ev hx, Deferred.ofValue, Sem.run, pure, bind, Sem.bind]
    rw [this]
    exact hK _ _ (k _ ⟨by simp [Act.put, ha.df], by simpa [Act.put] using ha.sz, fun d v hl => by simpa [Act.put] using ha.ag d v hl⟩)
theorem enterD {f : FuncId} {fn : Func} {c : Code} {args : List Value} {R : Ending → World → Prop} (hf : P.funcs[f]? = some fn) (hb : fn.body = some c) (hN : fn.ntmps = N) (hn : Nat.ble args.length N = true)
    (h : WC P (bodyPostD P fn R) [] N [] (slots 0 args) c w) : Calls P f args.toArray w R := by
  have hn := Nat.le_of_ble_eq_true hn
  refine calls_of_wp_defers hf hb (h _ ⟨rfl, by simp [hN]; omega, fun d v hl => ?_⟩)
  obtain ⟨j, hj, hv⟩ := lk_slots args 0 d v hl
  have hlt : j < args.length := (List.getElem?_eq_some_iff.1 hv).1
  simp only [Nat.zero_add] at hj
  subst hj
  rw [Array.getElem?_append_left (by simpa using hlt)]
  simpa using hv
theorem leaveN {fn : Func} {R : Ending → World → Prop} (hr : fn.results = #[]) (hR : R (.returned (.tuple #[])) w) : ∀ a, Ag N [] sl a → bodyPostD P fn R .ret a w := fun a ha => by
  show Leaves P fn a.tmps R a.defers .returning w
  rw [ha.df]
  exact ⟨.tuple #[], results_none hr _ _ _, hR⟩
theorem run_invokeC {f : FuncId} {caps : Array Value} (hc : Can P f) : (invoke (.fn (.func f) caps) #[]).run P w = .ok (.enter f caps) w := by
  have := run_callFunc (w := w) hc (#[] ++ caps)
  simpa [invoke] using this
/-- the way out through one deferred closure: it finds nothing to recover -/
theorem leaveC {fn : Func} {f : FuncId} {caps : Array Value} {R : Ending → World → Prop} (hr : fn.results = #[]) (hc : Can P f)
    (h : CallsD P f caps .returning w fun e u' w' => e = .returned (.tuple #[]) ∧ u' = .returning ∧ R (.returned (.tuple #[])) w') : WN P (bodyPostD P fn R) [] N [{ target := .fn (.func f) caps, args := #[] }] sl w := fun a ha => by
  show Leaves P fn a.tmps R a.defers .returning w
  rw [ha.df]
  refine leaves_cons (f := f) (args := caps) (by simp) (run_invokeC hc) (h.mono fun e u' w' ⟨h1, h2, h3⟩ => ?_)
  subst h1; subst h2
  exact ⟨.tuple #[], results_none hr _ _ _, h3⟩
/-- a panic, recovered by one deferred closure -/
theorem dieC {fn : Func} {f : FuncId} {caps : Array Value} {R : Ending → World → Prop} {pe : PanicEntry} (hr : fn.results = #[]) (hc : Can P f) (hg : pe.goexit = false)
    (h : CallsD P f caps (.panicking [pe]) w fun e u' w' => e = .returned (.tuple #[]) ∧ u' = .panicking [{ pe with recovered := true }] ∧ R (.returned (.tuple #[])) w') : WP P (bodyPostD P fn R) ks N [{ target := .fn (.func f) caps, args := #[] }] [pe] w := WP.of fun a ha => by
  show Leaves P fn a.tmps R a.defers (.panicking [pe]) w
  rw [ha.df]
  refine leaves_cons (f := f) (args := caps) (by simp) (run_invokeC hc) (h.mono fun e u' w' ⟨h1, h2, h3⟩ => ?_)
  subst h1; subst h2
  exact ⟨.tuple #[], results_none hr _ _ _, h3⟩
/-! interfaces -/
def isI : TypeDesc → Bool
  | .interface _ => true
  | _ => false
theorem Runs.makeI {A : TypeId} {d : TypeDesc} (hu : P.underlying A = some d) (hd : isI d = false) (hx : evs sl x = some v) : Runs P sl (.makeInterface A x) t w (.iface A v) := fun ρ h o ho _ => by
  simp only [execOp, ho, h _ _ hx]
  have : (Instr.makeInterface A v).run P w = .ok (.iface A v) w := by
    cases d with
    | interface m => cases hd
    | _ => simp [Instr.makeInterface, underlying, program, hu, Sem.run, bind, Sem.bind, pure]
  rw [Sem.run_bind, this]
  rfl
theorem Runs.assertS {A : TypeId} {d : TypeDesc} (hu : P.underlying A = some d) (hd : isI d = false) (hx : evs sl x = some (.iface A v)) : Runs P sl (.typeAssert x T A false) t w v := fun ρ h o ho _ => by
  simp only [execOp, ho, h _ _ hx]
  have : (Instr.typeAssert (.iface A v) T A false).run P w = .ok v w := by
    cases d with
    | interface m => cases hd
    | _ => simp [Instr.typeAssert, underlying, program, hu, Sem.run, bind, Sem.bind, pure]
  rw [Sem.run_bind, this]
  rfl
end
end B
end Go.Proofs.Ytfiknofmniiehaa
