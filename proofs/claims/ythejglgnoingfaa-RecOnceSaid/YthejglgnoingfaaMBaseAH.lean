/- Arguments that are structs of one-cell fields. Plain lemmas. -/
import Derived.Test.YthejglgnoingfaaMBaseT
import Derived.RangeFuncCalls
import Derived.Scope
import Derived.Defers
import Derived.Recover
import Derived.Lib.Builder
import Derived.Lib.UnsafeStr
import Derived.Laws.Externs
import Derived.Laws.StructEq
namespace Go.Proofs.Ythejglgnoingfaa
open Go Go.RowKit
set_option linter.unusedVariables false
set_option linter.unusedSimpArgs false
namespace B
section
variable {H : Type} {enc : TypeId × Value → H} {P : Program} {W : World} {base : Nat} {spare : Nat → Bool} {held : Bool} {t : TypeId} {fs : Array Field} {cs : List Value} {x : DataW H × List MemPlace} {fuel i : Nat} {f : Field} {k : IntKind}
theorem fld_one (h : DataW.trod enc P W base spare held fuel t cs = some x) (ht : P.underlying t = some (.struct fs)) (hf : fs[i]? = some f) (hc : P.cellsOf f.type = 1) : ∃ n y, DataW.trod enc P W base spare held n f.type ((cs.drop f.offset).take 1) = some y := by
  obtain ⟨xs, n, _, _, hl, hlen, hx⟩ := DataW.trod_struct ht h
  have := hx i f hf
  rw [hc] at this
  have hi : i < fs.size := (Array.getElem?_eq_some_iff.1 hf).1
  rw [List.getElem?_eq_getElem (by rw [hlen]; simpa using hi)] at this
  exact ⟨n, _, this⟩
theorem one_at {v : Value} {n : Nat} (h : (cs.drop n).take 1 = [v]) : cs[n]? = some v := by
  have := congrArg (fun l : List Value => l[0]?) h
  simpa [List.getElem?_take, List.getElem?_drop] using this
theorem fld_int (h : DataW.trod enc P W base spare held fuel t cs = some x) (ht : P.underlying t = some (.struct fs)) (hf : fs[i]? = some f) (hc : P.cellsOf f.type = 1) (hu : P.underlying f.type = some (.int k)) : ∃ n, cs[f.offset]? = some (.int k n) ∧ (Lit.int k n).wf = true := by
  obtain ⟨n, y, hy⟩ := fld_one h ht hf hc
  obtain ⟨m, e, _, w⟩ := DataW.trod_int hu hy
  exact ⟨m, one_at e, w⟩
theorem fld_bool (h : DataW.trod enc P W base spare held fuel t cs = some x) (ht : P.underlying t = some (.struct fs)) (hf : fs[i]? = some f) (hc : P.cellsOf f.type = 1) (hu : P.underlying f.type = some .bool) : ∃ b, cs[f.offset]? = some (.bool b) := by
  obtain ⟨n, y, hy⟩ := fld_one h ht hf hc
  obtain ⟨m, e, _⟩ := DataW.trod_bool hu hy
  exact ⟨m, one_at e⟩
theorem fld_str (h : DataW.trod enc P W base spare held fuel t cs = some x) (ht : P.underlying t = some (.struct fs)) (hf : fs[i]? = some f) (hc : P.cellsOf f.type = 1) (hu : P.underlying f.type = some .string) : ∃ s, cs[f.offset]? = some (.string s) ∧ s.size ≤ maxLen := by
  obtain ⟨n, y, hy⟩ := fld_one h ht hf hc
  obtain ⟨m, e, _, w⟩ := DataW.trod_string hu hy
  exact ⟨m, one_at e, w⟩
theorem eight {α : Type} {l : List α} {a0 a1 a2 a3 a4 a5 a6 a7 : α} (hl : l.length = 8) (h0 : l[0]? = some a0) (h1 : l[1]? = some a1) (h2 : l[2]? = some a2) (h3 : l[3]? = some a3) (h4 : l[4]? = some a4) (h5 : l[5]? = some a5) (h6 : l[6]? = some a6) (h7 : l[7]? = some a7) : l = [a0, a1, a2, a3, a4, a5, a6, a7] := by
  apply List.ext_getElem?
  intro j
  rcases Nat.lt_or_ge j 8 with h | h
  · have : j = 0 ∨ j = 1 ∨ j = 2 ∨ j = 3 ∨ j = 4 ∨ j = 5 ∨ j = 6 ∨ j = 7 := by omega
    rcases this with rfl | rfl | rfl | rfl | rfl | rfl | rfl | rfl <;> assumption
  · rw [List.getElem?_eq_none (by omega), List.getElem?_eq_none (by simpa using h)]
end
end B
end Go.Proofs.Ythejglgnoingfaa

namespace Go.Proofs.Ythejglgnoingfaa
open Go Go.RowKit
set_option linter.unusedVariables false
set_option linter.unusedSimpArgs false
namespace B
variable {α : Type} {W w : World} {F : Snap} {cs : List Res} {f : α → Value} {A : Option Addr} {xs : List α} {E : TypeId} {r : Res} {v : Value} {n cap i : Nat}
/-- a row of one-cell elements that is read in every world of the call -/
def RdW (W : World) (F : Snap) (cs : List Res) (f : α → Value) (A : Option Addr) (xs : List α) : Prop :=
  xs = [] ∨ ∃ ad, A = some ad ∧ ∀ w, St W F cs w → ∀ j x, xs[j]? = some x → w.cell? (ad.add j) = some (f x)
theorem RdW.of (h : RdS (Kd.one f) F A xs) : RdW W F cs f A xs := by
  by_cases h0 : xs = []
  · exact .inl h0
  · obtain ⟨ad, hA, hr⟩ := rd1 h (List.length_pos_iff.2 h0)
    exact .inr ⟨ad, hA, fun w hs j x hx => hs.cell (hr j x hx)⟩
theorem RdW.row (hr : Row E f r v xs) (hi : cs[i]? = some r) (hv : v = .slice A n cap) (hs : St W F cs w) : RdW W F cs f A xs := by
  by_cases h0 : xs = []
  · exact .inl h0
  · rcases hr.wcell hs hi hv with h | ⟨ad, hA, _⟩
    · exact absurd h h0
    · refine .inr ⟨ad, hA, fun w' hs' j x hx => ?_⟩
      rcases hr.wcell hs' hi hv with h | ⟨ad', hA', h'⟩
      · exact absurd h h0
      · rw [hA] at hA'; injection hA' with hA'; subst hA'; exact h' j x hx
theorem RdW.at1 (h : RdW W F cs f A xs) (h0 : 0 < xs.length) : ∃ ad, A = some ad ∧ ∀ w, St W F cs w → ∀ (n : Nat) (d0 : α), n < xs.length → w.cell? (ad.add n) = some (f (xs.getD n d0)) := by
  rcases h with h | ⟨ad, hA, h⟩
  · rw [h] at h0; simp at h0
  · exact ⟨ad, hA, fun w hs n d0 hn => h w hs n _ (by rw [List.getD_eq_getElem?_getD, List.getElem?_eq_getElem hn]; rfl)⟩
end B
end Go.Proofs.Ythejglgnoingfaa

namespace Go.Proofs.Ythejglgnoingfaa
open Go Go.RowKit
set_option linter.unusedVariables false
set_option linter.unusedSimpArgs false
namespace B
/-- cells, one row behind the other -/
def allK {α : Type} (d : Kd α) (G : Snap) : List α → List (List Value) → Prop
  | [], [] => True
  | x :: xs, c :: cl => d.K G x c ∧ allK d G xs cl
  | _, _ => False
theorem allK.at_ {α : Type} {d : Kd α} {G : Snap} : ∀ {xs : List α} {cl : List (List Value)}, allK d G xs cl → ∀ {i : Nat} {x : α}, xs[i]? = some x → ∃ c, d.K G x c ∧ ∀ j v, c[j]? = some v → cl.flatten[i * d.sz + j]? = some v
  | [], cl, h, i, x, hx => by cases i <;> cases hx
  | y :: ys, [], h, i, x, hx => h.elim
  | y :: ys, c :: cl, h, 0, x, hx => by
    injection hx with hx
    subst hx
    refine ⟨c, h.1, fun j v hv => ?_⟩
    rw [List.flatten_cons, Nat.zero_mul, Nat.zero_add, List.getElem?_append_left (List.getElem?_eq_some_iff.1 hv).1]
    exact hv
  | y :: ys, c :: cl, h, i + 1, x, hx => by
    obtain ⟨c', h1, h2⟩ := h.2.at_ (i := i) (x := x) hx
    refine ⟨c', h1, fun j v hv => ?_⟩
    have hl := d.len h.1
    rw [List.flatten_cons, List.getElem?_append_right (by rw [hl, Nat.succ_mul]; omega), hl, ← h2 j v hv]
    congr 1
    rw [Nat.succ_mul]
    omega
theorem RdS.blks {α : Type} {d : Kd α} {G : Snap} {b : Nat} {arr : Array Value} {E : TypeId} {fz : Nat × Nat} {xs : List α} (cl : List (List Value)) (hb : G b = some (.cells arr E fz)) (harr : arr.toList = cl.flatten) (h : allK d G xs cl) : RdS d G (some ⟨b, 0, none⟩) xs :=
  .inr ⟨_, rfl, fun i x hx => by
    obtain ⟨c, h1, h2⟩ := h.at_ hx
    refine ⟨c, h1, fun j v hv => ?_⟩
    rw [add_mk, Nat.zero_add]
    unfold cellF
    rw [hb]
    show arr[i * d.sz + j]? = some v
    rw [← Array.getElem?_toList, harr]
    exact h2 j v hv⟩
theorem RdS.ints {α : Type} {f : α → Value} {G : Snap} {b : Nat} {arr : Array Value} {E : TypeId} {fz : Nat × Nat} {xs : List α} (hb : G b = some (.cells arr E fz)) (harr : arr.toList = xs.map f) : RdS (Kd.one f) G (some ⟨b, 0, none⟩) xs := by
  refine RdS.blks (xs.map fun x => [f x]) hb ?_ ?_
  · rw [harr]
    clear harr
    induction xs with
    | nil => rfl
    | cons x xs ih => rw [List.map_cons, List.map_cons, List.flatten_cons, ih]; rfl
  · clear harr
    induction xs with
    | nil => trivial
    | cons x xs ih => exact ⟨rfl, ih⟩
end B
end Go.Proofs.Ythejglgnoingfaa

namespace Go.Proofs.Ythejglgnoingfaa
open Go Go.RowKit
set_option linter.unusedVariables false
set_option linter.unusedSimpArgs false
namespace B
section
variable {H : Type} {enc : TypeId × Value → H} {P : Program} {W : World} {base : Nat} {spare : Nat → Bool} {held : Bool} {t : TypeId} {fs : Array Field} {cs : List Value} {x : DataW H × List MemPlace} {fuel i : Nat} {f : Field} {e : TypeId}
theorem fld_rd {α : Type} (kd : Kd α) (R : α → Prop) (h : DataW.trod enc P W base spare held fuel t cs = some x) (ht : P.underlying t = some (.struct fs)) (hf : fs[i]? = some f) (hc : P.cellsOf f.type = 1) (hu : P.underlying f.type = some (.slice e)) (hce : P.cellsOf e = kd.sz)
    (elem : ∀ n cs x, cs.length = kd.sz → DataW.trod enc P W base spare held n e cs = some x → ∃ y, kd.K (fun k => W.heap[k]?) y cs ∧ R y) :
    ∃ A cap xs, cs[f.offset]? = some (.slice A xs.length cap) ∧ RdS kd (fun k => W.heap[k]?) A xs ∧ (∀ y ∈ xs, R y) ∧ xs.length ≤ cap ∧ cap ≤ maxLen := by
  obtain ⟨n, y, hy⟩ := fld_one h ht hf hc
  obtain ⟨A, cap, xs, h1, h2⟩ := open_rd kd R hu hce elem hy
  exact ⟨A, cap, xs, one_at h1, h2⟩
/-- a list of n, by its elements -/
theorem list_eq {α : Type} {l l2 : List α} (hl : l.length = l2.length) (h : ∀ j, j < l2.length → l[j]? = l2[j]?) : l = l2 := by
  apply List.ext_getElem?
  intro j
  rcases Nat.lt_or_ge j l2.length with h1 | h1
  · exact h j h1
  · rw [List.getElem?_eq_none (by omega), List.getElem?_eq_none h1]
theorem two_ {α : Type} {l : List α} {a0 a1 : α} (hl : l.length = 2) (h0 : l[0]? = some a0) (h1 : l[1]? = some a1) : l = [a0, a1] := list_eq hl fun j hj => by
  have : j = 0 ∨ j = 1 := by simp at hj; omega
  rcases this with rfl | rfl <;> assumption
theorem three_ {α : Type} {l : List α} {a0 a1 a2 : α} (hl : l.length = 3) (h0 : l[0]? = some a0) (h1 : l[1]? = some a1) (h2 : l[2]? = some a2) : l = [a0, a1, a2] := list_eq hl fun j hj => by
  have : j = 0 ∨ j = 1 ∨ j = 2 := by simp at hj; omega
  rcases this with rfl | rfl | rfl <;> assumption
theorem four_ {α : Type} {l : List α} {a0 a1 a2 a3 : α} (hl : l.length = 4) (h0 : l[0]? = some a0) (h1 : l[1]? = some a1) (h2 : l[2]? = some a2) (h3 : l[3]? = some a3) : l = [a0, a1, a2, a3] := list_eq hl fun j hj => by
  have : j = 0 ∨ j = 1 ∨ j = 2 ∨ j = 3 := by simp at hj; omega
  rcases this with rfl | rfl | rfl | rfl <;> assumption
theorem five_ {α : Type} {l : List α} {a0 a1 a2 a3 a4 : α} (hl : l.length = 5) (h0 : l[0]? = some a0) (h1 : l[1]? = some a1) (h2 : l[2]? = some a2) (h3 : l[3]? = some a3) (h4 : l[4]? = some a4) : l = [a0, a1, a2, a3, a4] := list_eq hl fun j hj => by
  have : j = 0 ∨ j = 1 ∨ j = 2 ∨ j = 3 ∨ j = 4 := by simp at hj; omega
  rcases this with rfl | rfl | rfl | rfl | rfl <;> assumption
end
end B
end Go.Proofs.Ythejglgnoingfaa

namespace Go.Proofs.Ythejglgnoingfaa
open Go Go.RowKit
set_option linter.unusedVariables false
set_option linter.unusedSimpArgs false
namespace B
section
variable {P : Program} {Z : Post} {ks : List Fr} {N : Nat} {D : List Deferred} {sl : Sl} {w : World} {ops : Array Oper} {C : World → Prop} {S : Nat → Bool} {n : Nat} {L : Array Bool}
theorem WE.op2 {i j : Nat} {oi oj : Oper} (hI : EI S C L w) (hi : ops[i]? = some oi) (hj : ops[j]? = some oj) (hr : Region.ready .any ops L = [i, j])
    (h1 : WL P ops (ZE N D (den P Z ks)) [.cut (KE P ops Z ks S C (L.setIfInBounds i true) n)] N D sl [oi] w) (h2 : WL P ops (ZE N D (den P Z ks)) [.cut (KE P ops Z ks S C (L.setIfInBounds j true) n)] N D sl [oj] w) : WE P ops Z ks N D S C sl L (n + 1) w := fun a ha =>
  ⟨hI, fun h0 => (by rw [hr] at h0; cases h0), fun k hk => by
    rw [hr] at hk
    rcases List.mem_cons.1 hk with rfl | hk
    · exact wpOp_of_WLg hi h1 ha
    · obtain rfl := List.mem_singleton.1 hk
      exact wpOp_of_WLg hj h2 ha⟩
end
/-- what is appended in a row of two cells each -/
theorem two_el {c b d : UInt8} {j : Nat} (h : [c, d][j]? = some b) : (([c, d] : List UInt8).map V8).toArray[j]? = some (V8 b) := by
  rcases j with _ | _ | j
  · have : c = b := by simpa using h
    subst this; rfl
  · have : d = b := by simpa using h
    subst this; rfl
  · simp at h
end B
end Go.Proofs.Ythejglgnoingfaa

namespace Go.Proofs.Ythejglgnoingfaa
open Go Go.RowKit
set_option linter.unusedVariables false
set_option linter.unusedSimpArgs false
namespace B
theorem WC.label {P : Program} {Z : Post} {ks : List Fr} {N : Nat} {D : List Deferred} {sl : Sl} {w : World} {l : Nat} (h : WN P Z ks N D sl w) : WC P Z ks N D sl (.label l) w := fun a ha => wp_label (h a ha)
theorem den_goto {P : Program} {Z : Post} {l : Nat} {a : Act} {w : World} : ∀ (ks : List Fr), den P Z ks (.goto l) a w → Z (.goto l) a w
  | [], h => h
  | .thn _ :: ks, h => den_goto ks h
  | .blk _ :: ks, h => den_goto ks h
  | .cut _ :: ks, h => den_goto ks h
theorem WC.scope {P : Program} {Z : Post} {ks : List Fr} {N : Nat} {D : List Deferred} {sl : Sl} {w : World} {c : Code} (hz : ∀ l a w, Z (.goto l) a w → False) (h : WC P Z ks N D sl c w) : WC P Z ks N D sl (.scope c) w := fun a ha => by
  refine wp_scope_straight (wp_mono (h a ha) ?_)
  intro e a' w' hq
  cases e with
  | goto l => exact hz _ _ _ (den_goto ks hq)
  | normal => exact hq
  | exit id => exact hq
  | ret => exact hq
  | panic ch => exact hq
  | outgrown => exact hq
abbrev mk_ (D : Nat) : Deferred := { target := .collected D, args := #[] }
section
variable {P : Program} {Z : Post} {ks : List Fr} {N : Nat} {D : List Deferred} {sl : Sl} {W w : World} {F : Snap} {cs : List Res} {ops : Array Oper} {rest : List Oper} {l : Nat} {t : TypeId} {pos : String} {af : Array Edge}
/-! ### the function's door, and its way out -/
theorem enterM {f : FuncId} {fn : Func} {c : Code} {args : List Value} {R : Ending → World → Prop} (hf : P.funcs[f]? = some fn) (hb : fn.body = some c) (hN : fn.ntmps = N) (hn : Nat.ble args.length N = true)
    (h : WC P (bodyPostM Fence.wide 1 P fn R) [] N [] (slots 0 args) c w) : Calls P f args.toArray w R := by
  have hn := Nat.le_of_ble_eq_true hn
  refine (callsIn_wide (n := 1)).1 (callsIn_of_wp_marks hf hb trivial (wpIn_wide.2 (h _ ⟨rfl, by simp [hN]; omega, fun d v hl => ?_⟩)))
  obtain ⟨j, hj, hv⟩ := lk_slots args 0 d v hl
  have hlt : j < args.length := (List.getElem?_eq_some_iff.1 hv).1
  simp only [Nat.zero_add] at hj
  subst hj
  rw [Array.getElem?_append_left (by simpa using hlt)]
  simpa using hv
theorem St.shut {Dd : Nat} {ds : List Deferred} (h : St W F cs w) {i : Nat} (hi : cs[i]? = some [(Dd, .deferred (some ds))]) : St W F (cs.eraseIdx i) (w.putObj Dd (.deferred none)) := by
  have := h.set1 hi (.deferred none)
  have h2 := this.drop i
  rwa [List.eraseIdx_set_eq] at h2
theorem St.blkOf (h : St W F cs w) {b i : Nat} {o : Obj} (hi : cs[i]? = some [(b, o)]) : w.heap[b]? = some o := by
  obtain ⟨l1, l2, e1, _, _⟩ := split_at cs i _ hi
  subst e1
  exact (h.own (b, o) (by simp)).1
theorem retM {fn : Func} {R : Ending → World → Prop} {Dd i : Nat} {v : Value} (h : St W F cs w) (hi : cs[i]? = some [(Dd, .deferred (some []))])
    (hv : ∀ a w', Ag N [mk_ Dd] sl a → St W F (cs.eraseIdx i) w' → (results fn a.tmps).run P w' = .ok v w') (hR : ∀ w', St W F (cs.eraseIdx i) w' → R (.returned v) w') : ∀ a, Ag N [mk_ Dd] sl a → bodyPostM Fence.wide 1 P fn R .ret a w := fun a ha => by
  show LeavesInM Fence.wide 1 P fn a.tmps R a.defers .returning w
  rw [ha.df]
  exact ⟨by simp, .inl ⟨Dd, _, rfl, run_takeDeferred (h.blkOf hi), v, hv a _ ha (h.shut hi), hR _ (h.shut hi)⟩⟩
theorem retM1 {fn : Func} {R : Ending → World → Prop} {Dd i : Nat} {tt : Tmp} {v : Value} (h : St W F cs w) (hi : cs[i]? = some [(Dd, .deferred (some []))]) (hr : fn.results = #[.tmp tt]) (hv : lk sl tt = some v) (hR : ∀ w', St W F (cs.eraseIdx i) w' → R (.returned v) w') : ∀ a, Ag N [mk_ Dd] sl a → bodyPostM Fence.wide 1 P fn R .ret a w :=
  retM h hi (fun a w' ha _ => by rw [results_tmp hr]; have := ha.ag tt v hv; simp [Array.getD_eq_getD_getElem?, this]) hR
theorem retM2 {fn : Func} {R : Ending → World → Prop} {Dd i : Nat} {tt u : Tmp} {v x : Value} (h : St W F cs w) (hi : cs[i]? = some [(Dd, .deferred (some []))]) (hr : fn.results = #[.tmp tt, .tmp u]) (hv : lk sl tt = some v) (hx : lk sl u = some x) (hR : ∀ w', St W F (cs.eraseIdx i) w' → R (.returned (.tuple #[v, x])) w') : ∀ a, Ag N [mk_ Dd] sl a → bodyPostM Fence.wide 1 P fn R .ret a w :=
  retM h hi (fun a w' ha _ => by rw [results_tmp2 hr]; have h1 := ha.ag tt v hv; have h2 := ha.ag u x hx; simp [Array.getD_eq_getD_getElem?, h1, h2]) hR
/-! ### the statement -/
theorem enters_ {f : FuncId} {fn : Func} {c : Code} (hf : P.funcs[f]? = some fn) (hname : (fn.name == "runtime.NumGoroutine") = false) (hb : fn.body = some c) (args : Array Value) (w : World) : (callFunc f args).run P w = .ok (.enter f args) w := by
  have h1 : fn.name ≠ "runtime.NumGoroutine" := by simpa using hname
  simp [callFunc, hf, h1, hb, mark]
abbrev lrec (fn : FuncId) (tm : Array Value) (ps : Array Tmp) (assign body : Code) (Dd : Nat) (s : LoopState) : Loop := { state := s, pending := none, fn, tmps := tm, params := ps, assign, body, defers := Dd }
theorem WC.range {σ : Type} {g : Operand} {ps : Array Tmp} {assign body : Code} {gf : FuncId} {lb : Array Value} (J : σ → Prop) (G : σ → Snap) (RR : σ → List Res) (h : St W F cs w) (hg : evs sl g = some (.func (.func gf) #[] lb)) (eg : ∀ args w, (callFunc gf args).run P w = .ok (.enter gf args) w)
    (hcall : ∀ (fn : FuncId) (tm : Array Value) (l Dd : Nat) (w1 : World), (∀ d v, lk sl d = some v → tm[d]? = some v) → tm.size = N → St W F ([(l, .loop (lrec fn tm ps assign body Dd .ready))] :: [(Dd, .deferred (some []))] :: cs) w1 →
      Calls P gf (#[.func (.yield l) #[] #[]] ++ lb) w1 fun e w' => (∃ v, e = .returned v) ∧ ∃ s, J s ∧ St W (G s) ([(l, .loop (lrec fn tm ps assign body Dd .ready))] :: [(Dd, .deferred (some []))] :: RR s) w')
    (hk : ∀ s Dd w', J s → St W (G s) ([(Dd, .deferred (some []))] :: RR s) w' → WN P Z ks N (mk_ Dd :: D) sl w') : WC P Z ks N D sl (.rangeFunc g ps assign body) w := fun a ha => by
  refine (wpIn_wide (n := 1)).1 (wpIn_rangeFunc fun fn _ => ?_)
  have hgv := ha.ev hg
  have h1 : St W F ([(w.heap.size + 1, .loop (lrec fn a.tmps ps assign body w.heap.size .ready))] :: [(w.heap.size, .deferred (some []))] :: cs) ((w.alloc (.deferred (some []))).alloc (.loop (lrec fn a.tmps ps assign body w.heap.size .ready))) := by
    have h2 := (h.alloc (.deferred (some []))).alloc (.loop (lrec fn a.tmps ps assign body w.heap.size .ready))
    rw [World.size_alloc] at h2
    exact h2
  obtain ⟨W1, hW1⟩ : ∃ W1, (w.alloc (.deferred (some []))).alloc (.loop (lrec fn a.tmps ps assign body w.heap.size .ready)) = W1 := ⟨_, rfl⟩
  have henter : (Instr.enterLoop fn a.tmps ps assign body Fence.wide.round).run P w = .ok (w.heap.size + 1, [mk_ w.heap.size]) W1 := by
    rw [← hW1]; exact run_enterLoop_outer _ _ _ _ _
  rw [hW1] at h1
  clear hW1
  refine ⟨w.heap.size + 1, [mk_ w.heap.size], W1, { target := .fn (.func gf) lb, args := #[.func (.yield (w.heap.size + 1)) #[] #[]] }, W1, gf, #[.func (.yield (w.heap.size + 1)) #[] #[]] ++ lb, W1, henter, ?_, fun _ _ => trivial, ?_, fun h => (by cases h), ?_⟩
  · simp only [resolve, hgv]
    simp [go_sem]
  · simp [invoke, go_sem, eg]
  · refine (callsIn_wide (n := 1 - 1)).2 ((hcall fn a.tmps _ _ _ ha.ag ha.sz h1).mono ?_)
    rintro e w' ⟨⟨v, rfl⟩, s, hJ, hS⟩
    have hl := hS.blkOf (i := 0) rfl
    refine ⟨none, _, run_endLoop hl (by simp [lrec]), ?_⟩
    have hS2 := hS.set1 (i := 0) rfl (.loop { lrec fn a.tmps ps assign body w.heap.size .ready with state := .exhausted })
    exact hk s _ _ hJ (hS2.drop 0) _ ⟨by rw [← ha.df]; rfl, ha.sz, ha.ag⟩
/-! ### the closure's side: a call of yield -/
def WI (P : Program) (ops : Array Oper) (Z : Post) (ks : List Fr) (N : Nat) (D : List Deferred) (sl : Sl) (rest : List Oper) (w : World) : Prop :=
  ∀ a, Ag N D sl a → wpListIn Fence.wide 2 P ops (den P Z ks) rest a w
theorem WC.regI {id : Nat} {l : List Oper} (h : WI P l.toArray Z ks N D sl l w) : WC P Z ks N D sl (.region id l.toArray false) w := fun a ha => (wpIn_wide (n := 2)).1 (wpIn_region_lit (h a ha))
theorem WI.nil (h : WN P Z ks N D sl w) : WI P ops Z ks N D sl [] w := fun a ha => wpListIn_nil (h a ha)
theorem WI.v {d : Nat} {op : Op} {v : Value} (h : Runs P sl op t w v) (hd : Nat.ble (d + 1) N = true) (k : WI P ops Z ks N D ((d, v) :: sl) rest w) :
    WI P ops Z ks N D sl ({ dst := some d, op := op, type := t, pos := pos, after := af, guard := none } :: rest) w := fun a ha =>
  wpListIn_plain rfl fun K hK => by
    refine ⟨fun _ _ => trivial, ?_⟩
    rw [show Fence.wide.round = none from rfl, Oper.semAt_none, h a.eval (fun x v hx => ha.ev hx) _ rfl rfl]
    exact hK _ _ (k _ (ha.put (Nat.le_of_ble_eq_true hd) v))
theorem WI.yield {d : Nat} {x y z : Operand} {u v : Value} {ts : Array TypeId} {R : Ending → World → Prop} (hx : evs sl x = some (.func (.yield l) #[] #[])) (hy : evs sl y = some u) (hz : evs sl z = some v) (hY : YieldAt Fence.wide 1 P l #[u, v] w R)
    (hd : Nat.ble (d + 1) N = true) (k : ∀ e w', R e w' → ∃ b, e = .returned b ∧ WI P ops Z ks N D ((d, b) :: sl) rest w') :
    WI P ops Z ks N D sl ({ dst := some d, op := .call { callee := .value x, args := #[y, z], argTypes := ts }, type := t, pos := pos, after := af, guard := none } :: rest) w := fun a ha =>
  wpListIn_plain rfl fun K hK => by
    obtain ⟨fn, tm, as, bd, h1, h2⟩ := hY
    refine ⟨fun _ _ => trivial, ?_⟩
    rw [show Fence.wide.round = none from rfl, Oper.semAt_none]
    have hrun : (execOp a.eval { dst := some d, op := .call { callee := .value x, args := #[y, z], argTypes := ts }, type := t, pos := pos, after := af, guard := none }).run P w = .ok (.round l fn tm as bd) w := by
      have e1 := ha.ev hx
      have e2 := ha.ev hy
      have e3 := ha.ev hz
      generalize a.eval = ρ at e1 e2 e3 ⊢
      simp only [execOp, resolve, e1]
      simp [go_sem, e2, e3, h1]
    rw [hrun]
    refine ⟨fun h => (by cases h), h2.mono fun e w' hR => ?_⟩
    obtain ⟨b, rfl, hk⟩ := k e w' hR
    exact hK _ _ (hk _ (ha.put (Nat.le_of_ble_eq_true hd) b))
/-! ### a round -/
def denR (l : Nat) (P : Program) (Z : Post) : List Fr → Post
  | [] => Z
  | .thn c :: ks => Exit.then (fun a w => c.wpIn (Fence.wide.inRound l) 1 P (denR l P Z ks) a w) (denR l P Z ks)
  | .blk id :: ks => Exit.inBlock id (denR l P Z ks)
  | .cut R :: ks => Exit.then R (denR l P Z ks)
def NoOut (Z : Post) : Prop := ∀ a w, ¬ Z .outgrown a w
theorem denR_out (hZ : NoOut Z) : ∀ ks, NoOut (denR l P Z ks)
  | [] => hZ
  | .thn _ :: ks => fun a w h => denR_out hZ ks a w h
  | .blk _ :: ks => fun a w h => denR_out hZ ks a w h
  | .cut _ :: ks => fun a w h => denR_out hZ ks a w h
def RC (l : Nat) (P : Program) (Z : Post) (ks : List Fr) (N : Nat) (D : List Deferred) (sl : Sl) (c : Code) (w : World) : Prop := ∀ a, Ag N D sl a → c.wpIn (Fence.wide.inRound l) 1 P (denR l P Z ks) a w
def RN (l : Nat) (P : Program) (Z : Post) (ks : List Fr) (N : Nat) (D : List Deferred) (sl : Sl) (w : World) : Prop := ∀ a, Ag N D sl a → denR l P Z ks .normal a w
theorem RC.seq {x y : Code} (h : RC l P Z (.thn y :: ks) N D sl x w) : RC l P Z ks N D sl (.seq x y) w := fun a ha => wpIn_seq (h a ha)
theorem RC.block {id : Nat} {c : Code} (h : RC l P Z (.blk id :: ks) N D sl c w) : RC l P Z ks N D sl (.block id c) w := fun a ha => wpIn_block (h a ha)
theorem RC.skip (h : RN l P Z ks N D sl w) : RC l P Z ks N D sl .skip w := fun a ha => wpIn_skip (h a ha)
theorem RC.cond {c : Operand} {x y : Code} {t : Bool} (hc : evs sl c = some (.bool t)) (ht : t = true → RC l P Z ks N D sl x w) (hf : t = false → RC l P Z ks N D sl y w) : RC l P Z ks N D sl (.cond c x y) w :=
  fun a ha => wpIn_cond (ha.ev hc) (by cases t with
    | true => exact ht rfl a ha
    | false => exact hf rfl a ha)
theorem RC.condT {c : Operand} {x y : Code} {t : Bool} (hc : evs sl c = some (.bool t)) (e : t = true) (h : RC l P Z ks N D sl x w) : RC l P Z ks N D sl (.cond c x y) w :=
  RC.cond hc (fun _ => h) (fun e' => by rw [e] at e'; cases e')
theorem RC.condF {c : Operand} {x y : Code} {t : Bool} (hc : evs sl c = some (.bool t)) (e : t = false) (h : RC l P Z ks N D sl y w) : RC l P Z ks N D sl (.cond c x y) w :=
  RC.cond hc (fun e' => by rw [e] at e'; cases e') (fun _ => h)
theorem RC.sub {s : Sl} {c : Code} (hs : Sub s sl) (h : RC l P Z ks N D s c w) : RC l P Z ks N D sl c w := fun a ha => h a (ha.sub hs)
theorem RN.thn {y : Code} (h : RC l P Z ks N D sl y w) : RN l P Z (.thn y :: ks) N D sl w := h
theorem RN.blk {id : Nat} (h : RN l P Z ks N D sl w) : RN l P Z (.blk id :: ks) N D sl w := h
def noDefer : Op → Bool
  | .defer _ => false
  | _ => true
theorem list_in {Q : Post} (hQ : NoOut Q) : ∀ (rest : List Oper) (a : Act) (w : World), (rest.all fun o => noDefer o.op) = true → wpList P ops Q rest a w → wpListIn (Fence.wide.inRound l) 1 P ops Q rest a w
  | [], _, _, _, h => h
  | o :: rest, a, w, hd, h => by
    rw [List.all_cons, Bool.and_eq_true] at hd
    have ih := list_in hQ rest
    have hno : ∀ c, o.op ≠ .defer c := fun c e => by have := hd.1; rw [e] at this; cases this
    unfold wpList at h
    unfold wpListIn
    split
    · rename_i hw
      rw [if_pos hw] at h
      rcases h with h | ⟨_, a0, w0, h⟩
      · refine ⟨fun _ _ => trivial, ?_⟩
        rw [show (Fence.wide.inRound l).round = some l from rfl, Oper.semAt_some l _ o hno]
        unfold Oper.wp at h
        generalize (execOp a.eval o).run P w = r at *
        cases r with
        | ok n w' =>
          cases n <;> simp only [Oper.upon] at h
          case value u => exact ih _ _ hd.2 h
          case skip => exact ih _ _ hd.2 h
          case defer d => exact ih _ _ hd.2 h
          case enter f args =>
            refine ⟨fun h => (by cases h), CallsIn.inRound l ((callsIn_wide (n := 0)).2 (h.mono fun e w'' hh => ?_))⟩
            cases e with
            | returned u => exact ih _ _ hd.2 hh
            | panicked ch => exact hh
            | outgrown => exact hh
          case row row args =>
            refine ⟨fun h => (by cases h), fun c cs _ => ?_⟩
            obtain ⟨v, w'', r, s⟩ := h c cs
            exact ⟨v, w'', ih _ _ hd.2 r, stepsIn_wide.2 s⟩
        | halt hh w' =>
          cases hh <;> simp only [Oper.upon] at h
          case panic u => exact h
      · exact (hQ _ _ h).elim
    · rename_i hw
      rw [if_neg hw] at h
      exact ⟨fun _ _ => trivial, ih _ _ hd.2 h⟩
theorem RC.reg {id : Nat} {L : List Oper} (hZ : NoOut Z) (hd : (L.all fun o => noDefer o.op) = true) (h : WL P L.toArray (denR l P Z ks) [] N D sl L w) : RC l P Z ks N D sl (.region id L.toArray false) w := fun a ha =>
  wpIn_region_lit (list_in (denR_out hZ ks) L a w hd (h a ha))
theorem RN.wn (h : RN l P Z ks N D sl w) : WN P (denR l P Z ks) [] N D sl w := h
/-- the left sides are assigned; the round begins -/
def begP (l : Nat) (P : Program) (body : Code) (R : Ending → World → Prop) : Post := Exit.then (fun a₁ w₁ => ∃ w₂, (Instr.beginRound l).run P w₁ = .ok () w₂ ∧ body.wpIn (Fence.wide.inRound l) 1 P (roundPost P l R) a₁ w₂) (fun _ _ _ => False)
theorem begP_out {body : Code} {R : Ending → World → Prop} : NoOut (begP l P body R) := fun _ _ h => h
theorem rndP_out {R : Ending → World → Prop} : NoOut (roundPost P l R) := fun _ _ h => h
theorem yield_c {rec : Loop} {R : Ending → World → Prop} {u v : Value} {p q i : Nat} (h : St W F cs w) (hi : cs[i]? = some [(l, .loop rec)]) (hps : rec.params = #[p, q]) (hs : rec.tmps.size = N) (hl : ∀ d v, lk sl d = some v → rec.tmps[d]? = some v) (hp : Nat.ble (p + 1) N = true) (hq : Nat.ble (q + 1) N = true)
    (k : RC l P (begP l P rec.body R) [] N [] ((q, v) :: (p, u) :: sl) rec.assign w) : YieldAt Fence.wide 1 P l #[u, v] w R := by
  refine ⟨_, _, _, _, run_yield (h.blkOf hi) (by rw [hps]; rfl), roundIn_of_wpIn (n := 1) trivial ?_⟩
  have ha : Ag N [] sl ({ tmps := rec.tmps, defers := [] } : Act) := ⟨rfl, hs, hl⟩
  have ha2 := (ha.put (Nat.le_of_ble_eq_true hp) u).put (Nat.le_of_ble_eq_true hq) v
  have := k _ ha2
  have e : (rec.params.zip #[u, v]).foldl (fun tmps (t, a) => tmps.setIfInBounds t a) rec.tmps = (rec.tmps.setIfInBounds p u).setIfInBounds q v := by rw [hps]; simp
  rw [e]
  exact this
theorem RN.beg {rec : Loop} {body : Code} {R : Ending → World → Prop} {i : Nat} (h : St W F cs w) (hi : cs[i]? = some [(l, .loop rec)]) (hst : rec.state = .ready) (k : ∀ w', St W F (cs.set i [(l, .loop { rec with state := .busy })]) w' → RC l P (roundPost P l R) [] N D sl body w') : RN l P (begP l P body R) [] N D sl w := fun a ha =>
  ⟨_, run_beginRound (h.blkOf hi) hst, k _ (h.set1 hi _) a ha⟩
theorem RN.fin {rec : Loop} {R : Ending → World → Prop} {i : Nat} (h : St W F cs w) (hi : cs[i]? = some [(l, .loop rec)]) (k : ∀ w', St W F (cs.set i [(l, .loop { rec with state := .ready, pending := none })]) w' → R (.returned (.bool true)) w') : RN l P (roundPost P l R) [] N D sl w := fun a ha =>
  ⟨_, _, run_endRound none (h.blkOf hi), k _ (h.set1 hi _)⟩
end
end B
end Go.Proofs.Ythejglgnoingfaa

namespace Go.Proofs.Ythejglgnoingfaa
open Go Go.RowKit
set_option linter.unusedVariables false
set_option linter.unusedSimpArgs false
namespace B
def RowM {α : Type} (E : TypeId) (m : Nat) (f : α → List Value) (r : Res) (v : Value) (xs : List α) : Prop := IsRow E m r v xs.length (xs.flatMap f)
theorem RowM.nil {α : Type} (E : TypeId) (m : Nat) (f : α → List Value) : RowM E m f [] (.slice none 0 0) [] := IsRow.nil E m
theorem RowM.val {α : Type} {E : TypeId} {m : Nat} {f : α → List Value} {r : Res} {v : Value} {xs : List α} (h : RowM E m f r v xs) : ∃ A cap, v = .slice A xs.length cap ∧ xs.length ≤ cap := IsRow.val h
section
variable {P : Program} {Z : Post} {ks : List Fr} {N : Nat} {D : List Deferred} {sl : Sl} {W w : World} {ops : Array Oper} {rest : List Oper} {F G : Snap} {cs : List Res} {t t' T T' E : TypeId} {x y : Operand} {v zv : Value} {pos : String} {af : Array Edge} {bytes m : Nat} {α : Type} {f : α → List Value}
theorem WL.appM (i : Nat) (h : St W F cs w) {r : Res} (hi : cs[i]? = some r) {d : Nat} (hd : Nat.ble (d + 1) N = true) {xv : Value} {n : Nat} {xs ys : List α} {d' : TypeDesc} (hx : evs sl x = some v) (hy : evs sl y = some xv)
    (ht : P.underlying T = some (.slice E)) (ht' : P.underlying T' = some d') (hd' : d' = .string ∨ ∃ e, d' = .slice e) (hE : ElemOk P E m bytes)
    (hr : RowM E m f r v xs) (hs : Src P w m xv n (ys.flatMap f)) (hn : n = ys.length) (hsmall : (4 * (xs.length + n) + 4096) * bytes ≤ 281474976710656) (hnm : xs.length + n ≤ 9223372036854775807)
    (k : ∀ r' v' w', RowM E m f r' v' (xs ++ ys) → St W F (cs.set i r') w' → WL P ops Z ks N D ((d, v') :: sl) rest w') :
    WL P ops Z ks N D sl ({ dst := some d, op := .call { callee := .builtin .append, args := #[x, y], argTypes := #[T, T'] }, type := t, pos := pos, after := af, guard := none } :: rest) w := by
  subst hn
  refine WL.append i h hi hd hx hy ht ht' hd' hE hr hs hsmall hnm (fun r' v' w' h1 h2 => k r' v' w' ?_ h2)
  unfold RowM
  rw [List.length_append, List.flatMap_append]
  exact h1
theorem Src.litM {b n c : Nat} {arr : Array Value} {tt : TypeId} {fz : Nat × Nat} (h : St W F cs w) (i : Nat) (hi : cs[i]? = some [(b, .cells arr tt fz)]) (hm : arr.size = n * m) (h1 : arr.toList.all one_ = true) : Src P w m (.slice (some ⟨b, 0, none⟩) n c) n arr.toList :=
  Src.slice (by simp [hm]) (.inr ⟨_, rfl, fun j u hu => by rw [add_mk, Nat.zero_add]; exact h.ocell hi (by simpa using hu)⟩) h1
theorem allK_map {α : Type} {m : Nat} {f : α → List Value} (hf : ∀ x, (f x).length = m) (G : Snap) : ∀ xs : List α, allK (Kd.rows m f hf) G xs (xs.map f)
  | [] => trivial
  | x :: xs => ⟨rfl, allK_map hf G xs⟩
theorem RowM.read (hf : ∀ x, (f x).length = m) {r : Res} {xs : List α} {A : Option Addr} {n cap : Nat} (hr : RowM E m f r v xs) (hv : v = .slice A n cap) (hG : ∀ p ∈ r, G p.1 = some p.2) : RdS (Kd.rows m f hf) G A xs := by
  rcases hr with ⟨rfl, rfl, hl, _⟩ | ⟨b, cap', arr, fz, rfl, rfl, hs, hn, hc, _⟩
  · exact .inl (List.eq_nil_of_length_eq_zero hl)
  · injection hv with hA
    refine .inr ⟨⟨b, 0, none⟩, hA.symm, fun i x hx => ?_⟩
    obtain ⟨c, h1, h2⟩ := (allK_map hf G xs).at_ hx
    refine ⟨c, h1, fun j u hj => ?_⟩
    have h3 := h2 j u hj
    rw [← List.flatMap_def, hc, List.getElem?_take] at h3
    have hb : G b = some (.cells arr E fz) := hG (b, .cells arr E fz) (by simp)
    rw [add_mk, Nat.zero_add]
    unfold cellF
    rw [hb]
    split at h3
    · simpa using h3
    · cases h3
/-- what the call's own block held is let go -/
theorem St.setNil (h : St W F cs w) {i : Nat} (hi : i < cs.length) : St W F (cs.set i []) w := by
  have h1 := (h.drop i).nilRes
  rw [List.eraseIdx_eq_take_drop_succ] at h1
  rw [List.set_eq_take_append_cons_drop, if_pos hi]
  exact h1.perm List.perm_middle
/-- a slice of rows that never changes any more, as it is appended -/
theorem Src.rdM {hf : ∀ x, (f x).length = m} {A : Option Addr} {xs : List α} {n cap : Nat} (hr : RdS (Kd.rows m f hf) F A xs) (h : St W F cs w) (hn : n = xs.length) (h1 : ∀ x, (f x).all one_ = true) : Src P w m (.slice A n cap) xs.length (xs.flatMap f) := by
  subst hn
  have hlen : (xs.flatMap f).length = xs.length * m := by
    clear hr
    induction xs with
    | nil => simp
    | cons x xs ih => rw [List.flatMap_cons, List.length_append, hf, ih, List.length_cons, Nat.succ_mul, Nat.add_comm]
  refine Src.slice hlen ?_ (by rw [List.all_eq_true]; intro u hu; obtain ⟨x, _, h2⟩ := List.mem_flatMap.1 hu; exact List.all_eq_true.1 (h1 x) u h2)
  rcases hr with hr | ⟨ad, hA, hr⟩
  · exact .inl (by rw [hr]; rfl)
  · refine .inr ⟨ad, hA, fun j u hu => ?_⟩
    clear hlen
    have key : ∀ (xs : List α) (j : Nat) (u : Value), (xs.flatMap f)[j]? = some u → ∃ i x k, xs[i]? = some x ∧ (f x)[k]? = some u ∧ j = i * m + k := by
      intro xs
      induction xs with
      | nil => intro j u hu; simp at hu
      | cons x xs ih =>
        intro j u hu
        rw [List.flatMap_cons] at hu
        by_cases hj : j < m
        · rw [List.getElem?_append_left (by rw [hf]; exact hj)] at hu
          exact ⟨0, x, j, rfl, hu, by omega⟩
        · rw [List.getElem?_append_right (by rw [hf]; omega), hf] at hu
          obtain ⟨i, y, k, h1, h2, h3⟩ := ih _ _ hu
          exact ⟨i + 1, y, k, h1, h2, by rw [Nat.succ_mul]; omega⟩
    obtain ⟨i, x, k, hx, hk, rfl⟩ := key xs j u hu
    obtain ⟨c, hc1, hc2⟩ := hr i x hx
    have hc1 : c = f x := hc1
    subst hc1
    exact h.cell (hc2 k u hk)
end
end B
end Go.Proofs.Ythejglgnoingfaa

namespace Go.Proofs.Ythejglgnoingfaa
open Go Go.RowKit
set_option linter.unusedVariables false
set_option linter.unusedSimpArgs false
namespace B
section
variable {α β : Type} {W w : World} {F G : Snap} {cs : List Res} {A : Option Addr} {xs : List α} {E : TypeId} {r : Res} {v : Value} {n cap i m : Nat}
def RdK (d : Kd α) (W : World) (F : Snap) (cs : List Res) (A : Option Addr) (xs : List α) : Prop :=
  xs = [] ∨ ∃ ad, A = some ad ∧ ∀ i x, xs[i]? = some x → ∃ c, d.K F x c ∧ ∀ w, St W F cs w → ∀ j v, c[j]? = some v → w.cell? (ad.add (i * d.sz + j)) = some v
theorem RdK.of {d : Kd α} (h : RdS d F A xs) : RdK d W F cs A xs := by
  rcases h with h | ⟨ad, hA, h⟩
  · exact .inl h
  · refine .inr ⟨ad, hA, fun i x hx => ?_⟩
    obtain ⟨c, h1, h2⟩ := h i x hx
    exact ⟨c, h1, fun w hs j v hj => hs.cell (h2 j v hj)⟩
theorem RdK.push {d : Kd α} (h : RdK d W F cs A xs) : RdK d W F (r :: cs) A xs := by
  rcases h with h | ⟨ad, hA, h⟩
  · exact .inl h
  · refine .inr ⟨ad, hA, fun i x hx => ?_⟩
    obtain ⟨c, h1, h2⟩ := h i x hx
    exact ⟨c, h1, fun w hs => h2 w (hs.drop 0)⟩
theorem RdK.mono {d : Kd α} (hle : Le F G) (h : RdK d W F cs A xs) : RdK d W G cs A xs := by
  rcases h with h | ⟨ad, hA, h⟩
  · exact .inl h
  · refine .inr ⟨ad, hA, fun i x hx => ?_⟩
    obtain ⟨c, h1, h2⟩ := h i x hx
    exact ⟨c, d.mono hle h1, fun w hs => h2 w (hs.weak hle)⟩
theorem RdK.at_ {d : Kd α} (h : RdK d W F cs A xs) (d0 : α) (hi : i < xs.length) : ∃ ad c, A = some ad ∧ d.K F (xs.getD i d0) c ∧ ∀ w, St W F cs w → ∀ j v, c[j]? = some v → w.cell? (ad.add (i * d.sz + j)) = some v := by
  rcases h with h | ⟨ad, hA, h⟩
  · rw [h] at hi; simp at hi
  · obtain ⟨c, h1, h2⟩ := h i (xs.getD i d0) (by rw [List.getD_eq_getElem?_getD, List.getElem?_eq_getElem hi]; rfl)
    exact ⟨ad, c, hA, h1, h2⟩
theorem flat_cell {f : α → List Value} (hf : ∀ x, (f x).length = m) : ∀ (xs : List α) (i : Nat) (x : α) (j : Nat) (u : Value), xs[i]? = some x → (f x)[j]? = some u → (xs.flatMap f)[i * m + j]? = some u
  | y :: ys, 0, x, j, u, hx, hu => by
    injection hx with hx
    subst hx
    rw [List.flatMap_cons, Nat.zero_mul, Nat.zero_add, List.getElem?_append_left (List.getElem?_eq_some_iff.1 hu).1]
    exact hu
  | y :: ys, i + 1, x, j, u, hx, hu => by
    rw [List.flatMap_cons, List.getElem?_append_right (by rw [hf, Nat.succ_mul]; omega), hf, show (i + 1) * m + j - m = i * m + j by rw [Nat.succ_mul]; omega]
    exact flat_cell hf ys i x j u hx hu
/-- a row of the call's own -/
theorem RdK.row {d : Kd β} {f : α → List Value} {er : α → β} {es : List α} (hf : ∀ x, (f x).length = m) (hd : d.sz = m) (hr : RowM E m f r v es) (hi : cs[i]? = some r) (hv : v = .slice A n cap) (hk : ∀ e ∈ es, d.K F (er e) (f e)) : RdK d W F cs A (es.map er) := by
  rcases hr with ⟨rfl, rfl, hl, _⟩ | ⟨b, cap', arr, fz, rfl, rfl, hs, hn, hc, _⟩
  · exact .inl (by rw [List.eq_nil_of_length_eq_zero hl]; rfl)
  · injection hv with hA
    refine .inr ⟨⟨b, 0, none⟩, hA.symm, fun k x hx => ?_⟩
    rw [List.getElem?_map] at hx
    obtain ⟨e, he, rfl⟩ := Option.map_eq_some_iff.1 hx
    refine ⟨f e, hk e (List.mem_of_getElem? he), fun w hw j u hu => ?_⟩
    have h1 := flat_cell hf es k e j u he hu
    rw [hc, List.getElem?_take] at h1
    rw [hd, add_mk, Nat.zero_add]
    split at h1
    · exact hw.ocell hi (by simpa using h1)
    · cases h1
/-- elements with what is known of their cells -/
theorem RdS.pick {d : Kd β} {f : α → List Value} {er : α → β} {P : α → Prop} (hf : ∀ x, (f x).length = d.sz) (hk : ∀ y c, d.K F y c → ∃ e, er e = y ∧ c = f e ∧ P e) {ys : List β} (h : RdS d F A ys) : ∃ es : List α, es.map er = ys ∧ RdS (Kd.rows d.sz f hf) F A es ∧ ∀ e ∈ es, P e := by
  rcases h with h | ⟨ad, hA, h⟩
  · subst h
    exact ⟨[], rfl, .inl rfl, fun e he => by cases he⟩
  · have key : ∀ (ys : List β) (b : Nat), (∀ i y, ys[i]? = some y → ∃ c, d.K F y c ∧ ∀ j v, c[j]? = some v → cellF F (ad.add ((b + i) * d.sz + j)) = some v) → ∃ es : List α, es.map er = ys ∧ (∀ i e, es[i]? = some e → ∀ j v, (f e)[j]? = some v → cellF F (ad.add ((b + i) * d.sz + j)) = some v) ∧ ∀ e ∈ es, P e := by
      intro ys
      induction ys with
      | nil => exact fun b _ => ⟨[], rfl, fun i e he => by simp at he, fun e he => by cases he⟩
      | cons y ys ih =>
        intro b hb
        obtain ⟨c, h1, h2⟩ := hb 0 y rfl
        obtain ⟨e, rfl, rfl, hP⟩ := hk y c h1
        obtain ⟨es, e1, e2, e3⟩ := ih (b + 1) (fun i y hy => by
          obtain ⟨c, h3, h4⟩ := hb (i + 1) y hy
          exact ⟨c, h3, fun j v hj => by rw [show b + 1 + i = b + (i + 1) by omega]; exact h4 j v hj⟩)
        refine ⟨e :: es, by rw [List.map_cons, e1], fun i e' he j v hj => ?_, fun e' he => ?_⟩
        · cases i with
          | zero => injection he with he; subst he; exact h2 j v hj
          | succ i => rw [show b + (i + 1) = b + 1 + i by omega]; exact e2 i e' he j v hj
        · rcases List.mem_cons.1 he with rfl | he
          · exact hP
          · exact e3 e' he
    obtain ⟨es, e1, e2, e3⟩ := key ys 0 (fun i y hy => by
      obtain ⟨c, h3, h4⟩ := h i y hy
      exact ⟨c, h3, fun j v hj => by rw [Nat.zero_add]; exact h4 j v hj⟩)
    refine ⟨es, e1, .inr ⟨ad, hA, fun i e he => ⟨f e, rfl, fun j v hj => ?_⟩⟩, e3⟩
    have := e2 i e he j v hj
    rwa [Nat.zero_add] at this
/-- back again -/
theorem RdS.unpick {d : Kd β} {f : α → List Value} {er : α → β} {hf : ∀ x, (f x).length = d.sz} {es : List α} (h : RdS (Kd.rows d.sz f hf) F A es) (hk : ∀ e ∈ es, d.K F (er e) (f e)) : RdS d F A (es.map er) := by
  rcases h with h | ⟨ad, hA, h⟩
  · exact .inl (by rw [h]; rfl)
  · refine .inr ⟨ad, hA, fun i y hy => ?_⟩
    rw [List.getElem?_map] at hy
    obtain ⟨e, he, rfl⟩ := Option.map_eq_some_iff.1 hy
    obtain ⟨c, h1, h2⟩ := h i e he
    have h1 : c = f e := h1
    subst h1
    exact ⟨_, hk e (List.mem_of_getElem? he), h2⟩
theorem RowM.lit0 {f : α → List Value} {b : Nat} : RowM E m f [(b, .cells #[] E (0, 0))] (.slice (some ⟨b, 0, none⟩) 0 0) [] :=
  .inr ⟨b, 0, #[], (0, 0), rfl, rfl, by simp, Nat.le_refl _, by simp, Free.zero _⟩
theorem flat_set {f : α → List Value} (hf : ∀ x, (f x).length = m) {k : Nat} (hk : k < m) : ∀ (xs : List α) (n : Nat) (x x' : α) (u : Value), xs[n]? = some x → f x' = (f x).set k u → (xs.set n x').flatMap f = (xs.flatMap f).set (n * m + k) u
  | y :: ys, 0, x, x', u, hx, hu => by
    injection hx with hx
    subst hx
    rw [List.set_cons_zero, List.flatMap_cons, List.flatMap_cons, hu, Nat.zero_mul, Nat.zero_add, List.set_append_left _ _ (by rw [hf]; exact hk)]
  | y :: ys, n + 1, x, x', u, hx, hu => by
    rw [List.set_cons_succ, List.flatMap_cons, List.flatMap_cons, flat_set hf hk ys n x x' u hx hu, List.set_append_right _ _ (by rw [hf, Nat.succ_mul]; omega), hf, show (n + 1) * m + k - m = n * m + k by rw [Nat.succ_mul]; omega]
end
section
variable {P : Program} {Z : Post} {ks : List Fr} {N : Nat} {D : List Deferred} {sl : Sl} {W w : World} {ops : Array Oper} {rest : List Oper} {F G : Snap} {cs : List Res} {t t' T T' E : TypeId} {x y : Operand} {v zv : Value} {pos : String} {af : Array Edge} {bytes m : Nat} {α : Type} {f : α → List Value}
/-- a cell of an element of a row of the call's own is stored -/
theorem WL.storeM (h : St W F cs w) (i : Nat) (hf : ∀ x, (f x).length = m) {r : Res} {xs : List α} {ad : Addr} {len cap n k : Nat} {e e' : α} {u : Value} (hi : cs[i]? = some r) (hr : RowM E m f r v xs) (hv : v = .slice (some ad) len cap) (hn : xs[n]? = some e) (hk : k < m) (he : f e' = (f e).set k u)
    (hx : evs sl x = some (.pointer (some ((ad.add (n * m)).add k)))) (hy : evs sl y = some u) (hT : Inf P T zv 1 bytes) (h1 : one_ u = true)
    (c : ∀ r' w', RowM E m f r' v (xs.set n e') → St W F (cs.set i r') w' → WL P ops Z ks N D sl rest w') :
    WL P ops Z ks N D sl ({ dst := none, op := .store T x y, type := t, pos := pos, after := af, guard := none } :: rest) w := by
  rcases hr with ⟨rfl, hv', hl, _⟩ | ⟨b, cap', arr, fz, rfl, hv', hs, hle, hc, hfr⟩
  · rw [List.eq_nil_of_length_eq_zero hl] at hn; simp at hn
  · rw [hv'] at hv
    injection hv with hA
    injection hA with hA
    subst hA
    have hn1 := (List.getElem?_eq_some_iff.1 hn).1
    have hb : n * m + k < xs.length * m := by
      have : (n + 1) * m ≤ xs.length * m := Nat.mul_le_mul_right _ hn1
      rw [Nat.succ_mul] at this
      omega
    have hb2 : xs.length * m ≤ arr.size := by rw [hs]; exact Nat.mul_le_mul_right _ hle
    have hcl := one_cells h1
    have hx2 : evs sl x = some (.pointer (some ⟨b, n * m + k, none⟩)) := by rw [hx, add_mk, add_mk, Nat.zero_add]
    refine WL.store' h i hi hx2 hy hT (by rw [hcl]; rfl) (by rw [hcl]; simp [h1]) hfr (by rw [hcl]; simp; omega) (fun w' h' => ?_)
    rw [hcl] at h'
    refine c _ w' (.inr ⟨b, cap', arr.setIfInBounds (n * m + k) u, fz, rfl, by rw [List.length_set]; exact hv', by rw [Array.size_setIfInBounds, hs], by rw [List.length_set]; exact hle, ?_, by rw [Array.size_setIfInBounds]; exact hfr⟩) h'
    rw [flat_set hf hk xs n e e' u hn he, hc, List.length_set, Array.toList_setIfInBounds, List.take_set]
end
end B
end Go.Proofs.Ythejglgnoingfaa

namespace Go.Proofs.Ythejglgnoingfaa
open Go Go.RowKit
set_option linter.unusedVariables false
set_option linter.unusedSimpArgs false
namespace B
theorem cellB {G : Snap} {b off : Nat} {arr : Array Value} {tt : TypeId} {fz : Nat × Nat} {v : Value} (hg : G b = some (.cells arr tt fz)) (e : arr[off]? = some v) : cellF G ⟨b, off, none⟩ = some v := by
  unfold cellF
  rw [hg]
  exact e
section
variable {P : Program} {Z : Post} {ks : List Fr} {N : Nat} {D : List Deferred} {sl : Sl} {W w : World} {ops : Array Oper} {rest : List Oper} {F G : Snap} {cs keep : List Res} {t t' T T' E : TypeId} {x y : Operand} {v zv : Value} {pos : String} {af : Array Edge} {bytes m n sz : Nat} {d : TypeDesc}
theorem WC.eregK (hs : St W F cs w) (hk : St W F keep w) (S : Nat → Bool) {id : Nat} {l : List Oper} (hm : P.follows .mixedOrders = true) (hB : Region.noSelect l.toArray = true) (h : Region.noSelect l.toArray = true → ∀ w', St W F cs w' → WE P l.toArray Z ks N D S (St W F keep) sl (upto l.toArray.size 0) l.toArray.size w') : WC P Z ks N D sl (.region id l.toArray true) w := WC.ereg hs _ S hm hB h
/-- a struct that lies in a row -/
theorem Runs.loadK {c : List Value} {ad : Addr} (h : St W F cs w) (hc : ∀ w, St W F cs w → ∀ j v, c[j]? = some v → w.cell? (ad.add (n * m + j)) = some v) (hu : P.underlying T = some d) (hs : scal d = false) (hT : Inf P T zv m bytes) (hl : c.length = m)
    (hx : evs sl x = some (.pointer (some (ad.add (n * m))))) : Runs P sl (.load T x) t w (.agg c.toArray) := by
  obtain ⟨ti, h1, _, h3, _⟩ := hT.get
  exact Runs.loadA hu hs h1 (by rw [h3, hl]) hx (fun j v hj => by rw [add_add]; exact hc w h j v hj)
/-- a struct that never changes any more -/
theorem Runs.loadAllF (h : St W F cs w) {b : Nat} {arr : Array Value} {tt : TypeId} {fz : Nat × Nat} (hg : F b = some (.cells arr tt fz)) (hu : P.underlying T = some d) (hs : scal d = false) (hT : Inf P T zv sz bytes) (hz : sz = arr.size) (hx : evs sl x = some (.pointer (some ⟨b, 0, none⟩))) :
    Runs P sl (.load T x) t w (.agg arr) := by
  obtain ⟨ti, h1, _, h3, _⟩ := hT.get
  have := Runs.loadA (t := t) (w := w) (vs := arr.toList) hu hs h1 (by rw [h3, hz]; simp) hx (fun j v hv => by
    rw [add_mk, Nat.zero_add]
    exact h.cell (cellB hg (by simpa using hv)))
  simpa using this
/-- a struct in a block of the call's own -/
theorem Runs.loadPart (h : St W F cs w) (i : Nat) {b off : Nat} {arr vs : Array Value} {tt : TypeId} {fz : Nat × Nat} (hi : cs[i]? = some [(b, .cells arr tt fz)]) (hu : P.underlying T = some d) (hs : scal d = false) (hT : Inf P T zv sz bytes) (hz : sz = vs.size) (hp : arr.extract off (off + vs.size) = vs) (hx : evs sl x = some (.pointer (some ⟨b, off, none⟩))) :
    Runs P sl (.load T x) t w (.agg vs) := by
  obtain ⟨ti, h1, _, h3, _⟩ := hT.get
  have := Runs.loadA (t := t) (w := w) (vs := vs.toList) hu hs h1 (by rw [h3, hz]; simp) hx (fun j v hv => by
    rw [add_mk]
    refine h.ocell hi ?_
    have hv' : vs[j]? = some v := by simpa using hv
    rw [← hp, Array.getElem?_extract] at hv'
    split at hv'
    · exact hv'
    · cases hv')
  simpa using this
theorem Runs.loadPartF (h : St W F cs w) {b off : Nat} {arr vs : Array Value} {tt : TypeId} {fz : Nat × Nat} (hg : F b = some (.cells arr tt fz)) (hu : P.underlying T = some d) (hs : scal d = false) (hT : Inf P T zv sz bytes) (hz : sz = vs.size) (hp : arr.extract off (off + vs.size) = vs) (hx : evs sl x = some (.pointer (some ⟨b, off, none⟩))) :
    Runs P sl (.load T x) t w (.agg vs) := by
  obtain ⟨ti, h1, _, h3, _⟩ := hT.get
  have := Runs.loadA (t := t) (w := w) (vs := vs.toList) hu hs h1 (by rw [h3, hz]; simp) hx (fun j v hv => by
    rw [add_mk]
    refine h.cell (cellB hg ?_)
    have hv' : vs[j]? = some v := by simpa using hv
    rw [← hp, Array.getElem?_extract] at hv'
    split at hv'
    · exact hv'
    · cases hv')
  simpa using this
/-- one cell of a struct that lies in a row -/
theorem Runs.fldK {c : List Value} {ad : Addr} {j : Nat} {v : Value} (h : St W F cs w) (hc : ∀ w, St W F cs w → ∀ j v, c[j]? = some v → w.cell? (ad.add (n * m + j)) = some v) (hu : P.underlying T = some d) (hs : scal d = true) (hv : c[j]? = some v)
    (hx : evs sl x = some (.pointer (some ((ad.add (n * m)).add j)))) : Runs P sl (.load T x) t w v := by
  refine Runs.load1 hu hs hx ?_
  rw [add_add]
  exact hc w h j v hv
/-- a struct, or a cell of it, in a row that never changes any more -/
theorem Runs.loadKF {c : List Value} {ad : Addr} (h : St W F cs w) (hc : ∀ j v, c[j]? = some v → cellF F (ad.add (n * m + j)) = some v) (hu : P.underlying T = some d) (hs : scal d = false) (hT : Inf P T zv m bytes) (hl : c.length = m)
    (hx : evs sl x = some (.pointer (some (ad.add (n * m))))) : Runs P sl (.load T x) t w (.agg c.toArray) :=
  Runs.loadK h (fun _ hw j v hj => hw.cell (hc j v hj)) hu hs hT hl hx
theorem Runs.fldKF {c : List Value} {ad : Addr} {j : Nat} {v : Value} (h : St W F cs w) (hc : ∀ j v, c[j]? = some v → cellF F (ad.add (n * m + j)) = some v) (hu : P.underlying T = some d) (hs : scal d = true) (hv : c[j]? = some v)
    (hx : evs sl x = some (.pointer (some ((ad.add (n * m)).add j)))) : Runs P sl (.load T x) t w v :=
  Runs.fldK h (fun _ hw j v hj => hw.cell (hc j v hj)) hu hs hv hx
theorem RdS.atD {α : Type} {d : Kd α} {F : Snap} {A : Option Addr} {xs : List α} (h : RdS d F A xs) (d0 : α) {i : Nat} (hi : i < xs.length) : ∃ ad c, A = some ad ∧ d.K F (xs.getD i d0) c ∧ ∀ j v, c[j]? = some v → cellF F (ad.add (i * d.sz + j)) = some v :=
  h.at_ (by rw [List.getD_eq_getElem?_getD, List.getElem?_eq_getElem hi]; rfl)
theorem WL.insert {K : TypeId} {z : Operand} (h : St W F cs w) (i : Nat) {b : Nat} {l : List (Int × Value)} {k : Int} (hi : cs[i]? = some [(b, mobj l)]) (hT : P.underlying T = some (.map K E)) (hK : P.underlying K = some (.int .i64)) (hx : evs sl x = some (.map (some b))) (hy : evs sl y = some (.int .i64 k)) (hz : evs sl z = some v)
    (c : ∀ w', St W F (cs.set i [(b, mobj (mset k v l))]) w' → WL P ops Z ks N D sl rest w') :
    WL P ops Z ks N D sl ({ dst := none, op := .insert T x y z, type := t, pos := pos, after := af, guard := none } :: rest) w := by
  refine WL.skip_ (w' := World.setBlk w b (mobj (mset k v l))) (fun ρ hρ o ho => ?_) (c _ (h.set1 hi _))
  have := run_update (v := v) (k := k) h i hi hT hK
  simp only [execOp, ho, hρ _ _ hx, hρ _ _ hy, hρ _ _ hz]
  simp [Sem.run_bind, this, Result.andThen, Sem.run, pure]
/-- a struct's field, read out of the struct itself -/
def fsB (P : Program) (T : TypeId) (j off : Nat) : Bool :=
  match P.underlying T with
  | some (.struct fs) => match fs[j]? with
    | some f => f.offset == off && (match P.underlying f.type with | some d => scal d | none => false)
    | none => false
  | _ => false
theorem Runs.field1 {j off : Nat} {arr : Array Value} {v : Value} (hf : fsB P T j off = true) (hx : evs sl x = some (.agg arr)) (hc : arr[off]? = some v) : Runs P sl (.field T x j) t w v := fun ρ h o ho _ => by
  unfold fsB at hf
  split at hf
  · rename_i fs hu
    split at hf
    · rename_i f hfj
      simp only [Bool.and_eq_true, beq_iff_eq] at hf
      obtain ⟨rfl, hf⟩ := hf
      split at hf
      · rename_i d hd
        have h4 : (isAgg f.type).run P w = .ok false w := by
          cases d <;> simp_all [isAgg, underlying, program, scal, Sem.run, bind, Sem.bind, pure]
        have h5 : (part f.type arr f.offset).run P w = .ok v w := by
          unfold part
          rw [Sem.run_bind, h4]
          simp [Result.andThen, hc, Sem.run, pure]
        simp only [execOp, ho, h _ _ hx]
        simp [Instr.field, asAgg, underlying, program, hu, hfj, h5, Sem.run_bind, Result.andThen, Sem.run, pure]
      · cases hf
    · cases hf
  · cases hf
/-- a struct is stored into a part of a block -/
theorem WL.storePart (h : St W F cs w) (i : Nat) {b off : Nat} {arr arr' vs : Array Value} {tt : TypeId} {fz : Nat × Nat} (hi : cs[i]? = some [(b, .cells arr tt fz)]) (hx : evs sl x = some (.pointer (some ⟨b, off, none⟩))) (hy : evs sl y = some (.agg vs))
    (hT : Inf P T zv sz bytes) (hz : sz = vs.size) (h1 : vs.toList.all one_ = true) (hf : Free fz arr.size) (ho : Nat.ble (off + vs.size) arr.size = true) (he : blit arr off vs.toList = arr')
    (k : ∀ w', St W F (cs.set i [(b, .cells arr' tt fz)]) w' → WL P ops Z ks N D sl rest w') :
    WL P ops Z ks N D sl ({ dst := none, op := .store T x y, type := t, pos := pos, after := af, guard := none } :: rest) w := by
  refine WL.store' h i hi hx hy hT hz h1 hf (Nat.le_of_ble_eq_true ho) (fun w' h' => k w' ?_)
  rw [← he]
  exact h'
/-- a result that lies in a block of the call's own -/
theorem ResOk.blk (h : St W F cs w) (i : Nat) {a b : Nat} {arr : Array Value} {tt : TypeId} {fz : Nat × Nat} (hi : cs[i]? = some [(b, .cells arr tt fz)]) (hu : P.underlying T = some d) (hs : scal d = false) (hT : Inf P T zv sz bytes) (hz : sz = arr.size) (hl : lk sl a = some (.pointer (some ⟨b, 0, none⟩))) : ResOk P sl w (.cell a T) (.agg arr) := by
  refine ⟨_, hl, ?_⟩
  have := run_loadVarA (P := P) (w := w) (vs := arr.toList) hu hs hT (by rw [hz]; simp) (fun j v hj => by
    rw [add_mk, Nat.zero_add]
    exact h.ocell hi (by simpa using hj))
  simpa using this
end
end B
end Go.Proofs.Ythejglgnoingfaa

namespace Go.Proofs.Ythejglgnoingfaa
open Go Go.RowKit
set_option linter.unusedVariables false
set_option linter.unusedSimpArgs false
namespace B
section
variable {H : Type} {enc : TypeId × Value → H} {P : Program} {W : World} {base : Nat} {spare : Nat → Bool} {held : Bool} {t : TypeId} {fs : Array Field} {cs : List Value} {x : DataW H × List MemPlace} {fuel i n o j : Nat} {f : Field} {v : Value}
theorem fld_sub (h : DataW.trod enc P W base spare held fuel t cs = some x) (ht : P.underlying t = some (.struct fs)) (hf : fs[i]? = some f) (hc : P.cellsOf f.type = n) : ∃ fuel y, DataW.trod enc P W base spare held fuel f.type ((cs.drop f.offset).take n) = some y := by
  obtain ⟨xs, m, _, _, hl, hlen, hx⟩ := DataW.trod_struct ht h
  have := hx i f hf
  rw [hc] at this
  have hi : i < fs.size := (Array.getElem?_eq_some_iff.1 hf).1
  rw [List.getElem?_eq_getElem (by rw [hlen]; simpa using hi)] at this
  exact ⟨m, _, this⟩
theorem sub_at (h : ((cs.drop o).take n)[j]? = some v) : cs[o + j]? = some v := by
  rw [List.getElem?_take] at h
  split at h
  · rwa [List.getElem?_drop] at h
  · cases h
end
/-- what stands behind a piece of code, with a letter for what is only known to be there -/
theorem WC.cutT {P : Program} {Z : Post} {ks : List Fr} {N : Nat} {D : List Deferred} {sl : Sl} {w : World} {σ : Type} {x y : Code} (S : σ → Sl) (J : σ → World → Prop) (h : WC P Z (.cut (fun a' w' => ∃ s, Ag N D (S s) a' ∧ J s w') :: ks) N D sl x w) (k : ∀ s w, J s w → WC P Z ks N D (S s) y w) : WC P Z (.thn y :: ks) N D sl x w := fun a ha => by
  refine wp_mono (h a ha) fun e a' w' q => ?_
  cases e with
  | normal =>
    obtain ⟨s, h1, h2⟩ := q
    exact k s w' h2 a' h1
  | _ => exact q
end B
end Go.Proofs.Ythejglgnoingfaa

namespace Go.Proofs.Ythejglgnoingfaa
open Go Go.RowKit
set_option linter.unusedVariables false
set_option linter.unusedSimpArgs false
namespace B
section
variable {P : Program} {Z : Post} {ks : List Fr} {N : Nat} {D : List Deferred} {sl : Sl} {W w : World} {ops : Array Oper} {rest : List Oper} {F : Snap} {cs : List Res} {t T T' : TypeId} {x y : Operand} {v : Value} {pos : String} {af : Array Edge} {ch : List PanicEntry}
/-- a panic goes up from here, whatever lies in the slots -/
def WP (P : Program) (Z : Post) (ks : List Fr) (N : Nat) (D : List Deferred) (ch : List PanicEntry) (w : World) : Prop := ∀ a, Ag N D [] a → den P Z ks (.panic ch) a w
theorem WP.of (h : ∀ a, Ag N D [] a → Z (.panic ch) a w) : WP P Z ks N D ch w := fun a ha => den_panic ch ks a w (h a ha)
theorem WP.region {ks' : List Fr} (h : WP P Z ks N D ch w) : WP P (ZE N D (den P Z ks)) ks' N D ch w := WP.of fun _ _ => h
theorem Ag.any {a : Act} (ha : Ag N D sl a) : Ag N D [] a := ⟨ha.df, ha.sz, fun d v hl => by simp [lk] at hl⟩
theorem die0 {fn : Func} {R : Ending → World → Prop} (hR : R (.panicked ch) w) : WP P (bodyPost P fn R) ks N [] ch w := WP.of fun a ha => ⟨ha.df, hR⟩
def chain1 (T : TypeId) (v : Value) : List PanicEntry := [{ v := .iface T v, recovered := false }]
theorem WL.panicI {dst : Option Nat} (hx : evs sl x = some (.iface T v)) (h : WP P Z ks N D (chain1 T v) w) : WL P ops Z ks N D sl ({ dst := dst, op := .panic x, type := t, pos := pos, after := af, guard := none } :: rest) w := fun a ha =>
  wpList_plain rfl fun K hK => by
    unfold Oper.wp
    have : (execOp a.eval { dst := dst, op := .panic x, type := t, pos := pos, after := af, guard := none }).run P w = .halt (.panic (.iface T v)) w := by
      simp only [execOp, ha.ev hx]
      rfl
    rw [this]
    exact h a ha.any
/-- what a call comes to: a value, or a panic that goes on -/
def Ends (P : Program) (Z : Post) (ks : List Fr) (N : Nat) (D : List Deferred) (K : Value → World → Prop) (e : Ending) (w : World) : Prop := (∃ v, e = .returned v ∧ K v w) ∨ ∃ ch, e = .panicked ch ∧ WP P Z ks N D ch w
theorem WL.callP {d : Nat} {f : FuncId} {xs : List Operand} {vs : List Value} {ts : Array TypeId} {R : Ending → World → Prop} (hc : Can P f) (hv : args_ sl xs = some vs) (hd : Nat.ble (d + 1) N = true)
    (c : Calls P f vs.toArray w R) (k : ∀ e w', R e w' → Ends P Z ks N D (fun v w' => WL P ops Z ks N D ((d, v) :: sl) rest w') e w') :
    WL P ops Z ks N D sl ({ dst := some d, op := .call { callee := .value (.func f), args := xs.toArray, argTypes := ts }, type := t, pos := pos, after := af, guard := none } :: rest) w := fun a ha =>
  wpList_plain rfl fun K hK => by
    unfold Oper.wp
    rw [exec_call hc rfl rfl (args_spec (fun x v hx => ha.ev hx) xs vs hv)]
    refine c.mono fun e w' hr => ?_
    rcases k e w' hr with ⟨v, rfl, hk⟩ | ⟨ch, rfl, hk⟩
    · exact hK _ _ (hk _ (ha.put (Nat.le_of_ble_eq_true hd) v))
    · exact hk a ha.any
theorem WL.callvP {d : Nat} {f : FuncId} {first cap : List Value} {xs : List Operand} {vs : List Value} {ts : Array TypeId} {R : Ending → World → Prop} (hc : Can P f) (hx : evs sl x = some (.func (.func f) first.toArray cap.toArray)) (hv : args_ sl xs = some vs) (hd : Nat.ble (d + 1) N = true)
    (c : Calls P f (first ++ vs ++ cap).toArray w R) (k : ∀ e w', R e w' → Ends P Z ks N D (fun v w' => WL P ops Z ks N D ((d, v) :: sl) rest w') e w') :
    WL P ops Z ks N D sl ({ dst := some d, op := .call { callee := .value x, args := xs.toArray, argTypes := ts }, type := t, pos := pos, after := af, guard := none } :: rest) w := fun a ha =>
  wpList_plain rfl fun K hK => by
    have e := args_spec (fun x v hx => ha.ev hx) xs vs hv
    have hr := run_callFunc (w := w) hc (first ++ vs ++ cap).toArray
    have : (execOp a.eval { dst := some d, op := .call { callee := .value x, args := xs.toArray, argTypes := ts }, type := t, pos := pos, after := af, guard := none }).run P w = .ok (.enter f (first ++ vs ++ cap).toArray) w := by
      have e2 : xs.toArray.map a.eval = vs.toArray := by simp [← e]
      simp only [execOp, resolve, ha.ev hx, Deferred.ofValue, e2]
      have e3 : first.toArray ++ vs.toArray ++ cap.toArray = (first ++ vs ++ cap).toArray := by simp
      simp only [Sem.run_bind, pure, Sem.run, Result.andThen, invoke, e3]
      exact hr
    unfold Oper.wp
    rw [this]
    refine c.mono fun e w' hr => ?_
    rcases k e w' hr with ⟨v, rfl, hk⟩ | ⟨ch, rfl, hk⟩
    · exact hK _ _ (hk _ (ha.put (Nat.le_of_ble_eq_true hd) v))
    · exact hk a ha.any
/-- a closure without arguments, deferred -/
theorem WL.deferC {f : FuncId} {caps : Array Value} (hx : evs sl x = some (.func (.func f) #[] caps)) (k : WL P ops Z ks N ({ target := .fn (.func f) caps, args := #[] } :: D) sl rest w) :
    WL P ops Z ks N D sl ({ dst := none, op := .defer { callee := .value x, args := #[], argTypes := #[] }, type := t, pos := pos, after := af, guard := none } :: rest) w := fun a ha =>
  wpList_plain rfl fun K hK => by
    unfold Oper.wp
    have : (execOp a.eval { dst := none, op := .defer { callee := .value x, args := #[], argTypes := #[] }, type := t, pos := pos, after := af, guard := none }).run P w = .ok (.defer { target := .fn (.func f) caps, args := #[] }) w := by
      simp [execOp, resolve, ha.ev hx, Deferred.ofValue, Sem.run, pure, bind, Sem.bind]
    rw [this]
    exact hK _ _ (k _ ⟨by simp [Act.put, ha.df], by simpa [Act.put] using ha.sz, fun d v hl => by simpa [Act.put] using ha.ag d v hl⟩)
theorem enterD {f : FuncId} {fn : Func} {c : Code} {args : List Value} {R : Ending → World → Prop} (hf : P.funcs[f]? = some fn) (hb : fn.body = some c) (hN : fn.ntmps = N) (hn : Nat.ble args.length N = true)
    (h : WC P (bodyPostD P fn R) [] N [] (slots 0 args) c w) : Calls P f args.toArray w R := by
  have hn := Nat.le_of_ble_eq_true hn
  refine calls_of_wp_defers hf hb (h _ ⟨rfl, by simp [hN]; omega, fun d v hl => ?_⟩)
  obtain ⟨j, hj, hv⟩ := lk_slots args 0 d v hl
  have hlt : j < args.length := (List.getElem?_eq_some_iff.1 hv).1
  simp only [Nat.zero_add] at hj
  subst hj
  rw [Array.getElem?_append_left (by simpa using hlt)]
  simpa using hv
theorem leaveN {fn : Func} {R : Ending → World → Prop} (hr : fn.results = #[]) (hR : R (.returned (.tuple #[])) w) : ∀ a, Ag N [] sl a → bodyPostD P fn R .ret a w := fun a ha => by
  show Leaves P fn a.tmps R a.defers .returning w
  rw [ha.df]
  exact ⟨.tuple #[], results_none hr _ _ _, hR⟩
theorem run_invokeC {f : FuncId} {caps : Array Value} (hc : Can P f) : (invoke (.fn (.func f) caps) #[]).run P w = .ok (.enter f caps) w := by
  have := run_callFunc (w := w) hc (#[] ++ caps)
  simpa [invoke] using this
/-- the way out through one deferred closure: it finds nothing to recover -/
theorem leaveC {fn : Func} {f : FuncId} {caps : Array Value} {R : Ending → World → Prop} (hr : fn.results = #[]) (hc : Can P f)
    (h : CallsD P f caps .returning w fun e u' w' => e = .returned (.tuple #[]) ∧ u' = .returning ∧ R (.returned (.tuple #[])) w') : WN P (bodyPostD P fn R) [] N [{ target := .fn (.func f) caps, args := #[] }] sl w := fun a ha => by
  show Leaves P fn a.tmps R a.defers .returning w
  rw [ha.df]
  refine leaves_cons (f := f) (args := caps) (by simp) (run_invokeC hc) (h.mono fun e u' w' ⟨h1, h2, h3⟩ => ?_)
  subst h1; subst h2
  exact ⟨.tuple #[], results_none hr _ _ _, h3⟩
/-- a panic, recovered by one deferred closure -/
theorem dieC {fn : Func} {f : FuncId} {caps : Array Value} {R : Ending → World → Prop} {pe : PanicEntry} (hr : fn.results = #[]) (hc : Can P f) (hg : pe.goexit = false)
    (h : CallsD P f caps (.panicking [pe]) w fun e u' w' => e = .returned (.tuple #[]) ∧ u' = .panicking [{ pe with recovered := true }] ∧ R (.returned (.tuple #[])) w') : WP P (bodyPostD P fn R) ks N [{ target := .fn (.func f) caps, args := #[] }] [pe] w := WP.of fun a ha => by
  show Leaves P fn a.tmps R a.defers (.panicking [pe]) w
  rw [ha.df]
  refine leaves_cons (f := f) (args := caps) (by simp) (run_invokeC hc) (h.mono fun e u' w' ⟨h1, h2, h3⟩ => ?_)
  subst h1; subst h2
  exact ⟨.tuple #[], results_none hr _ _ _, h3⟩
/-! interfaces -/
def isI : TypeDesc → Bool
  | .interface _ => true
  | _ => false
theorem Runs.makeI {A : TypeId} {d : TypeDesc} (hu : P.underlying A = some d) (hd : isI d = false) (hx : evs sl x = some v) : Runs P sl (.makeInterface A x) t w (.iface A v) := fun ρ h o ho _ => by
  simp only [execOp, ho, h _ _ hx]
  have : (Instr.makeInterface A v).run P w = .ok (.iface A v) w := by
    cases d with
    | interface m => cases hd
    | _ => simp [Instr.makeInterface, underlying, program, hu, Sem.run, bind, Sem.bind, pure]
  rw [Sem.run_bind, this]
  rfl
theorem Runs.assertS {A : TypeId} {d : TypeDesc} (hu : P.underlying A = some d) (hd : isI d = false) (hx : evs sl x = some (.iface A v)) : Runs P sl (.typeAssert x T A false) t w v := fun ρ h o ho _ => by
  simp only [execOp, ho, h _ _ hx]
  have : (Instr.typeAssert (.iface A v) T A false).run P w = .ok v w := by
    cases d with
    | interface m => cases hd
    | _ => simp [Instr.typeAssert, underlying, program, hu, Sem.run, bind, Sem.bind, pure]
  rw [Sem.run_bind, this]
  rfl
end
end B
end Go.Proofs.Ythejglgnoingfaa

namespace Go.Proofs.Ythejglgnoingfaa
open Go Go.RowKit
set_option linter.unusedVariables false
set_option linter.unusedSimpArgs false
namespace B
def bs (l : List UInt8) : ByteArray := ⟨l.toArray⟩
theorem bs_size (l : List UInt8) : (bs l).size = l.length := rfl
theorem bs_of (s : ByteArray) : bs s.data.toList = s := by cases s; simp [bs]
theorem bs_inj {a b : List UInt8} : bs a = bs b ↔ a = b := by
  constructor
  · intro h
    have := congrArg (fun s : ByteArray => s.data.toList) h
    simpa [bs] using this
  · intro h; rw [h]
theorem bs_add (a b : List UInt8) : bs a ++ bs b = bs (a ++ b) := by
  apply string_ext
  simp [bs, ByteArray.data_append]
theorem bs_ext (l : List UInt8) (n m : Nat) : (bs l).extract n m = bs ((l.drop n).take (m - n)) := by
  apply string_ext
  simp [bs, List.drop_take, ByteArray.data_extract]
section
variable {P : Program} {sl : Sl} {w : World} {t T T' : TypeId} {x y z : Operand} {k : IntKind} {a b l : List UInt8}
theorem Runs.lslen {ts : Array TypeId} (hu : P.underlying T = some .string) (hts : ts = #[T]) (hx : evs sl x = some (.string (bs l))) :
    Runs P sl (.call { callee := .builtin .len, args := #[x], argTypes := ts }) t w (.int .i64 (l.length : Int)) := Runs.slen hu hts hx
theorem Runs.lsadd (hx : evs sl x = some (.string (bs a))) (hy : evs sl y = some (.string (bs b))) (hb : a.length + b.length ≤ 9223372036854775807) : Runs P sl (.binOp .add T x y T') t w (.string (bs (a ++ b))) := by
  have := Runs.sadd (P := P) (t := t) (w := w) (T := T) (T' := T') hx hy hb
  rwa [bs_add] at this
theorem Runs.lseql (hx : evs sl x = some (.string (bs a))) (hy : evs sl y = some (.string (bs b))) : Runs P sl (.binOp .eql T x y T') t w (.bool (decide (a = b))) := by
  have := Runs.seql (P := P) (t := t) (w := w) (T := T) (T' := T') hx hy
  rwa [show decide (bs a = bs b) = decide (a = b) from by rw [decide_eq_decide]; exact bs_inj] at this
theorem Runs.lsneq (hx : evs sl x = some (.string (bs a))) (hy : evs sl y = some (.string (bs b))) : Runs P sl (.binOp .neq T x y T') t w (.bool (!decide (a = b))) := by
  have := Runs.sneq (P := P) (t := t) (w := w) (T := T) (T' := T') hx hy
  rwa [show decide (bs a = bs b) = decide (a = b) from by rw [decide_eq_decide]; exact bs_inj] at this
theorem Runs.lsidx {n : Nat} {j : Int} (hu : P.underlying T = some .string) (hx : evs sl x = some (.string (bs l))) (hy : evs sl y = some (.int k j)) (hj : j = (n : Int)) (hn : n < l.length) : Runs P sl (.index T x y) t w (V8 (l.getD n 0)) := by
  have := Runs.sidx8 (P := P) (t := t) (w := w) hu hx hy hj (by rw [bs_size]; exact hn)
  simpa [bs] using this
theorem Runs.lssl {n m : Nat} {j j' : Int} (hu : P.underlying T = some .string) (hx : evs sl x = some (.string (bs l))) (hy : evs sl y = some (.int .i64 j)) (hz : evs sl z = some (.int .i64 j')) (hj : j = (n : Int)) (hj' : j' = (m : Int)) (hn : n ≤ m) (hm : m ≤ l.length) :
    Runs P sl (.slice T x (some y) (some z) none) t w (.string (bs ((l.drop n).take (m - n)))) := by
  have := Runs.sslice (P := P) (t := t) (w := w) (lo := some y) (hi := some z) (l := some j) (h := some j') hu hx (by simp [evo, hy]) (by simp [evo, hz]) (okb_lh (len := (bs l).size) (by omega) (by rw [bs_size]; omega))
  subst hj; subst hj'
  simpa [lo_, hi_, bs_ext] using this
theorem Runs.lssl_lo {n : Nat} {j : Int} (hu : P.underlying T = some .string) (hx : evs sl x = some (.string (bs l))) (hy : evs sl y = some (.int .i64 j)) (hj : j = (n : Int)) (hn : n ≤ l.length) :
    Runs P sl (.slice T x (some y) none none) t w (.string (bs (l.drop n))) := by
  have := Runs.sslice (P := P) (t := t) (w := w) (lo := some y) (hi := none) (l := some j) (h := none) hu hx (by simp [evo, hy]) rfl (okb_lo (by rw [bs_size]; omega))
  subst hj
  simp only [lo_, hi_, bs_ext, Option.map_some, Option.map_none, Option.getD_some, Option.getD_none, Int.toNat_natCast, bs_size] at this
  rwa [List.take_of_length_le (by simp)] at this
theorem Runs.lssl_hi {m : Nat} {j : Int} (hu : P.underlying T = some .string) (hx : evs sl x = some (.string (bs l))) (hz : evs sl z = some (.int .i64 j)) (hj : j = (m : Int)) (hm : m ≤ l.length) :
    Runs P sl (.slice T x none (some z) none) t w (.string (bs (l.take m))) := by
  have := Runs.sslice (P := P) (t := t) (w := w) (lo := none) (hi := some z) (l := none) (h := some j) hu hx rfl (by simp [evo, hz]) (okb_hi (by rw [bs_size]; omega))
  subst hj
  simpa [lo_, hi_, bs_ext] using this
theorem Runs.shl8 {m : Nat} (hx : evs sl x = some (.int .i64 (m : Int))) (hy : evs sl y = some (.int k 8)) (hb : m < 36028797018963968) : Runs P sl (.binOp .shl T x y T') t w (.int .i64 ((256 * m : Nat) : Int)) := by
  have := Runs.shl (P := P) (t := t) (w := w) (T := T) (T' := T') hx hy (by omega)
  have e : (m : Int) * 2 ^ Min.min (8 : Int).toNat IntKind.i64.bits = ((256 * m : Nat) : Int) := by
    rw [show Min.min (8 : Int).toNat IntKind.i64.bits = 8 from rfl]; omega
  rwa [e, wrap64_in ⟨by omega, by omega⟩] at this
theorem Runs.orB {m : Nat} {c : UInt8} (hx : evs sl x = some (.int .i64 ((256 * m : Nat) : Int))) (hy : evs sl y = some (.int .i64 (c.toNat : Int))) (hb : m < 36028797018963968) : Runs P sl (.binOp .or T x y T') t w (.int .i64 ((256 * m + c.toNat : Nat) : Int)) := by
  have := Runs.or (P := P) (t := t) (w := w) (T := T) (T' := T') hx hy
  have hc := c.toNat_lt
  have e : (BitVec.ofInt IntKind.i64.bits ((256 * m : Nat) : Int) ||| BitVec.ofInt IntKind.i64.bits (c.toNat : Int)).toNat = 256 * m + c.toNat := by
    rw [BitVec.toNat_or]
    show (BitVec.ofInt 64 ((256 * m : Nat) : Int)).toNat ||| (BitVec.ofInt 64 (c.toNat : Int)).toNat = _
    rw [BitVec.toNat_ofInt, BitVec.toNat_ofInt]
    rw [show (((256 * m : Nat) : Int) % ((2 ^ 64 : Nat) : Int)).toNat = 256 * m by omega, show ((c.toNat : Int) % ((2 ^ 64 : Nat) : Int)).toNat = c.toNat by omega]
    have h1 := Nat.shiftLeft_add_eq_or_of_lt (i := 8) (b := c.toNat) (by omega) m
    rw [Nat.shiftLeft_eq] at h1
    rw [show 256 * m = m * 2 ^ 8 by omega, ← h1]
  rw [e, wrap64_in ⟨by omega, by omega⟩] at this
  exact this
theorem Runs.shrN {m n : Nat} {j : Int} (hx : evs sl x = some (.int .i64 (m : Int))) (hy : evs sl y = some (.int k j)) (hj : j = (n : Int)) (hn : n ≤ 64) : Runs P sl (.binOp .shr T x y T') t w (.int .i64 ((m / 2 ^ n : Nat) : Int)) := by
  have := Runs.shr (P := P) (t := t) (w := w) (T := T) (T' := T') hx hy (by omega)
  rwa [shr_nat hj hn] at this
/-- an interface compared with none -/
theorem run_eqlI {ms : Array (String × TypeId)} {A : TypeId} {v : Value} (hu : P.underlying T = some (.interface ms)) : (Op.equal T (.iface A v) .nilIface).run P w = .ok false w := by
  unfold Op.equal Op.maxDepth
  rw [show (10000 : Nat) = 9999 + 1 from rfl]
  unfold Op.equalIn
  simp [underlying, program, hu, bind, Sem.bind, pure, Sem.run]
theorem run_eqlI0 {ms : Array (String × TypeId)} (hu : P.underlying T = some (.interface ms)) : (Op.equal T .nilIface .nilIface).run P w = .ok true w := by
  unfold Op.equal Op.maxDepth
  rw [show (10000 : Nat) = 9999 + 1 from rfl]
  unfold Op.equalIn
  simp [underlying, program, hu, bind, Sem.bind, pure, Sem.run]
theorem Runs.ifneq {ms : Array (String × TypeId)} {A : TypeId} {v : Value} (hu : P.underlying T = some (.interface ms)) (hx : evs sl x = some (.iface A v)) (hy : evs sl y = some .nilIface) : Runs P sl (.binOp .neq T x y T') t w (.bool true) := fun ρ h o ho _ => by
  have := run_eqlI (w := w) (A := A) (v := v) hu
  simp only [execOp, ho, h _ _ hx, h _ _ hy, eqGuard]
  simp [binOp, this, Sem.run_bind, Result.andThen, Sem.run, pure]
theorem Runs.ifneq0 {ms : Array (String × TypeId)} {c : Value} (hu : P.underlying T = some (.interface ms)) (hx : evs sl x = some .nilIface) (hy : evs sl (.const c) = some .nilIface) : Runs P sl (.binOp .neq T x (.const c) T') t w (.bool false) := fun ρ h o ho _ => by
  have := run_eqlI0 (w := w) hu
  simp only [execOp, ho, h _ _ hx, h _ _ hy, eqGuard]
  simp [binOp, this, Sem.run_bind, Result.andThen, Sem.run, pure]
end
end B
end Go.Proofs.Ythejglgnoingfaa

namespace Go.Proofs.Ythejglgnoingfaa
open Go Go.RowKit
set_option linter.unusedVariables false
set_option linter.unusedSimpArgs false
namespace B
section
variable {P : Program} {Z : Post} {ks : List Fr} {N : Nat} {D : List Deferred} {sl : Sl} {W w : World} {ops : Array Oper} {rest : List Oper} {F : Snap} {cs : List Res} {t T T' E U : TypeId} {x y : Operand} {v zv : Value} {pos : String} {af : Array Edge} {sz bytes : Nat}
theorem St.shape (h : St W F cs w) {i b : Nat} {arr : Array Value} {fz : Nat × Nat} (hi : cs[i]? = some [(b, .cells arr E fz)]) : w.shape? b = some (E, arr.size) := by
  unfold World.shape?
  rw [h.blk hi]
theorem Runs.toUnsafe (h : St W F cs w) {i b off : Nat} {arr : Array Value} {fz : Nat × Nat} (hi : cs[i]? = some [(b, .cells arr E fz)]) (hs : P.underlying T = some (.pointer U)) (hd : P.underlying T' = some .unsafePointer) (hT : Inf P U zv sz bytes) (hz : Nat.beq sz 0 = false) (ho : off < arr.size)
    (hx : evs sl x = some (.pointer (some ⟨b, off, none⟩))) : Runs P sl (.convert T T' x) t w (.pointer (some ⟨b, off, none⟩)) := fun ρ hρ o ho' _ => by
  obtain ⟨j, h1, _, h3, _⟩ := hT.get
  have := Lib.run_to_unsafe (P := P) w ⟨b, off, none⟩ hs hd h1 (by rw [h3]; intro e; subst e; cases hz) (h.shape hi) ho
  simp [execOp, ho', hρ _ _ hx, this]
theorem Runs.fromUnsafe (h : St W F cs w) {i b off cells : Nat} {arr : Array Value} {fz : Nat × Nat} (hi : cs[i]? = some [(b, .cells arr E fz)]) (hs : P.underlying T = some .unsafePointer) (hd : P.underlying T' = some (.pointer U)) (hT : Inf P U zv sz bytes) (hc : arr.size = cells) (hl : liesAt P P.depth E (cells / P.cellsOf E) off U 1 = true)
    (hx : evs sl x = some (.pointer (some ⟨b, off, none⟩))) : Runs P sl (.convert T T' x) t w (.pointer (some ⟨b, off, none⟩)) := fun ρ hρ o ho' _ => by
  subst hc
  obtain ⟨j, h1, _, h3, _⟩ := hT.get
  have := Lib.run_from_unsafe (P := P) w ⟨b, off, none⟩ hs hd h1 (h.shape hi) hl
  simp [execOp, ho', hρ _ _ hx, this]
/-- a function that hands back what it is given, and has no body -/
theorem Runs.same {f : FuncId} {fn : Func} {ts : Array TypeId} (hf : P.funcs[f]? = some fn) (hname : (fn.name == "runtime.NumGoroutine") = false) (hb : fn.body.isNone = true) (hn : Extern.findNext fn = none) (he : Extern.find fn = some Extern.AbiNoEscape.same) (hx : evs sl x = some v) :
    Runs P sl (.call { callee := .value (.func f), args := #[x], argTypes := ts }) t w v := fun ρ hρ o ho _ => by
  have := run_callFunc_extern hf hname hb hn he #[v] w
  rw [Lib.run_noEscape] at this
  have hf' : ρ (.func f) = .func (.func f) #[] #[] := hρ _ _ rfl
  simp only [execOp, ho, resolve, hf', Deferred.ofValue, invoke, Sem.run_bind, pure, Sem.run, Result.andThen, List.map_toArray, List.map_cons, List.map_nil, hρ _ _ hx]
  simpa [Result.andThen] using this
theorem Runs.pneqS {a : Addr} (hu : P.underlying T = some (.pointer U)) (hT : Inf P U zv sz bytes) (hx : evs sl x = some (.pointer (some a))) (hy : evs sl y = some (.pointer (some a))) : Runs P sl (.binOp .neq T x y T') t w (.bool false) := fun ρ hρ o ho _ => by
  obtain ⟨j, h1, _, _, _⟩ := hT.get
  have := Lib.run_neq_ptr_same (P := P) w a hu h1
  simp only [execOp, ho, hρ _ _ hx, hρ _ _ hy, eqGuard]
  simp [this, Sem.run_bind, Result.andThen, Sem.run, pure]
theorem Runs.usd {ts : Array TypeId} {a : Addr} {n c : Nat} (hx : evs sl x = some (.slice (some a) n c)) (hc : c ≠ 0) : Runs P sl (.call { callee := .builtin .unsafeSliceData, args := #[x], argTypes := ts }) t w (.pointer (some a)) := fun ρ hρ o ho ht => by
  have := Lib.run_unsafeSliceData_row (P := P) w ts t a n c hc
  have hb : ∀ q, builtin .unsafeSliceData ts t q #[.slice (some a) n c] = (do pure (.value (← Builtin.unsafeSliceData_ ts t #[.slice (some a) n c]))) := fun _ => rfl
  simp only [execOp, ho, ht, resolve, invoke, Sem.run_bind, pure, Sem.run, Result.andThen, List.map_toArray, List.map_cons, List.map_nil, hρ _ _ hx]
  rw [hb, Sem.run_bind, this]
  rfl
theorem freeze_blk {b n : Nat} {arr : Array Value} {fz : Nat × Nat} (hb : w.heap[b]? = some (.cells arr E fz)) : ∃ fz', w.freeze ⟨b, 0, none⟩ n = World.setBlk w b (.cells arr E fz') := by
  unfold World.freeze
  split
  · refine ⟨fz, ?_⟩
    unfold World.setBlk
    have : w.heap.setIfInBounds b (.cells arr E fz) = w.heap := by
      apply Array.ext_getElem?
      intro j
      rw [Array.getElem?_setIfInBounds]
      split
      · rename_i e
        subst e
        rw [if_pos (Array.getElem?_eq_some_iff.1 hb).1, hb]
      · rfl
    rw [this]
  · obtain ⟨lo, hi⟩ := fz
    refine ⟨if lo == hi then (0, 0 + n) else (min lo 0, max hi (0 + n)), ?_⟩
    unfold World.setBlk
    refine congrArg (fun hp => ({ w with heap := hp } : World)) ?_
    apply Array.ext_getElem?
    intro j
    rw [Array.getElem?_modify, Array.getElem?_setIfInBounds]
    by_cases e : b = j
    · subst e
      rw [if_pos rfl, if_pos rfl, hb, if_pos (Array.getElem?_eq_some_iff.1 hb).1]
      rfl
    · rw [if_neg e, if_neg e]
/-- a row's bytes as a string: they never change any more -/
theorem WL.ustr (h : St W F cs w) (i : Nat) {d b : Nat} {l : List UInt8} {zs : List Value} {fz : Nat × Nat} {pt it : TypeId} (hi : cs[i]? = some [(b, .cells (l.map V8 ++ zs).toArray E fz)]) (hp : P.underlying pt = some (.pointer E)) (hc : P.cellsOf E = 1) (h0 : l ≠ []) (h63 : l.length ≤ 9223372036854775807)
    (hx : evs sl x = some (.pointer (some ⟨b, 0, none⟩))) (hy : evs sl y = some (.int .i64 (l.length : Int))) (hd : Nat.ble (d + 1) N = true)
    (k : ∀ fz' w', St W F (cs.set i [(b, .cells (l.map V8 ++ zs).toArray E fz')]) w' → WL P ops Z ks N D ((d, .string (bs l)) :: sl) rest w') :
    WL P ops Z ks N D sl ({ dst := some d, op := .call { callee := .builtin .unsafeString, args := #[x, y], argTypes := #[pt, it] }, type := t, pos := pos, after := af, guard := none } :: rest) w := by
  obtain ⟨fz', hfz⟩ := freeze_blk (n := l.length) (h.blk hi)
  refine WL.val_ (w' := w.freeze ⟨b, 0, none⟩ l.length) hd (fun ρ hρ o ho ht => ?_) (k fz' _ (by rw [hfz]; exact h.set1 hi _))
  have := Lib.run_unsafeString_row (P := P) w pt it t E hp hc b (l.map V8 ++ zs).toArray.size (h.shape hi) l h0 (by simp) h63 (fun j x hx => by
    rw [add_mk, Nat.zero_add]
    refine h.ocell hi ?_
    have hj : j < l.length := (List.getElem?_eq_some_iff.1 hx).1
    rw [List.getElem?_toArray, List.getElem?_append_left (by simpa using hj)]
    simp [hx])
  have hb : ∀ q, builtin .unsafeString #[pt, it] t q #[.pointer (some ⟨b, 0, none⟩), .int .i64 (l.length : Int)] = (do pure (.value (← Builtin.unsafeString_ #[pt, it] t #[.pointer (some ⟨b, 0, none⟩), .int .i64 (l.length : Int)]))) := fun _ => rfl
  simp only [execOp, ho, ht, resolve, invoke, Sem.run_bind, pure, Sem.run, Result.andThen, List.map_toArray, List.map_cons, List.map_nil, hρ _ _ hx, hρ _ _ hy]
  rw [hb, Sem.run_bind, this]
  rfl
end
end B
end Go.Proofs.Ythejglgnoingfaa

namespace Go.Proofs.Ythejglgnoingfaa
open Go Go.RowKit
set_option linter.unusedVariables false
set_option linter.unusedSimpArgs false
namespace B
section
variable {P : Program} {sl : Sl} {w : World} {t T T' : TypeId} {x y : Operand} {d : Nat} {xs ys : Array Value} {f : Field} {fs : List Field} {s : Bool}
theorem part1 {E : TypeId} {td : TypeDesc} {n : Nat} {u : Value} (hu : P.underlying E = some td) (hs : scal td = true) (hx : xs[n]? = some u) : (part E xs n).run P w = .ok u w := by
  have h4 : (isAgg E).run P w = .ok false w := by
    cases td <;> simp_all [isAgg, underlying, program, scal, Sem.run, bind, Sem.bind, pure]
  unfold part
  rw [Sem.run_bind, h4]
  simp [Result.andThen, hx, Sem.run, pure]
theorem eqf_1 {a b : Value} {r : Bool} {td : TypeDesc} (hn : (f.name == "_") = false) (hu : P.underlying f.type = some td) (hs : scal td = true) (ha : xs[f.offset]? = some a) (hb : ys[f.offset]? = some b) (he : (Op.equalIn d f.type a b).run P w = .ok r w) (hr : (Op.eqFields d xs ys fs).run P w = .ok s w) : (Op.eqFields d xs ys (f :: fs)).run P w = .ok (r && s) w := by
  have hn' : f.name ≠ "_" := by simpa using hn
  have h1 := part1 (w := w) hu hs ha
  have h2 := part1 (w := w) hu hs hb
  rw [Op.eqFields]
  simp only [if_pos hn', Sem.run_bind, h1, h2, he, Result.andThen_ok]
  cases r
  · simp
  · simpa using hr
theorem eqf_int {a b : Int} {k : IntKind} (hn : (f.name == "_") = false) (hu : P.underlying f.type = some (.int k)) (ha : xs[f.offset]? = some (.int k a)) (hb : ys[f.offset]? = some (.int k b)) (hr : (Op.eqFields (d + 1) xs ys fs).run P w = .ok s w) : (Op.eqFields (d + 1) xs ys (f :: fs)).run P w = .ok (decide (a = b) && s) w := by
  refine eqf_1 hn hu rfl ha hb ?_ hr
  simp [Op.equalIn, underlying, program, hu, Sem.run, bind, Sem.bind, pure, ibeq]
theorem eqf_str {a b : List UInt8} (hn : (f.name == "_") = false) (hu : P.underlying f.type = some .string) (ha : xs[f.offset]? = some (.string (bs a))) (hb : ys[f.offset]? = some (.string (bs b))) (hr : (Op.eqFields (d + 1) xs ys fs).run P w = .ok s w) : (Op.eqFields (d + 1) xs ys (f :: fs)).run P w = .ok (decide (a = b) && s) w := by
  refine eqf_1 hn hu rfl ha hb ?_ hr
  have : (bs a == bs b) = decide (a = b) := by
    rw [beq_toListBytes, seq_toList]
    rw [decide_eq_decide]; exact bs_inj
  simp [Op.equalIn, underlying, program, hu, Sem.run, bind, Sem.bind, pure, this]
theorem eqf_nil : (Op.eqFields d xs ys []).run P w = .ok true w := by simp [Op.eqFields]
theorem eqA_of {fs : Array Field} {r : Bool} (hu : P.underlying T = some (.struct fs)) (hp : P.stoodInHeld T = false) (h : (Op.eqFields d xs ys fs.toList).run P w = .ok r w) : (Op.equalIn (d + 1) T (.agg xs) (.agg ys)).run P w = .ok r w := by
  have hf : P.fieldsOf T = fs := by simp [Program.fieldsOf, hu]
  rw [run_equalIn_struct (P := P) w d T xs ys (by rw [hf]; exact hu) hp, hf]
  exact h
theorem Runs.aeql {r : Bool} (hm : P.eqGuardType P.depth T = false) (hx : evs sl x = some (.agg xs)) (hy : evs sl y = some (.agg ys)) (he : (Op.equalIn 10000 T (.agg xs) (.agg ys)).run P w = .ok r w) : Runs P sl (.binOp .eql T x y T') t w (.bool r) := fun ρ h o ho _ => by
  simp only [execOp, ho, h _ _ hx, h _ _ hy, Sem.run_bind, run_eqGuard_agg w .eql T x y xs ys hm, Result.andThen_ok, run_eql_struct, he]
  rfl
theorem Runs.aneq {r : Bool} (hm : P.eqGuardType P.depth T = false) (hx : evs sl x = some (.agg xs)) (hy : evs sl y = some (.agg ys)) (he : (Op.equalIn 10000 T (.agg xs) (.agg ys)).run P w = .ok r w) : Runs P sl (.binOp .neq T x y T') t w (.bool (!r)) := fun ρ h o ho _ => by
  simp only [execOp, ho, h _ _ hx, h _ _ hy, Sem.run_bind, run_eqGuard_agg w .neq T x y xs ys hm, Result.andThen_ok, run_neq_struct, he]
  rfl
end
end B
end Go.Proofs.Ythejglgnoingfaa
