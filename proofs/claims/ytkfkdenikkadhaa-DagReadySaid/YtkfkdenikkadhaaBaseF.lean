/- The table's rows in a short form; results; arrays in memory. Plain lemmas. -/
import Derived.Test.YtkfkdenikkadhaaBaseE
namespace Go.Proofs.Ytkfkdenikkadhaa
open Go Go.RowKit
set_option linter.unusedVariables false
set_option linter.unusedSimpArgs false
namespace B
def Inf (P : Program) (T : TypeId) (z : Value) (sz bytes : Nat) : Prop := (P.info? T).map (fun i => (i.zero, i.size, i.bytes)) = some (some z, sz, bytes)
theorem Inf.get {P : Program} {T : TypeId} {z : Value} {sz bytes : Nat} (h : Inf P T z sz bytes) : ∃ ti, P.info? T = some ti ∧ ti.zero = some z ∧ ti.size = sz ∧ ti.bytes = bytes := by
  unfold Inf at h
  cases hq : P.info? T with
  | none => rw [hq] at h; simp at h
  | some ti =>
    rw [hq] at h
    simp only [Option.map_some, Option.some.injEq, Prod.mk.injEq] at h
    exact ⟨ti, rfl, h.1, h.2.1, h.2.2⟩
theorem Inf.elem {P : Program} {T : TypeId} {z : Value} {sz bytes : Nat} (h : Inf P T z sz bytes) (hz : z.cells.size = sz) (h0 : Nat.ble 1 sz = true) : ElemOk P T sz bytes := by
  obtain ⟨ti, h1, h2, h3, h4⟩ := h.get
  exact ⟨ti, z, h1, h2, h3, h4, hz, Nat.le_of_ble_eq_true h0⟩
section
variable {P : Program} {Z : Post} {ks : List Fr} {N : Nat} {D : List Deferred} {sl : Sl} {W w : World} {ops : Array Oper} {rest : List Oper} {F : Snap} {cs : List Res} {t T T' E : TypeId} {x y : Operand} {v zv : Value} {pos : String} {af : Array Edge} {sz bytes : Nat} {k : IntKind}
theorem WL.alloc' {d : Nat} (hd : Nat.ble (d + 1) N = true) (h : St W F cs w) (hT : Inf P T zv sz bytes)
    (k : ∀ b w', St W F ([(b, .cells zv.cells T (0, 0))] :: cs) w' → WL P ops Z ks N D ((d, .pointer (some ⟨b, 0, none⟩)) :: sl) rest w') :
    WL P ops Z ks N D sl ({ dst := some d, op := .alloc T, type := t, pos := pos, after := af, guard := none } :: rest) w := by
  obtain ⟨ti, h1, h2, _⟩ := hT.get
  exact WL.alloc hd h h1 h2 k
theorem WL.store' (h : St W F cs w) (i : Nat) {b off : Nat} {arr : Array Value} {tt : TypeId} {fz : Nat × Nat} (hi : cs[i]? = some [(b, .cells arr tt fz)]) (hx : evs sl x = some (.pointer (some ⟨b, off, none⟩))) (hy : evs sl y = some v)
    (hT : Inf P T zv sz bytes) (hz : sz = v.cells.size) (h1 : v.cells.toList.all one_ = true) (hf : Free fz arr.size) (ho : off + v.cells.size ≤ arr.size)
    (k : ∀ w', St W F (cs.set i [(b, .cells (blit arr off v.cells.toList) tt fz)]) w' → WL P ops Z ks N D sl rest w') :
    WL P ops Z ks N D sl ({ dst := none, op := .store T x y, type := t, pos := pos, after := af, guard := none } :: rest) w := by
  obtain ⟨ti, h2, _, h3, _⟩ := hT.get
  exact WL.store h i hi hx hy h2 (h3.trans hz) h1 hf ho k
/-- the address of an element of an array that lies at the head of a block, or in it -/
theorem Runs.aidx {b o' n : Nat} {j : Int} (hu : P.underlying T = some (.array n E)) (hi : Inf P E zv 1 bytes) (hx : evs sl x = some (.pointer (some ⟨b, o', none⟩))) (hy : evs sl y = some (.int k j)) (hj : 0 ≤ j ∧ j < n) :
    Runs P sl (.indexAddr T x y) t w (.pointer (some ⟨b, o' + j.toNat, none⟩)) := by
  obtain ⟨ti, h1, _, h3, _⟩ := hi.get
  have := Runs.aindex (t := t) (w := w) hu h1 h3 hx hy hj
  rwa [add_mk, Nat.mul_one] at this
theorem Runs.lidx {a : Addr} {len cap : Nat} {j : Int} (hu : P.underlying T = some (.slice E)) (hi : Inf P E zv sz bytes) (hx : evs sl x = some (.slice (some a) len cap)) (hy : evs sl y = some (.int k j)) (hj : 0 ≤ j ∧ j < len) :
    Runs P sl (.indexAddr T x y) t w (.pointer (some (a.add (j.toNat * sz)))) := by
  obtain ⟨ti, h1, _, h3, _⟩ := hi.get
  exact Runs.lindex hu h1 h3 hx hy hj
theorem Runs.asl {b n : Nat} {lo hi' : Option Operand} {l h : Option Int} (hu : P.underlying T = some (.array n E)) (hi : Inf P E zv 1 bytes) (hx : evs sl x = some (.pointer (some ⟨b, 0, none⟩))) (h1 : evo sl lo = some l) (h2 : evo sl hi' = some h) (hb : okb l h n n) :
    Runs P sl (.slice T x lo hi' none) t w (.slice (some ⟨b, if n = lo_ l then 0 else lo_ l, none⟩) (hi_ h n - lo_ l) (n - lo_ l)) := by
  obtain ⟨ti, h3, _, h4, _⟩ := hi.get
  have := Runs.aslice (t := t) (w := w) hu h3 h4 hx h1 h2 hb
  rw [add_mk, Nat.mul_one, Nat.zero_add] at this
  have e : (some (if n = lo_ l then (⟨b, 0, none⟩ : Addr) else ⟨b, lo_ l, none⟩)) = some ⟨b, if n = lo_ l then 0 else lo_ l, none⟩ := by split <;> rfl
  rwa [e] at this
theorem Runs.lsl {A : Option Addr} {len cap : Nat} {lo hi' : Option Operand} {l h : Option Int} (hu : P.underlying T = some (.slice E)) (hi : Inf P E zv sz bytes) (hx : evs sl x = some (.slice A len cap)) (h1 : evo sl lo = some l) (h2 : evo sl hi' = some h) (hb : okb l h len cap) :
    Runs P sl (.slice T x lo hi' none) t w (.slice (if cap = lo_ l then A else A.map (·.add (lo_ l * sz))) (hi_ h len - lo_ l) (cap - lo_ l)) := by
  obtain ⟨ti, h3, _, h4, _⟩ := hi.get
  exact Runs.lslice hu h3 h4 hx h1 h2 hb
/-- a whole array, or struct, read out of a block of the call's own -/
theorem Runs.loadAll (h : St W F cs w) (i : Nat) {b : Nat} {arr : Array Value} {tt : TypeId} {fz : Nat × Nat} {d : TypeDesc} (hi : cs[i]? = some [(b, .cells arr tt fz)]) (hu : P.underlying T = some d) (hs : scal d = false) (hT : Inf P T zv sz bytes) (hz : sz = arr.size) (hx : evs sl x = some (.pointer (some ⟨b, 0, none⟩))) :
    Runs P sl (.load T x) t w (.agg arr) := by
  obtain ⟨ti, h1, _, h3, _⟩ := hT.get
  have := Runs.loadA (t := t) (w := w) (vs := arr.toList) hu hs h1 (by rw [h3, hz]; simp) hx (fun j v hv => by
    rw [add_mk, Nat.zero_add]
    exact h.ocell hi (by simpa using hv))
  simpa using this
theorem run_loadVarA {a : Addr} {d : TypeDesc} {vs : List Value} (hu : P.underlying T = some d) (hs : scal d = false) (hT : Inf P T zv sz bytes) (hz : sz = vs.length) (hc : ∀ j v, vs[j]? = some v → w.cell? (a.add j) = some v) : (loadVar T a).run P w = .ok (.agg vs.toArray) w := by
  obtain ⟨ti, h1, _, h3, _⟩ := hT.get
  have := Runs.loadA (P := P) (sl := [(0, .pointer (some a))]) (x := .tmp 0) (t := 0) (w := w) (vs := vs) hu hs h1 (h3.trans hz) rfl hc
  have h4 := this (fun | .tmp 0 => .pointer (some a) | .tmp _ => undef | .const c => c | .global g => .pointer (some ⟨g, 0, none⟩) | .func f => .func (.func f) #[] #[]) (fun x v hx => by
    cases x with
    | tmp t' =>
      cases t' with
      | zero => simpa [evs, lk] using hx
      | succ n => exact absurd hx (by show (none : Option Value) ≠ some v; simp)
    | const c => simpa [evs] using hx
    | global g => simpa [evs] using hx
    | func f => simpa [evs] using hx) { dst := none, op := .load T (.tmp 0), type := 0, pos := "", after := #[], guard := none } rfl rfl
  simp only [execOp] at h4
  rw [Sem.run_bind] at h4
  have h5 : (Instr.loadAt T (.pointer (some a))).run P w = (loadVar T a).run P w := by
    unfold Instr.loadAt
    rw [Sem.run_bind]
    simp [Instr.sureAddr, Sem.run, pure, Result.andThen]
  rw [h5] at h4
  cases hr : (loadVar T a).run P w with
  | ok u w1 =>
    rw [hr] at h4
    simp only [Result.andThen, Sem.run, pure] at h4
    injection h4 with e1 e2
    injection e1 with e1
    rw [e1, e2]
  | halt q w1 =>
    rw [hr] at h4
    simp [Result.andThen] at h4
/-! results -/
def ResOk (P : Program) (sl : Sl) (w : World) : ResultVar → Value → Prop
  | .tmp t, v => lk sl t = some v
  | .cell a T, v => ∃ ad, lk sl a = some (.pointer (some ad)) ∧ (loadVar T ad).run P w = .ok v w
/-- a result variable, as it is read -/
theorem run_res {a : Act} (ha : Ag N [] sl a) {r : ResultVar} {v : Value} (h : ResOk P sl w r v) :
    (∃ t, r = .tmp t ∧ a.tmps[t]? = some v) ∨ ∃ c T ad, r = .cell c T ∧ a.tmps[c]? = some (.pointer (some ad)) ∧ (loadVar T ad).run P w = .ok v w := by
  cases r with
  | tmp t => exact .inl ⟨t, rfl, ha.ag t v h⟩
  | cell c T =>
    obtain ⟨ad, h1, h2⟩ := h
    exact .inr ⟨c, T, ad, rfl, ha.ag c _ h1, h2⟩
theorem retA {fn : Func} {R : Ending → World → Prop} {r : ResultVar} {v : Value} (hr : fn.results = #[r]) (hv : ResOk P sl w r v) (hR : R (.returned v) w) : ∀ a, Ag N [] sl a → bodyPost P fn R .ret a w := fun a ha =>
  ⟨ha.df, v, by rcases run_res ha hv with ⟨t, rfl, h1⟩ | ⟨c, T, ad, rfl, h1, h2⟩ <;> simp_all [results, asAddr], hR⟩
theorem retB {fn : Func} {R : Ending → World → Prop} {r s : ResultVar} {v u : Value} (hr : fn.results = #[r, s]) (hv : ResOk P sl w r v) (hu : ResOk P sl w s u) (hR : R (.returned (.tuple #[v, u])) w) : ∀ a, Ag N [] sl a → bodyPost P fn R .ret a w := fun a ha =>
  ⟨ha.df, .tuple #[v, u], by rcases run_res ha hv with ⟨t, rfl, h1⟩ | ⟨c, T, ad, rfl, h1, h2⟩ <;> rcases run_res ha hu with ⟨t', rfl, h1'⟩ | ⟨c', T', ad', rfl, h1', h2'⟩ <;> simp_all [results, asAddr], hR⟩
end
end B
end Go.Proofs.Ytkfkdenikkadhaa
