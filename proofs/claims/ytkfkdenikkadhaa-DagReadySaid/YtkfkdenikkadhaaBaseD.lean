/- Operations on memory. Plain lemmas. -/
import Derived.Test.YtkfkdenikkadhaaBaseC
namespace Go.Proofs.Ytkfkdenikkadhaa
open Go Go.RowKit
set_option linter.unusedVariables false
set_option linter.unusedSimpArgs false
namespace B
/-- the value of one cell -/
def one_ : Value → Bool
  | .agg _ => false
  | .tuple _ => false
  | _ => true
def scal : TypeDesc → Bool
  | .struct _ => false
  | .array _ _ => false
  | _ => true
section
variable {P : Program} {sl : Sl} {W w : World} {F : Snap} {cs : List Res} {t T T' : TypeId} {x y z : Operand} {k : IntKind} {m n : Int} {v : Value}
theorem run_load {a : Addr} (hc : w.cell? a = some v) : (load a).run P w = .ok v w := by simp [load, Sem.run, hc]
theorem Runs.load1 {a : Addr} {d : TypeDesc} (hu : P.underlying T = some d) (hs : scal d = true) (hx : evs sl x = some (.pointer (some a))) (hc : w.cell? a = some v) : Runs P sl (.load T x) t w v := fun ρ h o ho _ => by
  have h1 : (isAgg T).run P w = .ok false w := by
    cases d <;> simp_all [isAgg, underlying, program, scal, Sem.run, bind, Sem.bind, pure]
  have h2 : (loadVar T a).run P w = .ok v w := by
    unfold loadVar
    rw [Sem.run_bind, h1]
    simp [Result.andThen, run_load hc]
  simp only [execOp, ho, h _ _ hx]
  rw [Sem.run_bind]
  have h3 : (Instr.loadAt T (.pointer (some a))).run P w = .ok v w := by
    unfold Instr.loadAt
    rw [Sem.run_bind]
    simpa [Instr.sureAddr, Sem.run, pure, Result.andThen] using h2
  rw [h3]
  rfl
theorem run_loadCells {a : Addr} (vs : List Value) : ∀ (i : Nat) (acc : Array Value), (∀ j v, vs[j]? = some v → w.cell? (a.add (i + j)) = some v) → (loadCellsFrom a i vs.length acc).run P w = .ok (acc ++ vs.toArray) w := by
  induction vs with
  | nil => intro i acc _; simp [loadCellsFrom, Sem.run, pure]
  | cons v r ih =>
    intro i acc h
    simp only [List.length_cons, loadCellsFrom]
    rw [Sem.run_bind, run_load (by simpa using h 0 v rfl)]
    simp only [Result.andThen]
    rw [ih (i + 1) (acc.push v) (fun j u hj => by have := h (j + 1) u (by simpa using hj); rw [show i + 1 + j = i + (j + 1) by omega]; exact this)]
    simp
theorem Runs.loadA {a : Addr} {d : TypeDesc} {ti : TypeInfo} {vs : List Value} (hu : P.underlying T = some d) (hs : scal d = false) (hi : P.info? T = some ti) (hz : ti.size = vs.length) (hx : evs sl x = some (.pointer (some a)))
    (hc : ∀ j v, vs[j]? = some v → w.cell? (a.add j) = some v) : Runs P sl (.load T x) t w (.agg vs.toArray) := fun ρ h o ho _ => by
  have h1 : (isAgg T).run P w = .ok true w := by
    cases d <;> simp_all [isAgg, underlying, program, scal, Sem.run, bind, Sem.bind, pure]
  have h2 : (loadVar T a).run P w = .ok (.agg vs.toArray) w := by
    unfold loadVar
    rw [Sem.run_bind, h1]
    have h3 := run_loadCells (P := P) (w := w) (a := a) vs 0 #[] (fun j v hj => by simpa using hc j v hj)
    simp only [Result.andThen, if_true]
    simp only [sizeOf, typeInfo, program, bind, Sem.bind, pure]
    simp only [Sem.run, hi, Sem.bind, hz]
    rw [show loadCells a vs.length = loadCellsFrom a 0 vs.length #[] from rfl]
    have := Sem.run_bind (P := P) (w := w) (loadCellsFrom a 0 vs.length #[]) (fun cs => (pure (Value.agg cs) : Sem Value))
    simp only [bind, pure] at this
    rw [this, h3]
    simp [Result.andThen, Sem.run]
  simp only [execOp, ho, h _ _ hx]
  rw [Sem.run_bind]
  have h3 : (Instr.loadAt T (.pointer (some a))).run P w = .ok (.agg vs.toArray) w := by
    unfold Instr.loadAt
    rw [Sem.run_bind]
    simpa [Instr.sureAddr, Sem.run, pure, Result.andThen] using h2
  rw [h3]
  rfl
/-! stores -/
def blit : Array Value → Nat → List Value → Array Value
  | arr, _, [] => arr
  | arr, off, v :: r => blit (arr.setIfInBounds off v) (off + 1) r
theorem blit_size : ∀ (vs : List Value) (arr : Array Value) (off : Nat), (blit arr off vs).size = arr.size
  | [], _, _ => rfl
  | v :: r, arr, off => by simp [blit, blit_size r]
theorem blit_toList : ∀ (vs : List Value) (arr : Array Value) (off : Nat), off + vs.length ≤ arr.size → (blit arr off vs).toList = arr.toList.take off ++ vs ++ arr.toList.drop (off + vs.length)
  | [], arr, off, _ => by simp [blit]
  | v :: r, arr, off, h => by
    simp only [List.length_cons] at h
    simp only [blit]
    rw [blit_toList r _ _ (by simp; omega)]
    simp only [Array.toList_setIfInBounds, List.length_cons]
    rw [List.take_succ_eq_append_getElem (by simp; omega), List.take_set_of_le (by omega : off ≤ off), List.drop_set_of_lt (by omega)]
    simp [Nat.add_assoc, Nat.add_comm 1]
theorem blit_all (vs : List Value) (arr : Array Value) (h : vs.length = arr.size) : blit arr 0 vs = vs.toArray := by
  apply Array.toList_inj.1
  rw [blit_toList vs arr 0 (by omega)]
  simp [← h]
theorem blit_one (arr : Array Value) (off : Nat) (v : Value) : blit arr off [v] = arr.setIfInBounds off v := rfl
def Free (fz : Nat × Nat) (n : Nat) : Prop := ∀ j, j < n → ¬ (fz.1 ≤ j ∧ j < fz.2)
theorem Free.zero (n : Nat) : Free (0, 0) n := fun _ _ h => by have := h.2; simp at this
theorem setBlk_blk (w : World) (b : Nat) (o o' : Obj) : World.setBlk (World.setBlk w b o) b o' = World.setBlk w b o' := by
  simp [World.setBlk]
theorem run_store {b off : Nat} {arr : Array Value} {tt : TypeId} {fz : Nat × Nat} (hb : w.heap[b]? = some (.cells arr tt fz)) (hf : Free fz arr.size) (ho : off < arr.size) (hv : one_ v = true) :
    (store ⟨b, off, none⟩ v).run P w = .ok () (World.setBlk w b (.cells (arr.setIfInBounds off v) tt fz)) := by
  have hc : w.cell? ⟨b, off, none⟩ = some arr[off] := by simp [World.cell?, hb, ho]
  have hz : w.frozen? ⟨b, off, none⟩ = false := by
    have := hf off ho
    simp only [World.frozen?, hb]
    simpa using this
  have : (store ⟨b, off, none⟩ v).run P w = .ok () (w.setCell ⟨b, off, none⟩ v) := by
    cases v <;> simp_all [store, Sem.run, one_]
  rw [this, setCell_blk hb]
theorem run_storeCells {b : Nat} {tt : TypeId} {fz : Nat × Nat} (vs : List Value) : ∀ (w : World) (off i : Nat) (arr : Array Value), w.heap[b]? = some (.cells arr tt fz) → Free fz arr.size → off + i + vs.length ≤ arr.size → (∀ v ∈ vs, one_ v = true) →
    (storeCells ⟨b, off, none⟩ vs i).run P w = .ok () (World.setBlk w b (.cells (blit arr (off + i) vs) tt fz)) := by
  induction vs with
  | nil =>
    intro w off i arr hb _ _ _
    have hlt := (Array.getElem?_eq_some_iff.1 hb)
    obtain ⟨hlt, he⟩ := hlt
    have : World.setBlk w b (.cells arr tt fz) = w := by
      unfold World.setBlk
      have : w.heap.setIfInBounds b (.cells arr tt fz) = w.heap := by
        apply Array.ext_getElem?
        intro j
        by_cases e : b = j
        · subst e; simp [hlt, he]
        · rw [Array.getElem?_setIfInBounds_ne e]
      rw [this]
    simp [storeCells, Sem.run, pure, blit, this]
  | cons v r ih =>
    intro w off i arr hb hf hs h1
    simp only [List.length_cons] at hs
    simp only [storeCells, add_mk]
    rw [Sem.run_bind, run_store hb hf (by omega) (h1 v (by simp))]
    simp only [Result.andThen]
    have hlt := (Array.getElem?_eq_some_iff.1 hb).1
    rw [ih (World.setBlk w b (.cells (arr.setIfInBounds (off + i) v) tt fz)) off (i + 1) (arr.setIfInBounds (off + i) v) (by simp [World.setBlk, hlt]) (by simpa using hf) (by simp; omega) (fun u hu => h1 u (by simp [hu]))]
    rw [setBlk_blk]
    rfl
end
section
variable {P : Program} {Z : Post} {ks : List Fr} {N : Nat} {D : List Deferred} {sl : Sl} {W w : World} {ops : Array Oper} {rest : List Oper} {F : Snap} {cs : List Res} {t T T' : TypeId} {x y z : Operand} {v : Value} {pos : String} {af : Array Edge}
/-- an operation that changes the world: its run -/
theorem WL.skip_ {op : Op} {w' : World} (h : ∀ (ρ : Operand → Value), (∀ x v, evs sl x = some v → ρ x = v) → ∀ o : Oper, o.op = op → (execOp ρ o).run P w = .ok .skip w') (k : WL P ops Z ks N D sl rest w') :
    WL P ops Z ks N D sl ({ dst := none, op := op, type := t, pos := pos, after := af, guard := none } :: rest) w := fun a ha =>
  wpList_plain rfl fun K hK => by
    unfold Oper.wp
    rw [h a.eval (fun x v hx => ha.ev hx) _ rfl]
    exact hK _ _ (k _ ha)
theorem WL.val_ {d : Nat} {op : Op} {w' : World} (hd : Nat.ble (d + 1) N = true) (h : ∀ (ρ : Operand → Value), (∀ x v, evs sl x = some v → ρ x = v) → ∀ o : Oper, o.op = op → o.type = t → (execOp ρ o).run P w = .ok (.value v) w') (k : WL P ops Z ks N D ((d, v) :: sl) rest w') :
    WL P ops Z ks N D sl ({ dst := some d, op := op, type := t, pos := pos, after := af, guard := none } :: rest) w := fun a ha =>
  wpList_plain rfl fun K hK => by
    unfold Oper.wp
    rw [h a.eval (fun x v hx => ha.ev hx) _ rfl rfl]
    exact hK _ _ (k _ (ha.put (Nat.le_of_ble_eq_true hd) v))
theorem WL.store (h : St W F cs w) (i : Nat) {b off : Nat} {arr : Array Value} {tt : TypeId} {fz : Nat × Nat} {ti : TypeInfo} (hi : cs[i]? = some [(b, .cells arr tt fz)]) (hx : evs sl x = some (.pointer (some ⟨b, off, none⟩))) (hy : evs sl y = some v)
    (hT : P.info? T = some ti) (hz : ti.size = v.cells.size) (h1 : v.cells.toList.all one_ = true) (hf : Free fz arr.size) (ho : off + v.cells.size ≤ arr.size)
    (k : ∀ w', St W F (cs.set i [(b, .cells (blit arr off v.cells.toList) tt fz)]) w' → WL P ops Z ks N D sl rest w') :
    WL P ops Z ks N D sl ({ dst := none, op := .store T x y, type := t, pos := pos, after := af, guard := none } :: rest) w := by
  refine WL.skip_ (w' := World.setBlk w b (.cells (blit arr off v.cells.toList) tt fz)) (fun ρ hρ o ho' => ?_) (k _ (h.set1 hi _))
  have hs : (sizeOf T).run P w = .ok v.cells.size w := by simp [sizeOf, typeInfo, program, bind, Sem.bind, pure, Sem.run, hT, hz]
  have h2 := run_storeCells (P := P) v.cells.toList w off 0 arr (h.blk hi) hf (by simpa using ho) (fun u hu => List.all_eq_true.1 h1 u hu)
  have h3 : (storeVar T ⟨b, off, none⟩ v).run P w = .ok () (World.setBlk w b (.cells (blit arr off v.cells.toList) tt fz)) := by
    unfold storeVar
    rw [Sem.run_bind, hs]
    simp only [Result.andThen, ne_eq, not_true_eq_false, if_false]
    have := Sem.run_bind (P := P) (w := w) (pure () : Sem PUnit) (fun _ => storeCells ⟨b, off, none⟩ v.cells.toList)
    simpa [Sem.run, pure, bind, Sem.bind] using h2
  simp only [execOp, ho', hρ _ _ hx, hρ _ _ hy, Instr.storeAt, Instr.sureAddr]
  rw [Sem.run_bind]
  have h4 : (do storeVar T (← (pure ⟨b, off, none⟩ : Sem Addr)) v : Sem Unit).run P w = .ok () (World.setBlk w b (.cells (blit arr off v.cells.toList) tt fz)) := by
    rw [Sem.run_bind]
    simpa [Sem.run, pure, Result.andThen] using h3
  rw [h4]
  rfl
theorem run_newRow (E : TypeId) (c : Array Value) : (newRow E c).run P w = .ok ⟨w.heap.size, 0, none⟩ (w.alloc (.cells c E)) := by
  simp [newRow, newObj, Sem.run, bind, Sem.bind, pure]
theorem WL.alloc {d : Nat} {zv : Value} {ti : TypeInfo} (hd : Nat.ble (d + 1) N = true) (h : St W F cs w) (hT : P.info? T = some ti) (hz : ti.zero = some zv)
    (k : ∀ b w', St W F ([(b, .cells zv.cells T (0, 0))] :: cs) w' → WL P ops Z ks N D ((d, .pointer (some ⟨b, 0, none⟩)) :: sl) rest w') :
    WL P ops Z ks N D sl ({ dst := some d, op := .alloc T, type := t, pos := pos, after := af, guard := none } :: rest) w := by
  refine WL.val_ (w' := w.alloc (.cells zv.cells T)) hd (fun ρ hρ o ho _ => ?_) (k _ _ (h.alloc _))
  simp [execOp, ho, Instr.alloc, zeroValue, typeInfo, program, bind, Sem.bind, pure, Sem.run, hT, hz, newVar, newRow, newObj]
theorem WL.box {d : Nat} (hd : Nat.ble (d + 1) N = true) (h : St W F cs w) (hx : evs sl x = some v)
    (k : ∀ b w', St W F ([(b, .cells v.cells T (0, 0))] :: cs) w' → WL P ops Z ks N D ((d, .pointer (some ⟨b, 0, none⟩)) :: sl) rest w') :
    WL P ops Z ks N D sl ({ dst := some d, op := .box T x, type := t, pos := pos, after := af, guard := none } :: rest) w := by
  refine WL.val_ (w' := w.alloc (.cells v.cells T)) hd (fun ρ hρ o ho _ => ?_) (k _ _ (h.alloc _))
  simp [execOp, ho, hρ _ _ hx, Instr.box, bind, Sem.bind, pure, Sem.run, newVar, newRow, newObj]
end

/-! ### rows of the call's own -/
def IsRow (E : TypeId) (sz : Nat) (r : Res) (v : Value) (n : Nat) (cl : List Value) : Prop :=
  (r = [] ∧ v = .slice none 0 0 ∧ n = 0 ∧ cl = []) ∨
  ∃ b cap arr fz, r = [(b, .cells arr E fz)] ∧ v = .slice (some ⟨b, 0, none⟩) n cap ∧ arr.size = cap * sz ∧ n ≤ cap ∧ cl = arr.toList.take (n * sz) ∧ Free fz arr.size
theorem IsRow.nil (E : TypeId) (sz : Nat) : IsRow E sz [] (.slice none 0 0) 0 [] := .inl ⟨rfl, rfl, rfl, rfl⟩
theorem IsRow.len {E : TypeId} {sz n : Nat} {r : Res} {v : Value} {cl : List Value} (h : IsRow E sz r v n cl) : cl.length = n * sz := by
  rcases h with ⟨_, _, rfl, rfl⟩ | ⟨b, cap, arr, fz, _, _, hs, hn, rfl, _⟩
  · simp
  · have : n * sz ≤ cap * sz := Nat.mul_le_mul_right _ hn
    rw [List.length_take, Array.length_toList, hs]; omega
theorem IsRow.val {E : TypeId} {sz n : Nat} {r : Res} {v : Value} {cl : List Value} (h : IsRow E sz r v n cl) : ∃ A cap, v = .slice A n cap ∧ n ≤ cap := by
  rcases h with ⟨_, rfl, rfl, _⟩ | ⟨b, cap, arr, fz, _, rfl, _, hn, _, _⟩
  · exact ⟨none, 0, rfl, Nat.le_refl _⟩
  · exact ⟨_, cap, rfl, hn⟩
/-- what is appended, as it is read -/
structure Src (P : Program) (w : World) (sz : Nat) (x : Value) (m : Nat) (src : List Value) : Prop where
  len : ∀ j, (Builtin.lenOf x).run P (w.drewN j) = .ok m (w.drewN j)
  cells : ∀ j, (Builtin.firstCells sz m x).run P (w.drewN j) = .ok src.toArray (w.drewN j)
  size : src.length = m * sz
  one : src.all one_ = true
section
variable {P : Program} {W w : World} {F : Snap} {cs : List Res}
theorem Src.nil {sz c : Nat} : Src P w sz (.slice none 0 c) 0 [] :=
  ⟨fun _ => by simp [Builtin.lenOf, Sem.run, pure], fun _ => by simp [Builtin.firstCells, Sem.run, pure], by simp, rfl⟩
theorem Src.str {s : ByteArray} : Src P w 1 (.string s) s.size (s.data.toList.map fun b => Value.int .u8 b.toNat) := by
  refine ⟨fun _ => by simp [Builtin.lenOf, Sem.run, pure], fun _ => ?_, by simp, by rw [List.all_eq_true]; intro u hu; obtain ⟨b, _, rfl⟩ := List.mem_map.1 hu; rfl⟩
  have : s.extract 0 s.size = s := ByteArray.extract_zero_size
  simp only [Builtin.firstCells, Sem.run, pure, this]
  congr 1
  apply Array.toList_inj.1
  simp
theorem Src.slice {sz m c : Nat} {A : Option Addr} {src : List Value} (hl : src.length = m * sz) (h : src = [] ∨ ∃ ad, A = some ad ∧ ∀ j v, src[j]? = some v → w.cell? (ad.add j) = some v) (h1 : src.all one_ = true) : Src P w sz (.slice A m c) m src := by
  refine ⟨fun _ => by simp [Builtin.lenOf, Sem.run, pure], fun j => ?_, hl, h1⟩
  cases A with
  | none =>
    have : src = [] := by
      rcases h with h | ⟨ad, h, _⟩
      · exact h
      · cases h
    subst this
    simp [Builtin.firstCells, Sem.run, pure]
  | some ad =>
    have hc : ∀ i v, src[i]? = some v → (w.drewN j).cell? (ad.add (0 + i)) = some v := by
      intro i v hv
      rcases h with h | ⟨ad', h, hh⟩
      · rw [h] at hv; simp at hv
      · cases h; rw [Nat.zero_add]; exact hh i v hv
    have := run_loadCells (P := P) (w := w.drewN j) (a := ad) src 0 #[] hc
    simp only [Builtin.firstCells, loadCells]
    rw [← hl]
    simpa using this
end
section
variable {P : Program} {W w : World} {F : Snap} {cs : List Res} {E t t' ty : TypeId} {ti : TypeInfo} {zv : Value} {sz bytes : Nat}
theorem growBy_le (need : Nat) : ∀ (r c : Nat), c ≤ 2 * need + 1024 → Builtin.growBy need r c ≤ 4 * need + 4096
  | 0, c, h => by simp only [Builtin.growBy]; omega
  | r + 1, c, h => by
    simp only [Builtin.growBy]
    split
    · omega
    · rename_i hlt
      refine growBy_le need r _ ?_
      omega
theorem cap_le {need old : Nat} (h : old < need) : Builtin.nextslicecap need old ≤ 4 * need + 4096 := by
  unfold Builtin.nextslicecap
  split
  · omega
  · split
    · omega
    · exact growBy_le need 4 old (by omega)
theorem zeroCells_one {z : Array Value} (h : z.all one_ = true) (n : Nat) : True := trivial
structure ElemOk (P : Program) (E : TypeId) (sz bytes : Nat) : Prop where
  ok : ∃ ti zv, P.info? E = some ti ∧ ti.zero = some zv ∧ ti.size = sz ∧ ti.bytes = bytes ∧ zv.cells.size = sz ∧ 0 < sz
theorem run_append {r : Res} {v x : Value} {n m : Nat} {cl src : List Value} {d' : TypeDesc} (ht : P.underlying t = some (.slice E)) (ht' : P.underlying t' = some d') (hd' : d' = .string ∨ ∃ e, d' = .slice e) (hE : ElemOk P E sz bytes)
    (hr : IsRow E sz r v n cl) (hw : ∀ p ∈ r, w.heap[p.1]? = some p.2) (hs : Src P w sz x m src) (hsmall : (4 * (n + m) + 4096) * bytes ≤ 281474976710656) (hnm : n + m ≤ 9223372036854775807) :
    ∃ v' w' r', (Builtin.append_ #[t, t'] ty #[v, x]).run P w = .ok v' w' ∧ IsRow E sz r' v' (n + m) (cl ++ src) ∧
      ((∃ b o o', r = [(b, o)] ∧ r' = [(b, o')] ∧ w' = World.setBlk w b o') ∨ (r = [] ∧ r' = [] ∧ w' = w) ∨ (∃ o', r' = [(w.heap.size, o')] ∧ w' = (w.drewN 1).alloc o')) := by
  obtain ⟨ti, zv, hi, hz, hsz, hby, hzs, hpos⟩ := hE.ok
  obtain ⟨A, cap, hv, hncap⟩ := hr.val
  have hd0 : w.drewN 0 = w := rfl
  have hlen := hs.len 0
  have hcells0 := hs.cells 0
  have hcells1 := hs.cells 1
  rw [hd0] at hlen hcells0
  subst hsz; subst hby
  have hzeros : (do let u ← underlying t'; pure ((u matches .int _) : Bool) : Sem Bool).run P w = .ok false w := by
    rcases hd' with rfl | ⟨e, rfl⟩ <;> simp [run_underlying ht', Sem.run_bind, Result.andThen, Sem.run, pure]
  by_cases hfit : n + m ≤ cap
  · -- in place
    rcases hr with ⟨rfl, hv', rfl, rfl⟩ | ⟨b, cap', arr, fz, rfl, hv', hsize, hn', rfl, hfree⟩
    · rw [hv] at hv'
      injection hv' with hA _ hc
      subst hA; subst hc
      have hm : m = 0 := by omega
      subst hm
      have : src = [] := by have := hs.size; simpa using this
      subst this
      refine ⟨.slice none 0 0, w, [], ?_, .inl ⟨rfl, rfl, rfl, rfl⟩, .inr (.inl ⟨rfl, rfl, rfl⟩)⟩
      subst hv
      rcases hd' with rfl | ⟨e, rfl⟩ <;> simp [Builtin.append_, run_underlying ht, run_underlying ht', sizeOf, typeInfo, hi, hlen, hcells0]
    · rw [hv] at hv'
      injection hv' with hA _ hc
      subst hA; subst hc
      subst hv
      have hb : w.heap[b]? = some (.cells arr E fz) := hw (b, .cells arr E fz) (by simp)
      have hcap : n * ti.size + src.length ≤ arr.size := by rw [hs.size, ← Nat.add_mul, hsize]; exact Nat.mul_le_mul_right _ hfit
      have hst := run_storeCells (P := P) src w (n * ti.size) 0 arr hb hfree (by simpa using hcap) (fun u hu => List.all_eq_true.1 hs.one u hu)
      refine ⟨.slice (some ⟨b, 0, none⟩) (n + m) cap, World.setBlk w b (.cells (blit arr (n * ti.size) src) E fz), [(b, .cells (blit arr (n * ti.size) src) E fz)], ?_, .inr ⟨b, cap, _, fz, rfl, rfl, by rw [blit_size, hsize], hfit, ?_, by rw [blit_size]; exact hfree⟩, .inl ⟨b, _, _, rfl, rfl, rfl⟩⟩
      · rcases hd' with rfl | ⟨e, rfl⟩ <;> simp [Builtin.append_, run_underlying ht, run_underlying ht', sizeOf, typeInfo, hi, hlen, hcells0, hfit, add_mk, hst]
      · rw [blit_toList _ _ _ hcap, Nat.add_mul, ← hs.size]
        exact (List.take_left' (by rw [List.length_append, List.length_take, Array.length_toList]; omega)).symm
  · -- a new block
    have hold : (Builtin.firstCells ti.size n v).run P w.drew = .ok cl.toArray w.drew := by
      rcases hr with ⟨rfl, rfl, rfl, rfl⟩ | ⟨b, cap', arr, fz, rfl, rfl, hsize, hn', rfl, hfree⟩
      · simp [Builtin.firstCells, Sem.run, pure]
      · have hb : w.heap[b]? = some (.cells arr E fz) := hw (b, .cells arr E fz) (by simp)
        have hl : (arr.toList.take (n * ti.size)).length = n * ti.size := by
          have : n * ti.size ≤ cap' * ti.size := Nat.mul_le_mul_right _ hn'
          rw [List.length_take, Array.length_toList, hsize]; omega
        have := run_loadCells (P := P) (w := w.drew) (a := ⟨b, 0, none⟩) (arr.toList.take (n * ti.size)) 0 #[] (fun i u hu => by
          rw [add_mk]
          have hb' : w.drew.heap[b]? = some (.cells arr E fz) := hb
          rw [List.getElem?_take] at hu
          split at hu
          · simp only [World.cell?, hb']
            simpa using hu
          · cases hu)
        rw [hl] at this
        simpa [Builtin.firstCells, loadCells] using this
    have hnew : (Builtin.firstCells ti.size m x).run P w.drew = .ok src.toArray w.drew := hcells1
    have hcap : Builtin.nextslicecap (n + m) cap * ti.bytes ≤ 281474976710656 := by
      have h1 := cap_le (need := n + m) (old := cap) (by omega)
      exact Nat.le_trans (Nat.mul_le_mul_right _ h1) hsmall
    have hmax : IntKind.i64.max = 9223372036854775807 := by decide
    obtain ⟨c', hc'⟩ : ∃ c', c' = (n + m) + w.tape w.drawn (.appendCap (n + m) cap E) % (2 ^ 63 - (n + m)) := ⟨_, rfl⟩
    have hge : n + m ≤ c' := by omega
    have hroom : ∀ w0 : World, (askRoom (c' * ti.bytes)).run P w0 = .ok () w0 := by
      intro w0; unfold askRoom; split <;> simp [mark, Sem.run, pure]
    refine ⟨.slice (some ⟨w.heap.size, 0, none⟩) (n + m) c', (w.drewN 1).alloc (.cells (cl.toArray ++ (src.toArray ++ Builtin.zeroCells zv.cells (c' - (n + m)))) E), [(w.heap.size, .cells (cl.toArray ++ (src.toArray ++ Builtin.zeroCells zv.cells (c' - (n + m)))) E)], ?_, .inr ⟨w.heap.size, c', _, (0, 0), rfl, rfl, ?_, hge, ?_, Free.zero _⟩, .inr (.inr ⟨_, rfl, rfl⟩)⟩
    · have hfor : (Question.appendCap (n + m) cap E).forced = false := rfl
      have hcut : (Question.appendCap (n + m) cap E).cut (w.tape w.drawn (.appendCap (n + m) cap E)) = c' := hc'.symm
      have hn1 : ¬ ((9223372036854775807 : Int) < (n : Int) + m) := by omega
      have hn2 : ¬ (281474976710656 < Builtin.nextslicecap (n + m) cap * ti.bytes) := by omega
      subst hv
      have e48 : (2 : Nat) ^ 48 = 281474976710656 := rfl
      rcases hd' with rfl | ⟨e, rfl⟩ <;> simp [Builtin.append_, run_underlying ht, run_underlying ht', sizeOf, typeInfo, hi, hlen, hfit, hn1, hn2, e48, hfor, hcut, hroom, hold, hnew, zeroValue, hz, run_newRow] <;> rfl
    · simp only [Array.size_append, List.size_toArray, size_zeroCells, hzs, hr.len, hs.size, ← Nat.add_mul]
      congr 1; omega
    · simp only [Array.toList_append, List.append_assoc]
      rw [← List.append_assoc]
      exact (List.take_left' (by rw [List.length_append, hr.len, hs.size, ← Nat.add_mul])).symm
end
end B
end Go.Proofs.Ytkfkdenikkadhaa
