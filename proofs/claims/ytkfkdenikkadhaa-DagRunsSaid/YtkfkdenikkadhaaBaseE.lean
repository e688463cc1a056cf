/- Operations on rows: append, literals, make, bytes and strings, copy; regions that draw. Plain lemmas. -/
import Derived.Test.YtkfkdenikkadhaaBaseD
import Derived.StillTail
namespace Go.Proofs.Ytkfkdenikkadhaa
open Go Go.RowKit
set_option linter.unusedVariables false
set_option linter.unusedSimpArgs false
namespace B
section
variable {P : Program} {Z : Post} {ks : List Fr} {N : Nat} {D : List Deferred} {sl : Sl} {W w : World} {ops : Array Oper} {rest : List Oper} {F : Snap} {cs : List Res} {t t' T T' E : TypeId} {x y z : Operand} {v : Value} {pos : String} {af : Array Edge} {sz bytes : Nat}
theorem St.setNew {r : Res} (h : St W F cs w) {i : Nat} (hi : cs[i]? = some r) (o : Obj) : St W F (cs.set i [(w.heap.size, o)]) (w.alloc o) := by
  obtain ⟨l1, l2, e1, e2, e3⟩ := split_at cs i _ hi
  rw [e2]
  have h1 := (h.alloc o).drop (i + 1)
  simp only [List.eraseIdx_cons_succ, e3] at h1
  exact h1.perm List.perm_middle
theorem set_self {α : Type} : ∀ (l : List α) (i : Nat) (x : α), l[i]? = some x → l.set i x = l
  | [], _, _, h => by simp at h
  | a :: l, 0, x, h => by simp only [List.getElem?_cons_zero, Option.some.injEq] at h; subst h; rfl
  | a :: l, i + 1, x, h => by simp only [List.getElem?_cons_succ] at h; simp [set_self l i x h]
theorem WL.append (i : Nat) (h : St W F cs w) {r : Res} (hi : cs[i]? = some r) {d : Nat} (hd : Nat.ble (d + 1) N = true) {xv : Value} {n m : Nat} {cl src : List Value} {d' : TypeDesc} (hx : evs sl x = some v) (hy : evs sl y = some xv)
    (ht : P.underlying T = some (.slice E)) (ht' : P.underlying T' = some d') (hd' : d' = .string ∨ ∃ e, d' = .slice e) (hE : ElemOk P E sz bytes)
    (hr : IsRow E sz r v n cl) (hs : Src P w sz xv m src) (hsmall : (4 * (n + m) + 4096) * bytes ≤ 281474976710656) (hnm : n + m ≤ 9223372036854775807)
    (k : ∀ r' v' w', IsRow E sz r' v' (n + m) (cl ++ src) → St W F (cs.set i r') w' → WL P ops Z ks N D ((d, v') :: sl) rest w') :
    WL P ops Z ks N D sl ({ dst := some d, op := .call { callee := .builtin .append, args := #[x, y], argTypes := #[T, T'] }, type := t, pos := pos, after := af, guard := none } :: rest) w := by
  obtain ⟨v', w', r', hrun, hr', hw'⟩ := run_append (ty := t) ht ht' hd' hE hr (fun p hp => (h.own p (List.mem_flatten.2 ⟨_, List.mem_of_getElem? hi, hp⟩)).1) hs hsmall hnm
  have hst : St W F (cs.set i r') w' := by
    rcases hw' with ⟨b, o, o', rfl, rfl, rfl⟩ | ⟨rfl, rfl, rfl⟩ | ⟨o', rfl, rfl⟩
    · exact h.set1 hi o'
    · rw [set_self _ _ _ hi]; exact h
    · exact (h.below (w' := w.drewN 1) ⟨rfl, rfl, rfl, Nat.le_refl _, fun _ _ => rfl⟩).setNew hi o'
  refine WL.val_ (w' := w') hd (fun ρ hρ o ho hty => ?_) (k r' v' w' hr' hst)
  simp [execOp, ho, hρ _ _ hx, hρ _ _ hy, resolve, invoke, builtin, hty, hrun]
def pargs (sl : Sl) : List (Nat × Operand) → Option (List (Nat × Value))
  | [] => some []
  | (i, x) :: r => match evs sl x, pargs sl r with | some v, some l => some ((i, v) :: l) | _, _ => none
theorem pargs_spec {ρ : Operand → Value} (hρ : ∀ x v, evs sl x = some v → ρ x = v) : ∀ (xs : List (Nat × Operand)) (vs : List (Nat × Value)), pargs sl xs = some vs → xs.map (fun p => (p.1, ρ p.2)) = vs
  | [], vs, h => by simp [pargs] at h; simp [h]
  | (i, x) :: r, vs, h => by
    unfold pargs at h
    cases h1 : evs sl x with
    | none => rw [h1] at h; simp at h
    | some v =>
      cases h2 : pargs sl r with
      | none => rw [h1, h2] at h; simp at h
      | some l =>
        rw [h1, h2] at h
        simp only [Option.some.injEq] at h
        subst h
        simp [hρ x v h1, pargs_spec hρ r l h2]
def numbered : Nat → List Value → List (Nat × Value)
  | _, [] => []
  | i, v :: r => (i, v) :: numbered (i + 1) r
theorem foldl_blit (c : Array Value) : ∀ (l : List Value) (cells : Array Value) (off j : Nat), (l.zipIdx j).foldl (fun cs (p : Value × Nat) => cs.setIfInBounds (off + p.2) p.1) cells = blit cells (off + j) l
  | [], _, _, _ => rfl
  | v :: r, cells, off, j => by
    simp only [List.zipIdx_cons, List.foldl_cons, blit]
    exact foldl_blit c r _ off (j + 1)
theorem fill_all {place : Nat → Option (Nat × Nat)} (hp : ∀ i, place i = some (i * sz, sz)) : ∀ (vs : List Value) (i : Nat) (pre : List Value) (cells : Array Value), pre.length = i * sz → (∀ v ∈ vs, v.cells.size = sz) →
    cells.toList.take (i * sz) = pre → cells.size = (i + vs.length) * sz → Instr.fill place cells (numbered i vs) = some (pre ++ vs.flatMap (·.cells.toList)).toArray
  | [], i, pre, cells, hl, _, ht, hs => by
    simp only [numbered, Instr.fill, List.flatMap_nil, List.append_nil, Option.some.injEq]
    apply Array.toList_inj.1
    rw [← ht, List.take_of_length_le (by rw [Array.length_toList, hs]; simp)]
  | v :: r, i, pre, cells, hl, hv, ht, hs => by
    have h1 : v.cells.size = sz := hv v (by simp)
    simp only [List.length_cons] at hs
    have h2 : i * sz + sz ≤ cells.size := by
      rw [hs, show i * sz + sz = (i + 1) * sz by rw [Nat.add_mul, Nat.one_mul]]
      exact Nat.mul_le_mul_right _ (by omega)
    simp only [numbered, Instr.fill, hp, h1, ne_eq, not_true_eq_false, decide_false, Bool.false_or, decide_eq_true_eq]
    rw [if_neg (by omega)]
    have e : (v.cells.zipIdx.foldl (fun cs (x : Value × Nat) => cs.setIfInBounds (i * sz + x.2) x.1) cells) = blit cells (i * sz) v.cells.toList := by
      rw [← Array.foldl_toList, Array.toList_zipIdx]
      exact foldl_blit cells v.cells.toList cells (i * sz) 0
    have hb := blit_toList v.cells.toList cells (i * sz) (by simpa [h1] using h2)
    have key := fill_all hp r (i + 1) (pre ++ v.cells.toList) (blit cells (i * sz) v.cells.toList) (by simp [hl, h1, Nat.add_mul]) (fun u hu => hv u (by simp [hu])) (by
      rw [hb, ht]
      exact List.take_left' (by simp [hl, h1, Nat.add_mul])) (by rw [blit_size, hs]; congr 1; omega)
    have e2 : (v.cells.zipIdx.foldl (fun cs x => match x with | (c, j) => cs.setIfInBounds (i * sz + j) c) cells) = blit cells (i * sz) v.cells.toList := e
    rw [e2, key]
    simp
theorem WL.buildSlice (h : St W F cs w) {d : Nat} (hd : Nat.ble (d + 1) N = true) {n : Nat} {ps : List (Nat × Operand)} {vs : List Value} (hT : P.underlying T = some (.slice E)) (hE : ElemOk P E sz bytes) (hp : pargs sl ps = some (numbered 0 vs)) (hn : vs.length = n)
    (hv : vs.all (fun v => v.cells.size == sz) = true) (hbig : n * sz ≤ 16777216)
    (k : ∀ b w', St W F ([(b, .cells (vs.flatMap (·.cells.toList)).toArray E (0, 0))] :: cs) w' → WL P ops Z ks N D ((d, .slice (some ⟨b, 0, none⟩) n n) :: sl) rest w') :
    WL P ops Z ks N D sl ({ dst := some d, op := .buildSlice T n ps.toArray, type := t, pos := pos, after := af, guard := none } :: rest) w := by
  obtain ⟨ti, zv, hi, hz, hsz, hby, hzs, hpos⟩ := hE.ok
  refine WL.val_ (w' := w.alloc (.cells (vs.flatMap (·.cells.toList)).toArray E)) hd (fun ρ hρ o ho _ => ?_) (k _ _ (h.alloc _))
  subst hn
  have hf : ∀ cells : Array Value, cells.size = vs.length * sz → Instr.fill (fun i => some (i * sz, sz)) cells (numbered 0 vs) = some (vs.flatMap (·.cells.toList)).toArray := by
    intro cells hc
    have := fill_all (place := fun i => some (i * sz, sz)) (fun _ => rfl) vs 0 [] cells (by simp) (fun v hvv => by simpa using List.all_eq_true.1 hv v hvv) (by simp) (by simpa using hc)
    simpa using this
  have hps : (ps.toArray.map fun (p : Nat × Operand) => (p.1, ρ p.2)) = (numbered 0 vs).toArray := by rw [List.map_toArray, pargs_spec hρ ps _ hp]
  have hrun : (Instr.buildSlice T vs.length (numbered 0 vs).toArray).run P w = .ok (.slice (some ⟨w.heap.size, 0, none⟩) vs.length vs.length) (w.alloc (.cells (vs.flatMap (·.cells.toList)).toArray E)) := by
    have hb : ¬ (16777216 < vs.length * sz) := by omega
    have e24 : (2 : Nat) ^ 24 = 16777216 := rfl
    by_cases h0 : vs.length * sz = 0
    · have hvs : vs = [] := by
        have : vs.length = 0 := by
          rcases Nat.mul_eq_zero.1 h0 with h | h
          · exact h
          · omega
        exact List.eq_nil_of_length_eq_zero this
      subst hvs
      simp [Instr.buildSlice, run_underlying hT, sizeOf, typeInfo, hi, hsz, e24, numbered, Instr.fill, run_newRow]
      exact congrArg (fun c => w.alloc (.cells c E)) (Array.eq_empty_of_size_eq_zero (by simp))
    · have hff := hf ((Array.range (vs.length * sz)).map (fun i => zv.cells[i % zv.cells.size]!)) (by simp)
      simp [Instr.buildSlice, run_underlying hT, sizeOf, typeInfo, hi, hsz, e24, hb, h0, zeroValue, hz, hff, run_newRow]
  simp only [execOp, ho]
  rw [Sem.run_bind]
  have : (ps.toArray.map fun x => match x with | (i, x) => (i, ρ x)) = (numbered 0 vs).toArray := hps
  rw [this, hrun]
  rfl
/-! bytes and strings -/
theorem Runs.b2s {A : Option Addr} {len cap : Nat} {bs : List UInt8} (hs : P.underlying T = some (.slice E)) (he : P.underlying E = some (.int .u8)) (hd : P.underlying T' = some .string) (hx : evs sl x = some (.slice A len cap)) (hl : len = bs.length)
    (hc : bs = [] ∨ ∃ ad, A = some ad ∧ ∀ j b, bs[j]? = some b → w.cell? (ad.add j) = some (.int .u8 b.toNat)) : Runs P sl (.convert T T' x) t w (.string ⟨bs.toArray⟩) := fun ρ hρ o ho _ => by
  subst hl
  have key : (convert T T' (.slice A bs.length cap)).run P w = .ok (.string ⟨bs.toArray⟩) w := by
    cases A with
    | none =>
      have : bs = [] := by
        rcases hc with h | ⟨ad, h, _⟩
        · exact h
        · cases h
      subst this
      rw [run_convert_bytes_string w T T' E none _ _ hs he hd]
      simp [Conv.bytesToString, Sem.run, pure]
      rfl
    | some ad =>
      refine run_convert_bytes_back w T T' E ad cap bs hs he hd (fun j hj => ?_)
      rcases hc with h | ⟨ad', h, hh⟩
      · subst h; simp at hj
      · cases h; exact hh j _ (List.getElem?_eq_getElem hj)
  simp [execOp, ho, hρ _ _ hx, key]
theorem WL.s2b (h : St W F cs w) {d : Nat} (hd : Nat.ble (d + 1) N = true) {s : ByteArray} (hs : P.underlying T = some .string) (hT : P.underlying T' = some (.slice E)) (hE : P.underlying E = some (.int .u8)) (hx : evs sl x = some (.string s))
    (k : ∀ r v' w', IsRow E 1 r v' s.size (s.data.toList.map fun b => Value.int .u8 b.toNat) → St W F (r :: cs) w' → WL P ops Z ks N D ((d, v') :: sl) rest w') :
    WL P ops Z ks N D sl ({ dst := some d, op := .convert T T' x, type := t, pos := pos, after := af, guard := none } :: rest) w := by
  have hrun := run_bytes_of_string (P := P) w T T' E s hs hT hE
  have hge : s.size ≤ grownCap w s.size 0 E := grownCap_ge w s.size 0 E
  refine WL.val_ (w' := w.drew.alloc (.cells (bytesRow s (grownCap w s.size 0 E)) E ((bytesRow s (grownCap w s.size 0 E)).size, (bytesRow s (grownCap w s.size 0 E)).size + 1))) (v := .slice (some ⟨w.heap.size, 0, none⟩) s.size (grownCap w s.size 0 E)) hd (fun ρ hρ o ho _ => ?_)
    (k [(w.heap.size, .cells (bytesRow s (grownCap w s.size 0 E)) E ((bytesRow s (grownCap w s.size 0 E)).size, (bytesRow s (grownCap w s.size 0 E)).size + 1))] _ _ ?_ ?_)
  · simp [execOp, ho, hρ _ _ hx, hrun]
  · refine .inr ⟨w.heap.size, _, _, _, rfl, rfl, ?_, hge, ?_, ?_⟩
    · simp [bytesRow]; exact Nat.add_sub_cancel' hge
    · have h1 : s.data.toList.length = s.size := by simp
      simp only [bytesRow, Array.toList_append, Array.toList_map, Nat.mul_one]
      exact (List.take_left' (by simp)).symm
    · intro j hj hh
      simp only at hh; omega
  · exact (h.drew).alloc _
/-! copy into a block of the call's own -/
theorem WL.copy (h : St W F cs w) (i : Nat) {b off len cap m : Nat} {arr : Array Value} {tt : TypeId} {fz : Nat × Nat} {d : Nat} (hd : Nat.ble (d + 1) N = true) (hi : cs[i]? = some [(b, .cells arr tt fz)]) {xv : Value} {src : List Value}
    (hT : P.underlying T = some (.slice E)) (hE : ElemOk P E sz bytes) (hx : evs sl x = some (.slice (some ⟨b, off, none⟩) len cap)) (hy : evs sl y = some xv) (hm : (Builtin.lenOf xv).run P w = .ok m w) (hs : (Builtin.firstCells sz (Nat.min m len) xv).run P w = .ok src.toArray w)
    (h1 : src.all one_ = true) (hf : Free fz arr.size) (ho : off + src.length ≤ arr.size)
    (k : ∀ w', St W F (cs.set i [(b, .cells (blit arr off src) tt fz)]) w' → WL P ops Z ks N D ((d, .int .i64 (Nat.min m len : Nat)) :: sl) rest w') :
    WL P ops Z ks N D sl ({ dst := some d, op := .call { callee := .builtin .copy, args := #[x, y], argTypes := #[T, T'] }, type := t, pos := pos, after := af, guard := none } :: rest) w := by
  obtain ⟨ti, zv, hti, hz, hsz, hby, hzs, hpos⟩ := hE.ok
  refine WL.val_ (w' := World.setBlk w b (.cells (blit arr off src) tt fz)) hd (fun ρ hρ o ho' _ => ?_) (k _ (h.set1 hi _))
  have hst := run_storeCells (P := P) src w off 0 arr (h.blk hi) hf (by simpa using ho) (fun u hu => List.all_eq_true.1 h1 u hu)
  have : (Builtin.copy_ #[T, T'] t #[.slice (some ⟨b, off, none⟩) len cap, xv]).run P w = .ok (.int .i64 (Nat.min m len : Nat)) (World.setBlk w b (.cells (blit arr off src) tt fz)) := by
    subst hsz
    simp [Builtin.copy_, run_underlying hT, sizeOf, typeInfo, hti, hm, hs, hst, goInt]
  simp [execOp, ho', hρ _ _ hx, hρ _ _ hy, resolve, invoke, builtin, this]
  rename_i hty
  have := this
  simp_all [Builtin.copy_, run_underlying hT, sizeOf, typeInfo, hti, hm, hs, hst, goInt]
/-! a region that draws its order: one walk of the text serves every order -/
def WQ (P : Program) (ops : Array Oper) (C : World → Prop) (Q : Act → Prop) (N : Nat) (D : List Deferred) (sl : Sl) (rest : List Oper) : Prop := ∀ a, Ag N D sl a → wpQuiet P ops C Q rest a
theorem WC.qreg (C : World → Prop) {id : Nat} {l : List Oper} (hm : P.follows .mixedOrders = true) (hB : Region.lexB .any l.toArray = true) (hC : C { w with drawn := w.drawn + 1 })
    (h : WQ P l.toArray C (fun a' => ∀ w', C w' → den P Z ks .normal a' w') N D sl l) : WC P Z ks N D sl (.region id l.toArray true) w := fun a ha =>
  wp_region_quiet (C := C) hm hB hC (by simpa using h a ha)
theorem WQ.fin {C : World → Prop} (h : ∀ w', C w' → WN P Z ks N D sl w') : WQ P ops C (fun a' => ∀ w', C w' → den P Z ks .normal a' w') N D sl [] := fun a ha w' hC => h w' hC a ha
theorem WQ.val {C : World → Prop} {Q : Act → Prop} {d : Nat} {op : Op} {v : Value} (h : ∀ w, C w → Runs P sl op t w v) (hd : Nat.ble (d + 1) N = true) (k : WQ P ops C Q N D ((d, v) :: sl) rest) :
    WQ P ops C Q N D sl ({ dst := some d, op := op, type := t, pos := pos, after := af, guard := none } :: rest) := fun a ha => by
  refine wpQuiet_step fun K hK => ?_
  rw [if_pos (by rfl)]
  refine ⟨v, fun w hC => ?_, hK _ (k _ (ha.put (Nat.le_of_ble_eq_true hd) v))⟩
  unfold Oper.quietAt
  rw [h w hC a.eval (fun x v hx => ha.ev hx) _ rfl rfl]
  exact ⟨rfl, rfl⟩
theorem WQ.call {C : World → Prop} {Q : Act → Prop} {d : Nat} {f : FuncId} {xs : List Operand} {vs : List Value} {ts : Array TypeId} {v : Value} (hc : Can P f) (hv : args_ sl xs = some vs) (hd : Nat.ble (d + 1) N = true)
    (c : ∀ w, C w → Calls P f vs.toArray w fun e w' => e = .returned v ∧ C w') (k : WQ P ops C Q N D ((d, v) :: sl) rest) :
    WQ P ops C Q N D sl ({ dst := some d, op := .call { callee := .value (.func f), args := xs.toArray, argTypes := ts }, type := t, pos := pos, after := af, guard := none } :: rest) := fun a ha => by
  refine wpQuiet_step fun K hK => ?_
  rw [if_pos (by rfl)]
  refine ⟨v, fun w hC => ?_, hK _ (k _ (ha.put (Nat.le_of_ble_eq_true hd) v))⟩
  unfold Oper.quietAt
  rw [exec_call hc rfl rfl (args_spec (fun x v hx => ha.ev hx) xs vs hv)]
  exact ⟨rfl, c w hC⟩
end
end B
end Go.Proofs.Ytkfkdenikkadhaa
