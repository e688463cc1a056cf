/- Nil tests, fields, closures, ranged maps, cleared rows. Plain lemmas. -/
import Derived.Laws.Tables
import Derived.Test.YtkfkdenikkadhaaBaseL
namespace Go.Proofs.Ytkfkdenikkadhaa
open Go Go.RowKit
set_option linter.unusedVariables false
set_option linter.unusedSimpArgs false
namespace B
section
variable {P : Program} {Z : Post} {ks : List Fr} {N : Nat} {D : List Deferred} {sl : Sl} {W w : World} {ops : Array Oper} {rest : List Oper} {F : Snap} {cs : List Res} {t T T' K E : TypeId} {x y z : Operand} {v zv : Value} {pos : String} {af : Array Edge} {sz bytes : Nat}
theorem run_eqlP {p : Option Addr} (hu : P.underlying T = some (.pointer E)) : (Op.equal T (.pointer p) (.pointer none)).run P w = .ok p.isNone w := by
  unfold Op.equal Op.maxDepth
  rw [show (10000 : Nat) = 9999 + 1 from rfl]
  unfold Op.equalIn
  cases p <;> simp [underlying, program, hu, bind, Sem.bind, pure, Sem.run]
theorem run_eqlS {p : Option Addr} {n c : Nat} (hu : P.underlying T = some (.slice E)) : (Op.equal T (.slice p n c) (.slice none 0 0)).run P w = .ok p.isNone w := by
  unfold Op.equal Op.maxDepth
  rw [show (10000 : Nat) = 9999 + 1 from rfl]
  unfold Op.equalIn
  cases p <;> simp [underlying, program, hu, bind, Sem.bind, pure, Sem.run]
theorem Runs.peql {p : Option Addr} (hu : P.underlying T = some (.pointer E)) (hx : evs sl x = some (.pointer p)) (hy : evs sl y = some (.pointer none)) : Runs P sl (.binOp .eql T x y T') t w (.bool p.isNone) := fun ρ h o ho _ => by
  have := run_eqlP (w := w) (p := p) hu
  simp only [execOp, ho, h _ _ hx, h _ _ hy, eqGuard]
  simp [binOp, this, Sem.run_bind, Result.andThen, Sem.run, pure]
theorem Runs.pneq {p : Option Addr} (hu : P.underlying T = some (.pointer E)) (hx : evs sl x = some (.pointer p)) (hy : evs sl y = some (.pointer none)) : Runs P sl (.binOp .neq T x y T') t w (.bool p.isSome) := fun ρ h o ho _ => by
  have := run_eqlP (w := w) (p := p) hu
  simp only [execOp, ho, h _ _ hx, h _ _ hy, eqGuard]
  cases p <;> simp [binOp, this, Sem.run_bind, Result.andThen, Sem.run, pure]
theorem Runs.nileql {p : Option Addr} {n c : Nat} (hu : P.underlying T = some (.slice E)) (hx : evs sl x = some (.slice p n c)) (hy : evs sl y = some (.slice none 0 0)) : Runs P sl (.binOp .eql T x y T') t w (.bool p.isNone) := fun ρ h o ho _ => by
  have := run_eqlS (w := w) (p := p) (n := n) (c := c) hu
  simp only [execOp, ho, h _ _ hx, h _ _ hy, eqGuard]
  simp [binOp, this, Sem.run_bind, Result.andThen, Sem.run, pure]
/-- a struct's field: its cells lie 'off' behind the struct's -/
def fldB (P : Program) (T : TypeId) (j off : Nat) : Bool :=
  match P.underlying T with
  | some (.struct fs) => match fs[j]? with
    | some f => f.offset == off && (match P.info? f.type with | some i => i.size != 0 | none => false)
    | none => false
  | _ => false
theorem Runs.fld {j off : Nat} {a : Addr} (hf : fldB P T j off = true) (hx : evs sl x = some (.pointer (some a))) : Runs P sl (.fieldAddr T x j) t w (.pointer (some (a.add off))) := fun ρ h o ho _ => by
  unfold fldB at hf
  split at hf
  · rename_i fs hu
    split at hf
    · rename_i f hfj
      simp only [Bool.and_eq_true, beq_iff_eq] at hf
      obtain ⟨rfl, hf⟩ := hf
      split at hf
      · rename_i i hi
        have hs : (sizeOf f.type).run P w = .ok i.size w := by simp [sizeOf, typeInfo, program, hi, bind, Sem.bind, pure, Sem.run]
        have hne : ¬ i.size = 0 := by simpa using hf
        simp only [execOp, ho, h _ _ hx]
        simp [Instr.fieldAt, underlying, program, hu, hfj, Instr.sureAddr, fieldPlace, hs, hne, Sem.run_bind, Result.andThen, Sem.run, pure]
      · cases hf
    · cases hf
  · cases hf
theorem Runs.build {ps : List (Nat × Operand)} {vs : List (Nat × Value)} {cells : Array Value} (hp : pargs sl ps = some vs) (hb : P.built T vs = some cells) : Runs P sl (.build T ps.toArray) t w (.agg cells) := fun ρ h o ho _ => by
  have e := pargs_spec h ps vs hp
  have := run_build w T vs.toArray cells (by simpa using hb)
  simp only [execOp, ho]
  have e2 : (ps.toArray.map fun p => (p.1, ρ p.2)) = vs.toArray := by simp [← e]
  simp only [e2]
  simp [this, Sem.run_bind, Result.andThen, Sem.run, pure]
theorem Runs.valT {op : Op} {u : Value} (h : Runs P sl op t w v) (e : v = u) : Runs P sl op t w u := e ▸ h
theorem Row.lit {α : Type} {E : TypeId} {f : α → Value} {b n : Nat} {xs : List α} (hn : n = xs.length) : Row E f [(b, .cells (xs.map f).toArray E (0, 0))] (.slice (.some ⟨b, 0, none⟩) n n) xs := by
  subst hn
  exact .inr ⟨b, xs.length, _, (0, 0), rfl, rfl, by simp, Nat.le_refl _, by rw [Nat.mul_one]; exact (List.take_of_length_le (by simp)).symm, Free.zero _⟩
theorem Row.blk {α : Type} {E : TypeId} {f : α → Value} {r : Res} {v : Value} {xs : List α} (h : Row E f r v xs) (h0 : 0 < xs.length) : ∃ b zs fz, r = [(b, .cells (xs.map f ++ zs).toArray E fz)] ∧ v = .slice (.some ⟨b, 0, none⟩) xs.length (xs.length + zs.length) ∧ Free fz (xs.length + zs.length) := by
  rcases h with ⟨_, _, hl, _⟩ | ⟨b, cap, arr, fz, hr, hv, hs, hn, hc, hf⟩
  · omega
  · rw [Nat.mul_one] at hs hc
    have e : arr = (xs.map f ++ arr.toList.drop xs.length).toArray := by
      apply Array.toList_inj.1
      rw [hc]; simp
    have hl : (arr.toList.drop xs.length).length = cap - xs.length := by simp [hs]
    refine ⟨b, arr.toList.drop xs.length, fz, by rw [← e]; exact hr, ?_, ?_⟩
    · rw [hv, hl, show xs.length + (cap - xs.length) = cap by omega]
    · rw [hl, show xs.length + (cap - xs.length) = cap by omega, ← hs]; exact hf
theorem Row.mk_ {α : Type} {E : TypeId} {f : α → Value} {b : Nat} {fz : Nat × Nat} {xs : List α} {zs : List Value} {cap : Nat} (hcap : cap = xs.length + zs.length) (hf : Free fz (xs.length + zs.length)) : Row E f [(b, .cells (xs.map f ++ zs).toArray E fz)] (.slice (.some ⟨b, 0, none⟩) xs.length cap) xs := by
  subst hcap
  exact .inr ⟨b, _, _, fz, rfl, rfl, by simp, Nat.le_add_right _ _, by simp, by simpa using hf⟩
theorem WL.storeRow {α : Type} (h : St W F cs w) (i : Nat) {f : α → Value} {xs : List α} {zs : List Value} {u : α} {b n : Nat} {tt : TypeId} {fz : Nat × Nat} (hi : cs[i]? = some [(b, .cells (xs.map f ++ zs).toArray tt fz)]) (hx : evs sl x = some (.pointer (some ⟨b, n, none⟩))) (hy : evs sl y = some (f u))
    (hT : Inf P T zv 1 bytes) (h1 : one_ (f u) = true) (hf : Free fz (xs.length + zs.length)) (hn : n < xs.length)
    (k : ∀ w', St W F (cs.set i [(b, .cells ((xs.set n u).map f ++ zs).toArray tt fz)]) w' → WL P ops Z ks N D sl rest w') :
    WL P ops Z ks N D sl ({ dst := none, op := .store T x y, type := t, pos := pos, after := af, guard := none } :: rest) w := by
  have hc := one_cells h1
  refine WL.store' h i hi hx hy hT (by rw [hc]; rfl) (by rw [hc]; simp [h1]) (by simpa using hf) (by rw [hc]; simp; omega) (fun w' h' => k w' ?_)
  rw [hc] at h'
  have : blit (xs.map f ++ zs).toArray n [f u] = ((xs.set n u).map f ++ zs).toArray := by
    apply Array.toList_inj.1
    simp [blit_one, List.map_set, List.set_append_left _ _ (show n < (xs.map f).length by simpa using hn)]
  rwa [this] at h'
/-! closures -/
theorem WL.callv {d : Nat} {f : FuncId} {first cap : List Value} {xs : List Operand} {vs : List Value} {ts : Array TypeId} {R : Ending → World → Prop} (hc : Can P f) (hx : evs sl x = some (.func (.func f) first.toArray cap.toArray)) (hv : args_ sl xs = some vs) (hd : Nat.ble (d + 1) N = true)
    (c : Calls P f (first ++ vs ++ cap).toArray w R) (k : ∀ e w', R e w' → ∃ v, e = .returned v ∧ WL P ops Z ks N D ((d, v) :: sl) rest w') :
    WL P ops Z ks N D sl ({ dst := some d, op := .call { callee := .value x, args := xs.toArray, argTypes := ts }, type := t, pos := pos, after := af, guard := none } :: rest) w := fun a ha =>
  wpList_plain rfl fun K hK => by
    have e := args_spec (fun x v hx => ha.ev hx) xs vs hv
    have hr := run_callFunc (w := w) hc (first ++ vs ++ cap).toArray
    have : (execOp a.eval { dst := some d, op := .call { callee := .value x, args := xs.toArray, argTypes := ts }, type := t, pos := pos, after := af, guard := none }).run P w = .ok (.enter f (first ++ vs ++ cap).toArray) w := by
      have e2 : xs.toArray.map a.eval = vs.toArray := by simp [← e]
      simp only [execOp, resolve, ha.ev hx, Deferred.ofValue, e2]
      have e3 : first.toArray ++ vs.toArray ++ cap.toArray = (first ++ vs ++ cap).toArray := by simp
      simp only [Sem.run_bind, pure, Sem.run, Result.andThen, invoke, e3]
      exact hr
    unfold Oper.wp
    rw [this]
    refine c.mono fun e w' hr => ?_
    obtain ⟨v, rfl, hk⟩ := k e w' hr
    exact hK _ _ (hk _ (ha.put (Nat.le_of_ble_eq_true hd) v))
/-! a map, ranged over -/
theorem WL.range (h : St W F cs w) (i : Nat) {d m : Nat} {l : List (Int × Value)} (hi : cs[i]? = some [(m, mobj l)]) (hT : P.underlying T = some (.map K E)) (hx : evs sl x = some (.map (some m))) (hd : Nat.ble (d + 1) N = true)
    (k : ∀ b w', St W F ([(b, .mapIter (some m) l.length #[] l.length)] :: cs) w' → WL P ops Z ks N D ((d, .pointer (some ⟨b, 0, none⟩)) :: sl) rest w') :
    WL P ops Z ks N D sl ({ dst := some d, op := .range T x, type := t, pos := pos, after := af, guard := none } :: rest) w := by
  have hb := h.blk hi
  refine WL.val_ (w' := w.alloc (.mapIter (some m) l.length #[] l.length)) hd (fun ρ hρ o ho _ => ?_) (k _ _ (h.alloc _))
  simp only [execOp, ho, hρ _ _ hx]
  simp [Instr.range, underlying, program, hT, getObj, hb, mobj, newObj, Sem.run_bind, Result.andThen, Sem.run, pure]
theorem ments_mem {l : List (Int × Value)} {e : MapEntry} (h : e ∈ (ments 0 l)) : ∃ p kv, l[p]? = some kv ∧ e = { key := .int .i64 kv.1, val := kv.2, born := p } := by
  obtain ⟨p, hp⟩ := List.getElem?_of_mem h
  rw [ments_at] at hp
  cases e1 : l[p]? with
  | none => rw [e1] at hp; cases hp
  | some kv => rw [e1] at hp; simp only [Option.map_some, Option.some.injEq] at hp; exact ⟨p, kv, e1, by rw [← hp]; simp⟩
theorem WL.next (h : St W F cs w) (i j : Nat) {d b m : Nat} {l : List (Int × Value)} {seen : Array Nat} (hi : cs[i]? = some [(b, .mapIter (some m) l.length seen l.length)]) (hj : cs[j]? = some [(m, mobj l)]) (hx : evs sl x = some (.pointer (some ⟨b, 0, none⟩))) (hd : Nat.ble (d + 1) N = true)
    (k0 : (∀ p, p < l.length → p ∈ seen) → WL P ops Z ks N D ((d, .tuple #[.bool false]) :: sl) rest w)
    (k1 : ∀ p kv w', l[p]? = some kv → p ∉ seen → St W F (cs.set i [(b, .mapIter (some m) l.length (seen.push p) l.length)]) w' → WL P ops Z ks N D ((d, .tuple #[.bool true, .int .i64 kv.1, kv.2]) :: sl) rest w') :
    WL P ops Z ks N D sl ({ dst := some d, op := .next x false, type := t, pos := pos, after := af, guard := none } :: rest) w := by
  have hb := h.blk hi
  have hm := h.blk hj
  have hlt : ∀ e ∈ (ments 0 l).toArray.toList, e.born < l.length := by
    intro e he
    obtain ⟨p, kv, h1, rfl⟩ := ments_mem (by simpa using he)
    exact (List.getElem?_eq_some_iff.1 h1).1
  rcases run_next_at (P := P) w t b m l.length l.length seen (ments 0 l).toArray l.length hb hm hlt (Nat.le_refl _) with ⟨h0, hr⟩ | ⟨e, he, w1, hw1, hr⟩
  · refine WL.val_ (w' := w) hd (fun ρ hρ o ho hot => ?_) (k0 fun p hp => ?_)
    · simp only [execOp, ho, hρ _ _ hx, hot]
      simp [hr, Sem.run_bind, Result.andThen, Sem.run, pure]
    · have hnil : leftOf (ments 0 l).toArray seen = #[] := Array.eq_empty_of_size_eq_zero h0
      unfold leftOf at hnil
      rw [Array.filter_eq_empty_iff] at hnil
      have := hnil { key := .int .i64 (l[p]).1, val := (l[p]).2, born := p } (by
        rw [← Array.mem_toList_iff]
        apply List.mem_of_getElem? (i := p)
        simp [ments_at, List.getElem?_eq_getElem hp])
      simpa using this
  · have he' : e ∈ ments 0 l ∧ e.born ∉ seen := by
      unfold leftOf at he
      simpa using he
    obtain ⟨p, kv, h1, rfl⟩ := ments_mem he'.1
    have hS : St W F cs w1 := by rcases hw1 with rfl | rfl <;> first | exact h | exact h.drew
    refine WL.val_ hd (fun ρ hρ o ho hot => ?_) (k1 p kv _ h1 he'.2 (hS.set1 hi _))
    simp only [execOp, ho, hρ _ _ hx, hot]
    simp [hr, Sem.run_bind, Result.andThen, Sem.run, pure]
    rfl
/-- what a step of a range hands out -/
def nxa : Option (Int × Value) → Array Value
  | none => #[.bool false]
  | some kv => #[.bool true, .int .i64 kv.1, kv.2]
theorem nxa0 (o : Option (Int × Value)) : (nxa o)[0]? = some (.bool o.isSome) := by cases o <;> rfl
theorem WL.next1 (h : St W F cs w) (i j : Nat) {d b m : Nat} {l : List (Int × Value)} {seen : Array Nat} (hi : cs[i]? = some [(b, .mapIter (some m) l.length seen l.length)]) (hj : cs[j]? = some [(m, mobj l)]) (hx : evs sl x = some (.pointer (some ⟨b, 0, none⟩))) (hd : Nat.ble (d + 1) N = true)
    (k : ∀ o w', ((o = none ∧ (∀ p, p < l.length → p ∈ seen) ∧ St W F cs w') ∨ ∃ p kv, o = some kv ∧ l[p]? = some kv ∧ p ∉ seen ∧ St W F (cs.set i [(b, .mapIter (some m) l.length (seen.push p) l.length)]) w') → WL P ops Z ks N D ((d, .tuple (nxa o)) :: sl) rest w') :
    WL P ops Z ks N D sl ({ dst := some d, op := .next x false, type := t, pos := pos, after := af, guard := none } :: rest) w :=
  WL.next h i j hi hj hx hd (fun ha => k none w (.inl ⟨rfl, ha, h⟩)) (fun p kv w' h1 h2 h3 => k (some kv) w' (.inr ⟨p, kv, rfl, h1, h2, h3⟩))
/-- how many entries are still to come -/
def togo (n : Nat) (seen : Array Nat) : Nat := ((List.range n).filter fun p => !seen.contains p).length
theorem filter_less {α : Type} {q r : α → Bool} : ∀ {l : List α} {x : α}, (∀ y, q y = true → r y = true) → x ∈ l → r x = true → q x = false → (l.filter q).length < (l.filter r).length
  | [], _, _, h, _, _ => by simp at h
  | a :: l, x, hi, hm, h1, h2 => by
    have hle : ∀ l : List α, (l.filter q).length ≤ (l.filter r).length := by
      intro l
      induction l with
      | nil => simp
      | cons b l ih =>
        rw [List.filter_cons, List.filter_cons]
        by_cases hb : q b = true
        · rw [if_pos hb, if_pos (hi b hb)]; simp; exact ih
        · rw [if_neg hb]
          split
          · simp; omega
          · exact ih
    rw [List.filter_cons, List.filter_cons]
    rcases List.mem_cons.1 hm with rfl | hm
    · rw [if_neg (by rw [h2]; simp), if_pos h1]
      have := hle l
      simp; omega
    · have ih := filter_less hi hm h1 h2
      by_cases hb : q a = true
      · rw [if_pos hb, if_pos (hi a hb)]; simp; exact ih
      · rw [if_neg hb]
        split
        · simp; omega
        · exact ih
theorem togo_push {n p : Nat} {seen : Array Nat} (hp : p < n) (h : p ∉ seen) : togo n (seen.push p) < togo n seen := by
  unfold togo
  refine filter_less (x := p) (fun y hy => ?_) (List.mem_range.2 hp) ?_ ?_
  · simp at hy ⊢; exact hy.1
  · simpa using h
  · simp
theorem ments_born : ∀ (l : List (Int × Value)) (i : Nat), (ments i l).map (·.born) = (List.range' i l.length)
  | [], _ => rfl
  | p :: l, i => by simp [ments, ments_born l (i + 1), List.range'_succ]
theorem Runs.entry (h : St W F cs w) (i j : Nat) {b m p : Nat} {kv : Int × Value} {l : List (Int × Value)} {seen : Array Nat} (hi : cs[i]? = some [(b, .mapIter (some m) l.length (seen.push p) l.length)]) (hj : cs[j]? = some [(m, mobj l)]) (hp : l[p]? = some kv) (hx : evs sl x = some (.pointer (some ⟨b, 0, none⟩))) :
    Runs P sl (.entry x) t w (.tuple #[.int .i64 kv.1, kv.2]) := fun ρ hρ o ho _ => by
  have := run_entry_at (P := P) w b m l.length seen (ments 0 l).toArray l.length { key := .int .i64 kv.1, val := kv.2, born := p } (h.blk hi) (h.blk hj) (by
      simp only
      apply List.mem_of_getElem? (i := p)
      simp [ments_at, hp]) (by simp only; rw [ments_born]; exact List.nodup_range' ..)
  simp only [execOp, ho, hρ _ _ hx]
  simp [this, Sem.run_bind, Result.andThen, Sem.run, pure]
theorem WL.val0_ {op : Op} {w' : World} (h : ∀ (ρ : Operand → Value), (∀ x v, evs sl x = some v → ρ x = v) → ∀ o : Oper, o.op = op → o.type = t → (execOp ρ o).run P w = .ok (.value v) w') (k : WL P ops Z ks N D sl rest w') :
    WL P ops Z ks N D sl ({ dst := none, op := op, type := t, pos := pos, after := af, guard := none } :: rest) w := fun a ha =>
  wpList_plain rfl fun K hK => by
    unfold Oper.wp
    rw [h a.eval (fun x v hx => ha.ev hx) _ rfl rfl]
    exact hK _ _ (k _ ha)
theorem setBlk_same {b : Nat} {o : Obj} (hb : w.heap[b]? = some o) : World.setBlk w b o = w := by
  obtain ⟨h1, h2⟩ := Array.getElem?_eq_some_iff.1 hb
  have : w.heap.setIfInBounds b o = w.heap := by
    rw [← h2]; simp [Array.setIfInBounds, h1]
  unfold World.setBlk
  rw [this]
/-! a row's tail, cleared -/
theorem WL.clear (h : St W F cs w) (i : Nat) {b off n c : Nat} {arr : Array Value} {tt : TypeId} {fz : Nat × Nat} (hi : cs[i]? = some [(b, .cells arr tt fz)]) (hT : P.underlying T = some (.slice E)) (hE : Inf P E zv 1 bytes) (hz : one_ zv = true) (hx : evs sl x = some (.slice (some ⟨b, off, none⟩) n c)) (hf : Free fz arr.size) (ho : off + n ≤ arr.size)
    (k : ∀ w', St W F (cs.set i [(b, .cells (blit arr off (List.replicate n zv)) tt fz)]) w' → WL P ops Z ks N D sl rest w') :
    WL P ops Z ks N D sl ({ dst := none, op := .call { callee := .builtin .clear, args := #[x], argTypes := #[T] }, type := t, pos := pos, after := af, guard := none } :: rest) w := by
  have hb := h.blk hi
  obtain ⟨ti, h3, hzv, _⟩ := hE.get
  refine WL.val0_ (v := .tuple #[]) (w' := World.setBlk w b (.cells (blit arr off (List.replicate n zv)) tt fz)) (fun ρ hρ o ho' _ => ?_) (k _ (h.set1 hi _))
  have hu : (underlying T).run P w = .ok (.slice E) w := by simp [underlying, program, hT, bind, Sem.bind, pure, Sem.run]
  have hz2 : (zeroValue E).run P w = .ok zv w := by simp [zeroValue, typeInfo, program, h3, hzv, bind, Sem.bind, pure, Sem.run]
  have hc : (Builtin.zeroCells zv.cells n).toList = List.replicate n zv := by
    rw [one_cells hz]
    simp [Builtin.zeroCells]
    apply List.ext_getElem
    · simp
    · intro j h1 h2
      simp [Nat.mod_one]
  have hs := run_storeCells (P := P) (b := b) (tt := tt) (fz := fz) (List.replicate n zv) w off 0 arr hb hf (by simpa using ho) (by simp; intro _; exact hz)
  simp only [Nat.add_zero] at hs
  have key : (Builtin.clear_ #[T] o.type #[.slice (some ⟨b, off, none⟩) n c]).run P w = .ok (.tuple #[]) (World.setBlk w b (.cells (blit arr off (List.replicate n zv)) tt fz)) := by
    unfold Builtin.clear_
    simp only [List.getElem?_toArray, List.getElem?_cons_zero, Sem.run_bind, hu, Result.andThen]
    cases n with
    | zero =>
      simp only [List.replicate_zero, blit]
      simp [Sem.run, pure, Sem.run_bind, Result.andThen, setBlk_same hb]
    | succ n => simp [hz2, hc, hs, Sem.run, pure, Sem.run_bind, Result.andThen]
  simp only [execOp, ho', resolve]
  simp [invoke, builtin, hρ _ _ hx, key, Sem.run, pure, Sem.run_bind, Result.andThen]
end
end B
end Go.Proofs.Ytkfkdenikkadhaa
