/- Memory: what never changes any more (F), and what is the call's own (resources). Plain lemmas. -/
import Derived.Test.YtkfkdenikkadhaaBaseB
namespace Go.Proofs.Ytkfkdenikkadhaa
open Go Go.RowKit
set_option linter.unusedVariables false
set_option linter.unusedSimpArgs false
namespace B
abbrev Snap := Nat → Option Obj
def Le (F G : Snap) : Prop := ∀ k o, F k = some o → G k = some o
theorem Le.refl (F : Snap) : Le F F := fun _ _ h => h
theorem Le.trans {F G H : Snap} (h : Le F G) (k : Le G H) : Le F H := fun i o e => k i o (h i o e)
abbrev Res := List (Nat × Obj)
structure St (W : World) (F : Snap) (cs : List Res) (w : World) : Prop where
  bel : Below W.heap.size W w
  imm : ∀ k o, F k = some o → w.heap[k]? = some o
  own : ∀ p ∈ cs.flatten, w.heap[p.1]? = some p.2 ∧ W.heap.size ≤ p.1 ∧ F p.1 = none
  nd : (cs.flatten.map (·.1)).Nodup
section
variable {W w w' : World} {F G : Snap} {cs cs' : List Res} {r r' : Res} {b : Nat} {o o' : Obj}
theorem St.start (w : World) : St w (fun k => w.heap[k]?) [] w := ⟨Below.refl _ _, fun _ _ h => h, by simp, by simp⟩
theorem St.weak (h : St W G cs w) (hle : Le F G) : St W F cs w :=
  ⟨h.bel, fun k o e => h.imm k o (hle k o e), fun p hp => ⟨(h.own p hp).1, (h.own p hp).2.1, by
    cases e : F p.1 with
    | none => rfl
    | some o => have := hle _ _ e; rw [(h.own p hp).2.2] at this; cases this⟩, h.nd⟩
theorem St.lt (h : St W F cs w) {p : Nat × Obj} (hp : p ∈ cs.flatten) : p.1 < w.heap.size := (Array.getElem?_eq_some_iff.1 (h.own p hp).1).1
theorem St.immlt (h : St W F cs w) {k : Nat} {o : Obj} (e : F k = some o) : k < w.heap.size := (Array.getElem?_eq_some_iff.1 (h.imm k o e)).1
/-- a call that leaves all that was there as it was -/
theorem St.below (h : St W F cs w) (hb : Below w.heap.size w w') : St W F cs w' :=
  ⟨h.bel.trans (hb.mono h.bel.size), fun k o e => by rw [hb.block k (h.immlt e)]; exact h.imm k o e,
    fun p hp => ⟨by rw [hb.block p.1 (h.lt hp)]; exact (h.own p hp).1, (h.own p hp).2⟩, h.nd⟩
theorem St.drew (h : St W F cs w) : St W F cs { w with drawn := w.drawn + 1 } := h.below ⟨rfl, rfl, rfl, Nat.le_refl _, fun _ _ => rfl⟩
theorem St.subl (h : St W F cs w) (hs : List.Sublist cs'.flatten cs.flatten) : St W F cs' w :=
  ⟨h.bel, h.imm, fun p hp => h.own p (hs.subset hp), h.nd.sublist (hs.map _)⟩
theorem St.perm (h : St W F cs w) (hs : List.Perm cs' cs) : St W F cs' w :=
  ⟨h.bel, h.imm, fun p hp => h.own p ((hs.flatten).subset hp), ((hs.flatten.map (·.1)).nodup_iff).2 h.nd⟩
theorem flat_erase : ∀ (l : List Res) (i : Nat), List.Sublist (l.eraseIdx i).flatten l.flatten
  | [], _ => by simp
  | a :: l, 0 => by simp
  | a :: l, i + 1 => by simpa using (flat_erase l i)
theorem St.drop (h : St W F cs w) (i : Nat) : St W F (cs.eraseIdx i) w := h.subl (flat_erase cs i)
theorem St.alloc (h : St W F cs w) (o : Obj) : St W F ([(w.heap.size, o)] :: cs) (w.alloc o) := by
  have hb : Below w.heap.size w (w.alloc o) := (Below.refl _ _).alloc (Nat.le_refl _) o
  have h' := h.below hb
  refine ⟨h'.bel, h'.imm, fun p hp => ?_, ?_⟩
  · simp only [List.flatten_cons, List.singleton_append, List.mem_cons] at hp
    rcases hp with rfl | hp
    · refine ⟨heap_alloc_new w _, h.bel.size, ?_⟩
      cases e : F w.heap.size with
      | none => rfl
      | some o' => have := h.immlt e; omega
    · exact h'.own p hp
  · simp only [List.flatten_cons, List.singleton_append, List.map_cons, List.nodup_cons]
    refine ⟨fun hm => ?_, h.nd⟩
    obtain ⟨p, hp, e⟩ := List.mem_map.1 hm
    have := h.lt hp
    omega
theorem split_at {α : Type} : ∀ (l : List α) (i : Nat) (x : α), l[i]? = some x → ∃ l1 l2, l = l1 ++ x :: l2 ∧ (∀ y, l.set i y = l1 ++ y :: l2) ∧ l.eraseIdx i = l1 ++ l2
  | [], _, _, h => by simp at h
  | a :: l, 0, x, h => by
    simp only [List.getElem?_cons_zero, Option.some.injEq] at h
    subst h
    exact ⟨[], l, rfl, fun _ => rfl, rfl⟩
  | a :: l, i + 1, x, h => by
    simp only [List.getElem?_cons_succ] at h
    obtain ⟨l1, l2, e1, e2, e3⟩ := split_at l i x h
    exact ⟨a :: l1, l2, by rw [e1]; rfl, fun y => by simp [e2 y], by simp [e3]⟩
/-- a resource of one block is written -/
def World.setBlk (w : World) (b : Nat) (o : Obj) : World := { w with heap := w.heap.setIfInBounds b o }
theorem St.set1 (h : St W F cs w) {i : Nat} (hi : cs[i]? = some [(b, o)]) (o' : Obj) : St W F (cs.set i [(b, o')]) (World.setBlk w b o') := by
  obtain ⟨l1, l2, e1, e2, _⟩ := split_at cs i _ hi
  rw [e2]
  subst e1
  have hb := h.own (b, o) (by simp)
  have hlt : b < w.heap.size := h.lt (p := (b, o)) (by simp)
  have hnd := h.nd
  simp only [List.flatten_append, List.flatten_cons, List.singleton_append, List.map_append, List.map_cons] at hnd
  have hne : ∀ p ∈ l1.flatten ++ l2.flatten, p.1 ≠ b := by
    intro p hp e
    rw [List.nodup_append] at hnd
    obtain ⟨_, hnd2, hnd3⟩ := hnd
    rcases List.mem_append.1 hp with hp | hp
    · exact hnd3 p.1 (List.mem_map_of_mem hp) b (by simp) e
    · exact (List.nodup_cons.1 hnd2).1 (e ▸ List.mem_map_of_mem hp)
  have hk : ∀ k, k ≠ b → (World.setBlk w b o').heap[k]? = w.heap[k]? := fun k e => by simp [World.setBlk, Array.getElem?_setIfInBounds_ne (Ne.symm e)]
  refine ⟨⟨h.bel.os, h.bel.tape, h.bel.output, by simp [World.setBlk]; exact h.bel.size, fun k hkk => ?_⟩, fun k q e => ?_, fun p hp => ?_, ?_⟩
  · rw [hk k (fun e => by subst e; have := hb.2.1; simp only at this; omega)]; exact h.bel.block k hkk
  · rw [hk k (fun e' => by subst e'; rw [hb.2.2] at e; cases e)]; exact h.imm k q e
  · simp only [List.flatten_append, List.flatten_cons, List.singleton_append, List.mem_append, List.mem_cons] at hp
    rcases hp with hp | rfl | hp
    · rw [hk p.1 (hne p (by simp [hp]))]; exact h.own p (by simp [hp])
    · exact ⟨by simp [World.setBlk, hlt], hb.2⟩
    · rw [hk p.1 (hne p (by simp [hp]))]; exact h.own p (by simp [hp])
  · simpa using hnd
theorem setCell_blk {arr : Array Value} {t : TypeId} {fz : Nat × Nat} (h : w.heap[b]? = some (.cells arr t fz)) (off : Nat) (v : Value) : w.setCell ⟨b, off, none⟩ v = World.setBlk w b (.cells (arr.setIfInBounds off v) t fz) := by
  have hlt := (Array.getElem?_eq_some_iff.1 h).1
  have : w.heap.modify b (fun | .cells c elem frozen => .cells (if (none : Option Nat).isSome then c else c.setIfInBounds off v) elem frozen | o => o) = w.heap.setIfInBounds b (.cells (arr.setIfInBounds off v) t fz) := by
    apply Array.ext_getElem?
    intro i
    rw [Array.getElem?_modify]
    by_cases e : b = i
    · subst e
      rw [if_pos rfl, h]
      simp [hlt]
    · rw [if_neg e, Array.getElem?_setIfInBounds_ne e]
  unfold World.setCell World.setBlk
  simp only
  exact congrArg (fun hp => ({ w with heap := hp } : World)) this
/-- what is the call's own is let go: it never changes any more -/
theorem St.freeze (h : St W F cs w) {i : Nat} (hi : cs[i]? = some r) : ∃ G, Le F G ∧ (∀ p ∈ r, G p.1 = some p.2) ∧ St W G (cs.eraseIdx i) w := by
  obtain ⟨l1, l2, e1, _, e3⟩ := split_at cs i _ hi
  rw [e3]
  subst e1
  have hnd := h.nd
  simp only [List.flatten_append, List.flatten_cons, List.map_append] at hnd
  let G : Snap := fun k => if k ∈ (r.map (·.1)) then w.heap[k]? else F k
  have hr : ∀ p ∈ r, p ∈ (l1 ++ r :: l2).flatten := fun p hp => by simp [hp]
  refine ⟨G, fun k o e => ?_, fun p hp => ?_, h.bel, fun k o e => ?_, fun p hp => ?_, ?_⟩
  · show (if k ∈ (r.map (·.1)) then w.heap[k]? else F k) = some o
    split
    · exact h.imm k o e
    · exact e
  · show (if p.1 ∈ (r.map (·.1)) then w.heap[p.1]? else F p.1) = some p.2
    rw [if_pos (List.mem_map_of_mem hp)]
    exact (h.own p (hr p hp)).1
  · have e' : (if k ∈ (r.map (·.1)) then w.heap[k]? else F k) = some o := e
    split at e'
    · exact e'
    · exact h.imm k o e'
  · have hp' : p ∈ (l1 ++ r :: l2).flatten := by
      simp only [List.flatten_append, List.mem_append, List.flatten_cons] at hp ⊢
      rcases hp with hp | hp
      · exact .inl hp
      · exact .inr (.inr hp)
    refine ⟨(h.own p hp').1, (h.own p hp').2.1, ?_⟩
    show (if p.1 ∈ (r.map (·.1)) then w.heap[p.1]? else F p.1) = none
    rw [if_neg]
    · exact (h.own p hp').2.2
    · intro hm
      rw [List.nodup_append] at hnd
      obtain ⟨_, hnd2, hnd3⟩ := hnd
      rw [List.nodup_append] at hnd2
      simp only [List.flatten_append, List.mem_append] at hp
      rcases hp with hp | hp
      · exact hnd3 p.1 (List.mem_map_of_mem hp) p.1 (List.mem_append_left _ hm) rfl
      · exact hnd2.2.2 p.1 hm p.1 (List.mem_map_of_mem hp) rfl
  · simp only [List.flatten_append, List.map_append]
    refine hnd.sublist ?_
    exact List.Sublist.append (List.Sublist.refl _) (List.sublist_append_right _ _)
/-- all that is there now, but the call's own -/
theorem St.max (h : St W F cs w) : ∃ G, Le F G ∧ St W G cs w ∧ ∀ k o, w.heap[k]? = some o → k ∉ cs.flatten.map (·.1) → G k = some o := by
  refine ⟨fun k => if k ∈ cs.flatten.map (·.1) then none else w.heap[k]?, fun k o e => ?_, ⟨h.bel, fun k o e => ?_, fun p hp => ⟨(h.own p hp).1, (h.own p hp).2.1, ?_⟩, h.nd⟩, fun k o e hn => ?_⟩
  · show (if k ∈ cs.flatten.map (·.1) then none else w.heap[k]?) = some o
    rw [if_neg]
    · exact h.imm k o e
    · intro hm
      obtain ⟨p, hp, rfl⟩ := List.mem_map.1 hm
      rw [(h.own p hp).2.2] at e; cases e
  · have e' : (if k ∈ cs.flatten.map (·.1) then none else w.heap[k]?) = some o := e
    split at e'
    · cases e'
    · exact e'
  · show (if p.1 ∈ cs.flatten.map (·.1) then none else w.heap[p.1]?) = none
    rw [if_pos (List.mem_map_of_mem hp)]
  · show (if k ∈ cs.flatten.map (·.1) then none else w.heap[k]?) = some o
    rw [if_neg hn]; exact e
end

/-! ### addresses and cells -/
theorem add_mk (b o n : Nat) : (⟨b, o, none⟩ : Addr).add n = ⟨b, o + n, none⟩ := by
  unfold Addr.add
  split
  · simp [*]
  · rfl
theorem add_add (a : Addr) (m n : Nat) : (a.add m).add n = a.add (m + n) := by
  unfold Addr.add
  by_cases hm : m = 0 <;> by_cases hn : n = 0 <;> simp [hm, hn, Nat.add_assoc]
def cellF (F : Snap) (a : Addr) : Option Value :=
  match F a.block with
  | some (.cells c _ _) => if a.spot.isSome then none else c[a.off]?
  | _ => none
theorem cellF_le {F G : Snap} (h : Le F G) {a : Addr} {v : Value} (e : cellF F a = some v) : cellF G a = some v := by
  unfold cellF at *
  cases hF : F a.block with
  | none => rw [hF] at e; cases e
  | some o => rw [h _ _ hF]; rw [hF] at e; exact e
theorem St.cell {W w : World} {F : Snap} {cs : List Res} (h : St W F cs w) {a : Addr} {v : Value} (e : cellF F a = some v) : w.cell? a = some v := by
  unfold cellF at e
  unfold World.cell?
  cases hF : F a.block with
  | none => rw [hF] at e; cases e
  | some o => rw [h.imm _ _ hF]; rw [hF] at e; exact e
theorem St.ocell {W w : World} {F : Snap} {cs : List Res} (h : St W F cs w) {i : Nat} {b off : Nat} {arr : Array Value} {t : TypeId} {fz : Nat × Nat} (hi : cs[i]? = some [(b, .cells arr t fz)]) {v : Value} (e : arr[off]? = some v) : w.cell? ⟨b, off, none⟩ = some v := by
  have := (h.own (b, .cells arr t fz) (List.mem_flatten.2 ⟨_, List.mem_of_getElem? hi, by simp⟩)).1
  simp only at this
  simp [World.cell?, this, e]
theorem St.blk {W w : World} {F : Snap} {cs : List Res} (h : St W F cs w) {i : Nat} {b : Nat} {o : Obj} (hi : cs[i]? = some [(b, o)]) : w.heap[b]? = some o :=
  (h.own (b, o) (List.mem_flatten.2 ⟨_, List.mem_of_getElem? hi, by simp⟩)).1

/-! ### kinds of data, as they lie in cells that never change -/
structure Kd (α : Type) where
  sz : Nat
  K : Snap → α → List Value → Prop
  len : ∀ {F x c}, K F x c → c.length = sz
  mono : ∀ {F G x c}, Le F G → K F x c → K G x c
/-- a slice's elements: from address A on -/
def RdS {α : Type} (d : Kd α) (F : Snap) (A : Option Addr) (xs : List α) : Prop :=
  xs = [] ∨ ∃ ad, A = some ad ∧ ∀ i x, xs[i]? = some x → ∃ c, d.K F x c ∧ ∀ j v, c[j]? = some v → cellF F (ad.add (i * d.sz + j)) = some v
theorem RdS.mono {α : Type} {d : Kd α} {F G : Snap} {A : Option Addr} {xs : List α} (hle : Le F G) (h : RdS d F A xs) : RdS d G A xs := by
  rcases h with h | ⟨ad, hA, h⟩
  · exact .inl h
  · exact .inr ⟨ad, hA, fun i x hx => by
      obtain ⟨c, h1, h2⟩ := h i x hx
      exact ⟨c, d.mono hle h1, fun j v hv => cellF_le hle (h2 j v hv)⟩⟩
theorem RdS.at_ {α : Type} {d : Kd α} {F : Snap} {A : Option Addr} {xs : List α} (h : RdS d F A xs) {i : Nat} {x : α} (hx : xs[i]? = some x) : ∃ ad c, A = some ad ∧ d.K F x c ∧ ∀ j v, c[j]? = some v → cellF F (ad.add (i * d.sz + j)) = some v := by
  rcases h with h | ⟨ad, hA, h⟩
  · rw [h] at hx; simp at hx
  · obtain ⟨c, h1, h2⟩ := h i x hx
    exact ⟨ad, c, hA, h1, h2⟩
/-- a slice of a slice -/
theorem RdS.drop {α : Type} {d : Kd α} {F : Snap} {A : Option Addr} {xs : List α} (h : RdS d F A xs) (k : Nat) {cap : Nat} (hc : cap = k → xs.length ≤ k) : RdS d F (if cap = k then A else A.map (·.add (k * d.sz))) (xs.drop k) := by
  by_cases hk : xs.length ≤ k
  · exact .inl (List.drop_eq_nil_of_le hk)
  · rw [if_neg (fun e => hk (hc e))]
    rcases h with h | ⟨ad, hA, h⟩
    · rw [h] at hk; simp at hk
    · refine .inr ⟨ad.add (k * d.sz), by rw [hA]; rfl, fun i x hx => ?_⟩
      rw [List.getElem?_drop] at hx
      obtain ⟨c, h1, h2⟩ := h _ _ hx
      refine ⟨c, h1, fun j v hv => ?_⟩
      rw [add_add, ← Nat.add_assoc, ← Nat.add_mul]
      exact h2 j v hv
theorem RdS.take {α : Type} {d : Kd α} {F : Snap} {A : Option Addr} {xs : List α} (h : RdS d F A xs) (k : Nat) : RdS d F A (xs.take k) := by
  rcases h with h | ⟨ad, hA, h⟩
  · exact .inl (by rw [h]; simp)
  · exact .inr ⟨ad, hA, fun i x hx => h i x (by
      rw [List.getElem?_take] at hx
      split at hx
      · exact hx
      · cases hx)⟩
def Kd.one {α : Type} (f : α → Value) : Kd α := ⟨1, fun _ x c => c = [f x], fun h => by rw [h]; rfl, fun _ h => h⟩
abbrev Kd.int (k : IntKind) : Kd Int := Kd.one (Value.int k)
abbrev Kd.bool : Kd Bool := Kd.one Value.bool
abbrev Kd.str : Kd ByteArray := Kd.one Value.string
abbrev Kd.u8 : Kd UInt8 := Kd.one fun x => Value.int .u8 x.toNat
/-- element i of a slice of cells -/
theorem RdS.get1 {α : Type} {f : α → Value} {F : Snap} {A : Option Addr} {xs : List α} (h : RdS (Kd.one f) F A xs) {i : Nat} {x : α} (hx : xs[i]? = some x) : ∃ ad, A = some ad ∧ cellF F (ad.add i) = some (f x) := by
  obtain ⟨ad, c, hA, h1, h2⟩ := h.at_ hx
  have h1 : c = [f x] := h1
  subst h1
  exact ⟨ad, hA, by have := h2 0 (f x) rfl; simpa [Kd.one] using this⟩
def Kd.pair {α β : Type} (d : Kd α) (e : Kd β) : Kd (α × β) := ⟨d.sz + e.sz, fun F x c => ∃ c1 c2, c = c1 ++ c2 ∧ d.K F x.1 c1 ∧ e.K F x.2 c2,
  fun h => by obtain ⟨c1, c2, rfl, h1, h2⟩ := h; simp [d.len h1, e.len h2],
  fun hle h => by obtain ⟨c1, c2, rfl, h1, h2⟩ := h; exact ⟨c1, c2, rfl, d.mono hle h1, e.mono hle h2⟩⟩
def Kd.iso {α β : Type} (d : Kd α) (f : β → α) : Kd β := ⟨d.sz, fun F x c => d.K F (f x) c, fun h => d.len h, fun hle h => d.mono hle h⟩
def Kd.slice {α : Type} (d : Kd α) : Kd (List α) := ⟨1, fun F xs c => ∃ A cap, c = [.slice A xs.length cap] ∧ xs.length ≤ cap ∧ RdS d F A xs,
  fun h => by obtain ⟨A, cap, rfl, _⟩ := h; rfl,
  fun hle h => by obtain ⟨A, cap, rfl, h1, h2⟩ := h; exact ⟨A, cap, rfl, h1, h2.mono hle⟩⟩
end B
end Go.Proofs.Ytkfkdenikkadhaa
