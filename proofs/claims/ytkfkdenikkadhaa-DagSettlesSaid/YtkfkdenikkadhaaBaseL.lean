/- Maps with whole numbers as keys; closures called. Plain lemmas. -/
import Derived.Maps.RangeRun
import Derived.Test.YtkfkdenikkadhaaBaseK
namespace Go.Proofs.Ytkfkdenikkadhaa
open Go Go.RowKit
set_option linter.unusedVariables false
set_option linter.unusedSimpArgs false
namespace B
/-! ### a map's entries, in the order in which they came -/
def ments : Nat → List (Int × Value) → List MapEntry
  | _, [] => []
  | i, p :: l => { key := .int .i64 p.1, val := p.2, born := i } :: ments (i + 1) l
def mobj (l : List (Int × Value)) : Obj := .map (ments 0 l).toArray l.length
def mfind (k : Int) : List (Int × Value) → Nat → Option (Nat × Value)
  | [], _ => none
  | p :: l, j => if k = p.1 then some (j, p.2) else mfind k l (j + 1)
def mset (k : Int) (v : Value) : List (Int × Value) → List (Int × Value)
  | [] => [(k, v)]
  | p :: l => if k = p.1 then (k, v) :: l else p :: mset k v l
theorem findNow_ments (q : IntKind) (k : Int) : ∀ (l : List (Int × Value)) (i j : Nat), Instr.findNow (.int q) (.int .i64 k) (ments i l) j = some (mfind k l j)
  | [], _, _ => rfl
  | p :: l, i, j => by
    show (match Instr.sameNow (.int q) (.int .i64 k) (.int .i64 p.1) with | some true => some (some (j, p.2)) | some false => Instr.findNow (.int q) (.int .i64 k) (ments (i + 1) l) (j + 1) | none => none) = _
    have e : Instr.sameNow (.int q) (.int .i64 k) (.int .i64 p.1) = some (k == p.1) := by simp [Instr.sameNow]
    rw [e]
    unfold mfind
    by_cases h : k = p.1
    · have e2 : (k == p.1) = true := by simpa using h
      rw [e2, if_pos h]
    · have e2 : (k == p.1) = false := by simpa using h
      rw [e2, if_neg h, findNow_ments q k l (i + 1) (j + 1)]
theorem ments_len : ∀ (l : List (Int × Value)) (i : Nat), (ments i l).length = l.length
  | [], _ => rfl
  | p :: l, i => by simp [ments, ments_len l (i + 1)]
theorem ments_at : ∀ (l : List (Int × Value)) (i j : Nat), (ments i l)[j]? = (l[j]?).map fun p => { key := .int .i64 p.1, val := p.2, born := i + j }
  | [], _, _ => by simp [ments]
  | p :: l, i, 0 => by simp [ments]
  | p :: l, i, j + 1 => by simp [ments, ments_at l (i + 1) j]; cases l[j]? <;> simp; omega
theorem mfind_at : ∀ (k : Int) (l : List (Int × Value)) (j i : Nat) (v : Value), mfind k l j = some (i, v) → j ≤ i ∧ l[i - j]? = some (k, v)
  | k, [], _, _, _, h => by simp [mfind] at h
  | k, p :: l, j, i, v, h => by
    unfold mfind at h
    split at h
    · rename_i e
      simp only [Option.some.injEq, Prod.mk.injEq] at h
      obtain ⟨rfl, rfl⟩ := h
      subst e
      simp
    · obtain ⟨h1, h2⟩ := mfind_at k l (j + 1) i v h
      refine ⟨by omega, ?_⟩
      rw [show i - j = (i - (j + 1)) + 1 by omega, List.getElem?_cons_succ]
      exact h2
theorem ments_app : ∀ (l : List (Int × Value)) (i : Nat) (q : Int × Value), ments i (l ++ [q]) = ments i l ++ [{ key := .int .i64 q.1, val := q.2, born := i + l.length }]
  | [], i, q => by simp [ments]
  | p :: l, i, q => by simp [ments, ments_app l (i + 1) q]; omega
theorem mset_none : ∀ (k : Int) (v : Value) (l : List (Int × Value)) (j : Nat), mfind k l j = none → mset k v l = l ++ [(k, v)]
  | k, v, [], _, _ => rfl
  | k, v, p :: l, j, h => by
    unfold mfind at h
    split at h
    · cases h
    · rename_i e
      unfold mset
      rw [if_neg e, mset_none k v l (j + 1) h]; rfl
theorem mset_some : ∀ (k : Int) (v : Value) (l : List (Int × Value)) (j i : Nat) (u : Value) (b : Nat), mfind k l j = some (i, u) → ments b (mset k v l) = (ments b l).modify (i - j) fun e => { e with key := .int .i64 k, val := v }
  | k, v, [], _, _, _, _, h => by simp [mfind] at h
  | k, v, p :: l, j, i, u, b, h => by
    have h0 := (mfind_at k (p :: l) j i u h).1
    unfold mfind at h
    unfold mset
    split at h
    · rename_i e
      simp only [Option.some.injEq, Prod.mk.injEq] at h
      obtain ⟨rfl, rfl⟩ := h
      rw [if_pos e, Nat.sub_self]
      simp [ments]
    · rename_i e
      have h1 := (mfind_at k l (j + 1) i u h).1
      rw [if_neg e, show i - j = (i - (j + 1)) + 1 by omega]
      simp [ments, mset_some k v l (j + 1) i u (b + 1) h]
theorem mset_len_some {k : Int} {v u : Value} {l : List (Int × Value)} {j i : Nat} (h : mfind k l j = some (i, u)) : (mset k v l).length = l.length := by
  have := congrArg List.length (mset_some k v l j i u 0 h)
  simpa [ments_len] using this
section
variable {P : Program} {Z : Post} {ks : List Fr} {N : Nat} {D : List Deferred} {sl : Sl} {W w : World} {ops : Array Oper} {rest : List Oper} {F : Snap} {cs : List Res} {t T K E : TypeId} {x y z : Operand} {v zv : Value} {pos : String} {af : Array Edge} {sz bytes : Nat}
theorem WL.makeMap {d : Nat} (hd : Nat.ble (d + 1) N = true) (h : St W F cs w)
    (k : ∀ b w', St W F ([(b, mobj [])] :: cs) w' → WL P ops Z ks N D ((d, .map (some b)) :: sl) rest w') :
    WL P ops Z ks N D sl ({ dst := some d, op := .makeMap T none, type := t, pos := pos, after := af, guard := none } :: rest) w := by
  refine WL.val_ (w' := w.alloc (mobj [])) hd (fun ρ hρ o ho _ => ?_) (k _ _ (h.alloc _))
  simp [execOp, ho, Instr.makeMap, newObj, bind, Sem.bind, pure, Sem.run, mobj, ments]
theorem run_find {k : Int} {l : List (Int × Value)} (hK : P.underlying K = some (.int .i64)) : (Instr.findKey K (.int .i64 k) (ments 0 l)).run P w = .ok (mfind k l 0) w := by
  simp [Instr.findKey, underlying, program, hK, findNow_ments, bind, Sem.bind, pure, Sem.run]
theorem run_check {e : Bool} {k : Int} (hK : P.underlying K = some (.int .i64)) : (Instr.checkKey e 10000 K (.int .i64 k)).run P w = .ok () w := by
  rw [show (10000 : Nat) = 9999 + 1 from rfl]
  unfold Instr.checkKey
  simp [underlying, program, hK, bind, Sem.bind, pure, Sem.run]
theorem run_lookup (h : St W F cs w) (i : Nat) {b : Nat} {l : List (Int × Value)} {k : Int} {c : Bool} (hi : cs[i]? = some [(b, mobj l)]) (hT : P.underlying T = some (.map K E)) (hK : P.underlying K = some (.int .i64)) (hE : Inf P E zv sz bytes) :
    (Instr.lookup T (.map (some b)) (.int .i64 k) c).run P w = .ok (if c then .tuple #[((mfind k l 0).map (·.2)).getD zv, .bool (mfind k l 0).isSome] else ((mfind k l 0).map (·.2)).getD zv) w := by
  obtain ⟨ti, h3, hz, _⟩ := hE.get
  have hb := h.blk hi
  have hf := run_find (w := w) (k := k) (l := l) hK
  have hc := run_check (w := w) (e := (ments 0 l).isEmpty) (k := k) hK
  have hu : (underlying T).run P w = .ok (.map K E) w := by simp [underlying, program, hT, bind, Sem.bind, pure, Sem.run]
  have hzv : (zeroValue E).run P w = .ok zv w := by simp [zeroValue, typeInfo, program, h3, hz, bind, Sem.bind, pure, Sem.run]
  unfold Instr.lookup
  simp only [Sem.run_bind, hu, Result.andThen]
  simp only [getObj, Sem.run, hb, mobj, Result.andThen, Sem.run_bind, pure]
  have e1 : (ments 0 l).toArray.isEmpty = (ments 0 l).isEmpty := by simp
  rw [e1, hc]
  simp only [Result.andThen, hf]
  cases hm : mfind k l 0 with
  | none => cases c <;> simp [hzv, Sem.run, Sem.run_bind, Result.andThen]
  | some p => cases c <;> simp [Sem.run, Sem.run_bind, Result.andThen]
theorem Runs.lookup1 (h : St W F cs w) (i : Nat) {b : Nat} {l : List (Int × Value)} {k : Int} (hi : cs[i]? = some [(b, mobj l)]) (hT : P.underlying T = some (.map K E)) (hK : P.underlying K = some (.int .i64)) (hE : Inf P E zv sz bytes) (hx : evs sl x = some (.map (some b))) (hy : evs sl y = some (.int .i64 k)) :
    Runs P sl (.lookup T x y false) t w (((mfind k l 0).map (·.2)).getD zv) := fun ρ hρ o ho _ => by
  have := run_lookup (c := false) (k := k) h i hi hT hK hE
  simp only [execOp, ho, hρ _ _ hx, hρ _ _ hy]
  simp [Sem.run_bind, this, Result.andThen, Sem.run, pure]
theorem Runs.lookup2 (h : St W F cs w) (i : Nat) {b : Nat} {l : List (Int × Value)} {k : Int} (hi : cs[i]? = some [(b, mobj l)]) (hT : P.underlying T = some (.map K E)) (hK : P.underlying K = some (.int .i64)) (hE : Inf P E zv sz bytes) (hx : evs sl x = some (.map (some b))) (hy : evs sl y = some (.int .i64 k)) :
    Runs P sl (.lookup T x y true) t w (.tuple #[((mfind k l 0).map (·.2)).getD zv, .bool (mfind k l 0).isSome]) := fun ρ hρ o ho _ => by
  have := run_lookup (c := true) (k := k) h i hi hT hK hE
  simp only [execOp, ho, hρ _ _ hx, hρ _ _ hy]
  simp [Sem.run_bind, this, Result.andThen, Sem.run, pure]
theorem run_setObj {b : Nat} {es : Array MapEntry} {c : Nat} {o' : Obj} (hb : w.heap[b]? = some (.map es c)) : (setObj b o').run P w = .ok () (World.setBlk w b o') := by
  simp [setObj, Sem.run, hb, World.setBlk]
theorem run_update (h : St W F cs w) (i : Nat) {b : Nat} {l : List (Int × Value)} {k : Int} (hi : cs[i]? = some [(b, mobj l)]) (hT : P.underlying T = some (.map K E)) (hK : P.underlying K = some (.int .i64)) :
    (Instr.mapUpdate T (.map (some b)) (.int .i64 k) v).run P w = .ok () (World.setBlk w b (mobj (mset k v l))) := by
  have hb := h.blk hi
  have hf := run_find (w := w) (k := k) (l := l) hK
  have hc := run_check (w := w) (e := false) (k := k) hK
  have hu : (underlying T).run P w = .ok (.map K E) w := by simp [underlying, program, hT, bind, Sem.bind, pure, Sem.run]
  unfold Instr.mapUpdate
  simp only [Sem.run_bind, hu, Result.andThen]
  simp only [getObj, Sem.run, hb, mobj, Result.andThen, Sem.run_bind, hc]
  simp only [hf, Result.andThen]
  cases hm : mfind k l 0 with
  | none =>
    simp only
    rw [run_setObj hb]
    congr 2
    have e := mset_none k v l 0 hm
    rw [e, ments_app]
    simp
  | some p =>
    obtain ⟨i', u⟩ := p
    have h1 := mfind_at k l 0 i' u hm
    simp only [Nat.sub_zero] at h1
    have h2 : (ments 0 l).toArray[i']? = some { key := .int .i64 k, val := u, born := i' } := by
      rw [List.getElem?_toArray, ments_at, h1.2]; simp
    have hk : (Instr.keyThatStays (.int .i64 k) (.int .i64 k)).run P w = .ok (.int .i64 k) w := by
      simp [Instr.keyThatStays, Instr.sameBits, Sem.run, pure]
    simp only [Sem.run_bind, h2, Option.map_some, Option.getD_some, hk, Result.andThen]
    rw [run_setObj hb]
    congr 2
    rw [mset_len_some hm, mset_some k v l 0 i' u 0 hm]
    simp
theorem WL.mapSet (h : St W F cs w) (i : Nat) {b : Nat} {l : List (Int × Value)} {k : Int} (hi : cs[i]? = some [(b, mobj l)]) (hT : P.underlying T = some (.map K E)) (hK : P.underlying K = some (.int .i64)) (hx : evs sl x = some (.map (some b))) (hy : evs sl y = some (.int .i64 k)) (hz : evs sl z = some v)
    (c : ∀ w', St W F (cs.set i [(b, mobj (mset k v l))]) w' → WL P ops Z ks N D sl rest w') :
    WL P ops Z ks N D sl ({ dst := none, op := .mapUpdate T x y z, type := t, pos := pos, after := af, guard := none } :: rest) w := by
  refine WL.skip_ (w' := World.setBlk w b (mobj (mset k v l))) (fun ρ hρ o ho => ?_) (c _ (h.set1 hi _))
  have := run_update (v := v) (k := k) h i hi hT hK
  simp only [execOp, ho, hρ _ _ hx, hρ _ _ hy, hρ _ _ hz]
  simp [Sem.run_bind, this, Result.andThen, Sem.run, pure]
end
end B
end Go.Proofs.Ytkfkdenikkadhaa
