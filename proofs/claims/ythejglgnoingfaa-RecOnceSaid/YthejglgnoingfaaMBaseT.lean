/- Maps with whole numbers as keys; closures called. Plain lemmas. -/
import Derived.Maps.RangeRun
import Derived.Test.YthejglgnoingfaaMBaseK
import Derived.Laws.Tables
import Derived.ChangeArms
import Derived.Deep.Slices
import Derived.Laws.MakeOwn
namespace Go.Proofs.Ythejglgnoingfaa
open Go Go.RowKit
set_option linter.unusedVariables false
set_option linter.unusedSimpArgs false
namespace B
/-! ### a map's entries, in the order in which they came -/
def ments : Nat → List (Int × Value) → List MapEntry
  | _, [] => []
  | i, p :: l => { key := .int .i64 p.1, val := p.2, born := i } :: ments (i + 1) l
def mobj (l : List (Int × Value)) : Obj := .map (ments 0 l).toArray l.length
def mfind (k : Int) : List (Int × Value) → Nat → Option (Nat × Value)
  | [], _ => none
  | p :: l, j => if k = p.1 then some (j, p.2) else mfind k l (j + 1)
def mset (k : Int) (v : Value) : List (Int × Value) → List (Int × Value)
  | [] => [(k, v)]
  | p :: l => if k = p.1 then (k, v) :: l else p :: mset k v l
theorem findNow_ments (q : IntKind) (k : Int) : ∀ (l : List (Int × Value)) (i j : Nat), Instr.findNow (.int q) (.int .i64 k) (ments i l) j = some (mfind k l j)
  | [], _, _ => rfl
  | p :: l, i, j => by
    show (match Instr.sameNow (.int q) (.int .i64 k) (.int .i64 p.1) with | some true => some (some (j, p.2)) | some false => Instr.findNow (.int q) (.int .i64 k) (ments (i + 1) l) (j + 1) | none => none) = _
    have e : Instr.sameNow (.int q) (.int .i64 k) (.int .i64 p.1) = some (k == p.1) := by simp [Instr.sameNow]
    rw [e]
    unfold mfind
    by_cases h : k = p.1
    · have e2 : (k == p.1) = true := by simpa using h
      rw [e2, if_pos h]
    · have e2 : (k == p.1) = false := by simpa using h
      rw [e2, if_neg h, findNow_ments q k l (i + 1) (j + 1)]
theorem ments_len : ∀ (l : List (Int × Value)) (i : Nat), (ments i l).length = l.length
  | [], _ => rfl
  | p :: l, i => by simp [ments, ments_len l (i + 1)]
theorem ments_at : ∀ (l : List (Int × Value)) (i j : Nat), (ments i l)[j]? = (l[j]?).map fun p => { key := .int .i64 p.1, val := p.2, born := i + j }
  | [], _, _ => by simp [ments]
  | p :: l, i, 0 => by simp [ments]
  | p :: l, i, j + 1 => by simp [ments, ments_at l (i + 1) j]; cases l[j]? <;> simp; omega
theorem mfind_at : ∀ (k : Int) (l : List (Int × Value)) (j i : Nat) (v : Value), mfind k l j = some (i, v) → j ≤ i ∧ l[i - j]? = some (k, v)
  | k, [], _, _, _, h => by simp [mfind] at h
  | k, p :: l, j, i, v, h => by
    unfold mfind at h
    split at h
    · rename_i e
      simp only [Option.some.injEq, Prod.mk.injEq] at h
      obtain ⟨rfl, rfl⟩ := h
      subst e
      simp
    · obtain ⟨h1, h2⟩ := mfind_at k l (j + 1) i v h
      refine ⟨by omega, ?_⟩
      rw [show i - j = (i - (j + 1)) + 1 by omega, List.getElem?_cons_succ]
      exact h2
theorem ments_app : ∀ (l : List (Int × Value)) (i : Nat) (q : Int × Value), ments i (l ++ [q]) = ments i l ++ [{ key := .int .i64 q.1, val := q.2, born := i + l.length }]
  | [], i, q => by simp [ments]
  | p :: l, i, q => by simp [ments, ments_app l (i + 1) q]; omega
theorem mset_none : ∀ (k : Int) (v : Value) (l : List (Int × Value)) (j : Nat), mfind k l j = none → mset k v l = l ++ [(k, v)]
  | k, v, [], _, _ => rfl
  | k, v, p :: l, j, h => by
    unfold mfind at h
    split at h
    · cases h
    · rename_i e
      unfold mset
      rw [if_neg e, mset_none k v l (j + 1) h]; rfl
theorem mset_some : ∀ (k : Int) (v : Value) (l : List (Int × Value)) (j i : Nat) (u : Value) (b : Nat), mfind k l j = some (i, u) → ments b (mset k v l) = (ments b l).modify (i - j) fun e => { e with key := .int .i64 k, val := v }
  | k, v, [], _, _, _, _, h => by simp [mfind] at h
  | k, v, p :: l, j, i, u, b, h => by
    have h0 := (mfind_at k (p :: l) j i u h).1
    unfold mfind at h
    unfold mset
    split at h
    · rename_i e
      simp only [Option.some.injEq, Prod.mk.injEq] at h
      obtain ⟨rfl, rfl⟩ := h
      rw [if_pos e, Nat.sub_self]
      simp [ments]
    · rename_i e
      have h1 := (mfind_at k l (j + 1) i u h).1
      rw [if_neg e, show i - j = (i - (j + 1)) + 1 by omega]
      simp [ments, mset_some k v l (j + 1) i u (b + 1) h]
theorem mset_len_some {k : Int} {v u : Value} {l : List (Int × Value)} {j i : Nat} (h : mfind k l j = some (i, u)) : (mset k v l).length = l.length := by
  have := congrArg List.length (mset_some k v l j i u 0 h)
  simpa [ments_len] using this
section
variable {P : Program} {Z : Post} {ks : List Fr} {N : Nat} {D : List Deferred} {sl : Sl} {W w : World} {ops : Array Oper} {rest : List Oper} {F : Snap} {cs : List Res} {t T K E : TypeId} {x y z : Operand} {v zv : Value} {pos : String} {af : Array Edge} {sz bytes : Nat}
theorem WL.makeMap {d : Nat} (hd : Nat.ble (d + 1) N = true) (h : St W F cs w)
    (k : ∀ b w', St W F ([(b, mobj [])] :: cs) w' → WL P ops Z ks N D ((d, .map (some b)) :: sl) rest w') :
    WL P ops Z ks N D sl ({ dst := some d, op := .makeMap T none, type := t, pos := pos, after := af, guard := none } :: rest) w := by
  refine WL.val_ (w' := w.alloc (mobj [])) hd (fun ρ hρ o ho _ => ?_) (k _ _ (h.alloc _))
  simp [execOp, ho, Instr.makeMap, newObj, bind, Sem.bind, pure, Sem.run, mobj, ments]
theorem run_find {k : Int} {l : List (Int × Value)} (hK : P.underlying K = some (.int .i64)) : (Instr.findKey K (.int .i64 k) (ments 0 l)).run P w = .ok (mfind k l 0) w := by
  simp [Instr.findKey, underlying, program, hK, findNow_ments, bind, Sem.bind, pure, Sem.run]
theorem run_check {e : Bool} {k : Int} (hK : P.underlying K = some (.int .i64)) : (Instr.checkKey e 10000 K (.int .i64 k)).run P w = .ok () w := by
  rw [show (10000 : Nat) = 9999 + 1 from rfl]
  unfold Instr.checkKey
  simp [underlying, program, hK, bind, Sem.bind, pure, Sem.run]
theorem run_lookup (h : St W F cs w) (i : Nat) {b : Nat} {l : List (Int × Value)} {k : Int} {c : Bool} (hi : cs[i]? = some [(b, mobj l)]) (hT : P.underlying T = some (.map K E)) (hK : P.underlying K = some (.int .i64)) (hE : Inf P E zv sz bytes) :
    (Instr.lookup T (.map (some b)) (.int .i64 k) c).run P w = .ok (if c then .tuple #[((mfind k l 0).map (·.2)).getD zv, .bool (mfind k l 0).isSome] else ((mfind k l 0).map (·.2)).getD zv) w := by
  obtain ⟨ti, h3, hz, _⟩ := hE.get
  have hb := h.blk hi
  have hf := run_find (w := w) (k := k) (l := l) hK
  have hc := run_check (w := w) (e := (ments 0 l).isEmpty) (k := k) hK
  have hu : (underlying T).run P w = .ok (.map K E) w := by simp [underlying, program, hT, bind, Sem.bind, pure, Sem.run]
  have hzv : (zeroValue E).run P w = .ok zv w := by simp [zeroValue, typeInfo, program, h3, hz, bind, Sem.bind, pure, Sem.run]
  unfold Instr.lookup
  simp only [Sem.run_bind, hu, Result.andThen]
  simp only [getObj, Sem.run, hb, mobj, Result.andThen, Sem.run_bind, pure]
  have e1 : (ments 0 l).toArray.isEmpty = (ments 0 l).isEmpty := by simp
  rw [e1, hc]
  simp only [Result.andThen, hf]
  cases hm : mfind k l 0 with
  | none => cases c <;> simp [hzv, Sem.run, Sem.run_bind, Result.andThen]
  | some p => cases c <;> simp [Sem.run, Sem.run_bind, Result.andThen]
theorem Runs.lookup1 (h : St W F cs w) (i : Nat) {b : Nat} {l : List (Int × Value)} {k : Int} (hi : cs[i]? = some [(b, mobj l)]) (hT : P.underlying T = some (.map K E)) (hK : P.underlying K = some (.int .i64)) (hE : Inf P E zv sz bytes) (hx : evs sl x = some (.map (some b))) (hy : evs sl y = some (.int .i64 k)) :
    Runs P sl (.lookup T x y false) t w (((mfind k l 0).map (·.2)).getD zv) := fun ρ hρ o ho _ => by
  have := run_lookup (c := false) (k := k) h i hi hT hK hE
  simp only [execOp, ho, hρ _ _ hx, hρ _ _ hy]
  simp [Sem.run_bind, this, Result.andThen, Sem.run, pure]
theorem Runs.lookup2 (h : St W F cs w) (i : Nat) {b : Nat} {l : List (Int × Value)} {k : Int} (hi : cs[i]? = some [(b, mobj l)]) (hT : P.underlying T = some (.map K E)) (hK : P.underlying K = some (.int .i64)) (hE : Inf P E zv sz bytes) (hx : evs sl x = some (.map (some b))) (hy : evs sl y = some (.int .i64 k)) :
    Runs P sl (.lookup T x y true) t w (.tuple #[((mfind k l 0).map (·.2)).getD zv, .bool (mfind k l 0).isSome]) := fun ρ hρ o ho _ => by
  have := run_lookup (c := true) (k := k) h i hi hT hK hE
  simp only [execOp, ho, hρ _ _ hx, hρ _ _ hy]
  simp [Sem.run_bind, this, Result.andThen, Sem.run, pure]
theorem run_setObj {b : Nat} {es : Array MapEntry} {c : Nat} {o' : Obj} (hb : w.heap[b]? = some (.map es c)) : (setObj b o').run P w = .ok () (World.setBlk w b o') := by
  simp [setObj, Sem.run, hb, World.setBlk]
theorem run_update (h : St W F cs w) (i : Nat) {b : Nat} {l : List (Int × Value)} {k : Int} (hi : cs[i]? = some [(b, mobj l)]) (hT : P.underlying T = some (.map K E)) (hK : P.underlying K = some (.int .i64)) :
    (Instr.mapUpdate T (.map (some b)) (.int .i64 k) v).run P w = .ok () (World.setBlk w b (mobj (mset k v l))) := by
  have hb := h.blk hi
  have hf := run_find (w := w) (k := k) (l := l) hK
  have hc := run_check (w := w) (e := false) (k := k) hK
  have hu : (underlying T).run P w = .ok (.map K E) w := by simp [underlying, program, hT, bind, Sem.bind, pure, Sem.run]
  unfold Instr.mapUpdate
  simp only [Sem.run_bind, hu, Result.andThen]
  simp only [getObj, Sem.run, hb, mobj, Result.andThen, Sem.run_bind, hc]
  simp only [hf, Result.andThen]
  cases hm : mfind k l 0 with
  | none =>
    simp only
    rw [run_setObj hb]
    congr 2
    have e := mset_none k v l 0 hm
    rw [e, ments_app]
    simp
  | some p =>
    obtain ⟨i', u⟩ := p
    have h1 := mfind_at k l 0 i' u hm
    simp only [Nat.sub_zero] at h1
    have h2 : (ments 0 l).toArray[i']? = some { key := .int .i64 k, val := u, born := i' } := by
      rw [List.getElem?_toArray, ments_at, h1.2]; simp
    have hk : (Instr.keyThatStays (.int .i64 k) (.int .i64 k)).run P w = .ok (.int .i64 k) w := by
      simp [Instr.keyThatStays, Instr.sameBits, Sem.run, pure]
    simp only [Sem.run_bind, h2, Option.map_some, Option.getD_some, hk, Result.andThen]
    rw [run_setObj hb]
    congr 2
    rw [mset_len_some hm, mset_some k v l 0 i' u 0 hm]
    simp
theorem WL.mapSet (h : St W F cs w) (i : Nat) {b : Nat} {l : List (Int × Value)} {k : Int} (hi : cs[i]? = some [(b, mobj l)]) (hT : P.underlying T = some (.map K E)) (hK : P.underlying K = some (.int .i64)) (hx : evs sl x = some (.map (some b))) (hy : evs sl y = some (.int .i64 k)) (hz : evs sl z = some v)
    (c : ∀ w', St W F (cs.set i [(b, mobj (mset k v l))]) w' → WL P ops Z ks N D sl rest w') :
    WL P ops Z ks N D sl ({ dst := none, op := .mapUpdate T x y z, type := t, pos := pos, after := af, guard := none } :: rest) w := by
  refine WL.skip_ (w' := World.setBlk w b (mobj (mset k v l))) (fun ρ hρ o ho => ?_) (c _ (h.set1 hi _))
  have := run_update (v := v) (k := k) h i hi hT hK
  simp only [execOp, ho, hρ _ _ hx, hρ _ _ hy, hρ _ _ hz]
  simp [Sem.run_bind, this, Result.andThen, Sem.run, pure]
end
end B
end Go.Proofs.Ythejglgnoingfaa

namespace Go.Proofs.Ythejglgnoingfaa
open Go Go.RowKit
set_option linter.unusedVariables false
set_option linter.unusedSimpArgs false
namespace B
section
variable {P : Program} {Z : Post} {ks : List Fr} {N : Nat} {D : List Deferred} {sl : Sl} {W w : World} {ops : Array Oper} {rest : List Oper} {F : Snap} {cs : List Res} {t T T' K E : TypeId} {x y z : Operand} {v zv : Value} {pos : String} {af : Array Edge} {sz bytes : Nat}
theorem run_eqlP {p : Option Addr} (hu : P.underlying T = some (.pointer E)) : (Op.equal T (.pointer p) (.pointer none)).run P w = .ok p.isNone w := by
  unfold Op.equal Op.maxDepth
  rw [show (10000 : Nat) = 9999 + 1 from rfl]
  unfold Op.equalIn
  cases p <;> simp [underlying, program, hu, bind, Sem.bind, pure, Sem.run]
theorem run_eqlS {p : Option Addr} {n c : Nat} (hu : P.underlying T = some (.slice E)) : (Op.equal T (.slice p n c) (.slice none 0 0)).run P w = .ok p.isNone w := by
  unfold Op.equal Op.maxDepth
  rw [show (10000 : Nat) = 9999 + 1 from rfl]
  unfold Op.equalIn
  cases p <;> simp [underlying, program, hu, bind, Sem.bind, pure, Sem.run]
theorem Runs.peql {p : Option Addr} (hu : P.underlying T = some (.pointer E)) (hx : evs sl x = some (.pointer p)) (hy : evs sl y = some (.pointer none)) : Runs P sl (.binOp .eql T x y T') t w (.bool p.isNone) := fun ρ h o ho _ => by
  have := run_eqlP (w := w) (p := p) hu
  simp only [execOp, ho, h _ _ hx, h _ _ hy, eqGuard]
  simp [binOp, this, Sem.run_bind, Result.andThen, Sem.run, pure]
theorem Runs.pneq {p : Option Addr} (hu : P.underlying T = some (.pointer E)) (hx : evs sl x = some (.pointer p)) (hy : evs sl y = some (.pointer none)) : Runs P sl (.binOp .neq T x y T') t w (.bool p.isSome) := fun ρ h o ho _ => by
  have := run_eqlP (w := w) (p := p) hu
  simp only [execOp, ho, h _ _ hx, h _ _ hy, eqGuard]
  cases p <;> simp [binOp, this, Sem.run_bind, Result.andThen, Sem.run, pure]
theorem Runs.nileql {p : Option Addr} {n c : Nat} (hu : P.underlying T = some (.slice E)) (hx : evs sl x = some (.slice p n c)) (hy : evs sl y = some (.slice none 0 0)) : Runs P sl (.binOp .eql T x y T') t w (.bool p.isNone) := fun ρ h o ho _ => by
  have := run_eqlS (w := w) (p := p) (n := n) (c := c) hu
  simp only [execOp, ho, h _ _ hx, h _ _ hy, eqGuard]
  simp [binOp, this, Sem.run_bind, Result.andThen, Sem.run, pure]
/-- a struct's field: its cells lie 'off' behind the struct's -/
def fldB (P : Program) (T : TypeId) (j off : Nat) : Bool :=
  match P.underlying T with
  | some (.struct fs) => match fs[j]? with
    | some f => f.offset == off && (match P.info? f.type with | some i => i.size != 0 | none => false)
    | none => false
  | _ => false
theorem Runs.fld {j off : Nat} {a : Addr} (hf : fldB P T j off = true) (hx : evs sl x = some (.pointer (some a))) : Runs P sl (.fieldAddr T x j) t w (.pointer (some (a.add off))) := fun ρ h o ho _ => by
  unfold fldB at hf
  split at hf
  · rename_i fs hu
    split at hf
    · rename_i f hfj
      simp only [Bool.and_eq_true, beq_iff_eq] at hf
      obtain ⟨rfl, hf⟩ := hf
      split at hf
      · rename_i i hi
        have hs : (sizeOf f.type).run P w = .ok i.size w := by simp [sizeOf, typeInfo, program, hi, bind, Sem.bind, pure, Sem.run]
        have hne : ¬ i.size = 0 := by simpa using hf
        simp only [execOp, ho, h _ _ hx]
        simp [Instr.fieldAt, underlying, program, hu, hfj, Instr.sureAddr, fieldPlace, hs, hne, Sem.run_bind, Result.andThen, Sem.run, pure]
      · cases hf
    · cases hf
  · cases hf
theorem Runs.build {ps : List (Nat × Operand)} {vs : List (Nat × Value)} {cells : Array Value} (hp : pargs sl ps = some vs) (hb : P.built T vs = some cells) : Runs P sl (.build T ps.toArray) t w (.agg cells) := fun ρ h o ho _ => by
  have e := pargs_spec h ps vs hp
  have := run_build w T vs.toArray cells (by simpa using hb)
  simp only [execOp, ho]
  have e2 : (ps.toArray.map fun p => (p.1, ρ p.2)) = vs.toArray := by simp [← e]
  simp only [e2]
  simp [this, Sem.run_bind, Result.andThen, Sem.run, pure]
theorem Runs.valT {op : Op} {u : Value} (h : Runs P sl op t w v) (e : v = u) : Runs P sl op t w u := e ▸ h
theorem Row.lit {α : Type} {E : TypeId} {f : α → Value} {b n : Nat} {xs : List α} (hn : n = xs.length) : Row E f [(b, .cells (xs.map f).toArray E (0, 0))] (.slice (.some ⟨b, 0, none⟩) n n) xs := by
  subst hn
  exact .inr ⟨b, xs.length, _, (0, 0), rfl, rfl, by simp, Nat.le_refl _, by rw [Nat.mul_one]; exact (List.take_of_length_le (by simp)).symm, Free.zero _⟩
theorem Row.blk {α : Type} {E : TypeId} {f : α → Value} {r : Res} {v : Value} {xs : List α} (h : Row E f r v xs) (h0 : 0 < xs.length) : ∃ b zs fz, r = [(b, .cells (xs.map f ++ zs).toArray E fz)] ∧ v = .slice (.some ⟨b, 0, none⟩) xs.length (xs.length + zs.length) ∧ Free fz (xs.length + zs.length) := by
  rcases h with ⟨_, _, hl, _⟩ | ⟨b, cap, arr, fz, hr, hv, hs, hn, hc, hf⟩
  · omega
  · rw [Nat.mul_one] at hs hc
    have e : arr = (xs.map f ++ arr.toList.drop xs.length).toArray := by
      apply Array.toList_inj.1
      rw [hc]; simp
    have hl : (arr.toList.drop xs.length).length = cap - xs.length := by simp [hs]
    refine ⟨b, arr.toList.drop xs.length, fz, by rw [← e]; exact hr, ?_, ?_⟩
    · rw [hv, hl, show xs.length + (cap - xs.length) = cap by omega]
    · rw [hl, show xs.length + (cap - xs.length) = cap by omega, ← hs]; exact hf
theorem Row.mk_ {α : Type} {E : TypeId} {f : α → Value} {b : Nat} {fz : Nat × Nat} {xs : List α} {zs : List Value} {cap : Nat} (hcap : cap = xs.length + zs.length) (hf : Free fz (xs.length + zs.length)) : Row E f [(b, .cells (xs.map f ++ zs).toArray E fz)] (.slice (.some ⟨b, 0, none⟩) xs.length cap) xs := by
  subst hcap
  exact .inr ⟨b, _, _, fz, rfl, rfl, by simp, Nat.le_add_right _ _, by simp, by simpa using hf⟩
theorem WL.storeRow {α : Type} (h : St W F cs w) (i : Nat) {f : α → Value} {xs : List α} {zs : List Value} {u : α} {b n : Nat} {tt : TypeId} {fz : Nat × Nat} (hi : cs[i]? = some [(b, .cells (xs.map f ++ zs).toArray tt fz)]) (hx : evs sl x = some (.pointer (some ⟨b, n, none⟩))) (hy : evs sl y = some (f u))
    (hT : Inf P T zv 1 bytes) (h1 : one_ (f u) = true) (hf : Free fz (xs.length + zs.length)) (hn : n < xs.length)
    (k : ∀ w', St W F (cs.set i [(b, .cells ((xs.set n u).map f ++ zs).toArray tt fz)]) w' → WL P ops Z ks N D sl rest w') :
    WL P ops Z ks N D sl ({ dst := none, op := .store T x y, type := t, pos := pos, after := af, guard := none } :: rest) w := by
  have hc := one_cells h1
  refine WL.store' h i hi hx hy hT (by rw [hc]; rfl) (by rw [hc]; simp [h1]) (by simpa using hf) (by rw [hc]; simp; omega) (fun w' h' => k w' ?_)
  rw [hc] at h'
  have : blit (xs.map f ++ zs).toArray n [f u] = ((xs.set n u).map f ++ zs).toArray := by
    apply Array.toList_inj.1
    simp [blit_one, List.map_set, List.set_append_left _ _ (show n < (xs.map f).length by simpa using hn)]
  rwa [this] at h'
/-! closures -/
theorem WL.callv {d : Nat} {f : FuncId} {first cap : List Value} {xs : List Operand} {vs : List Value} {ts : Array TypeId} {R : Ending → World → Prop} (hc : Can P f) (hx : evs sl x = some (.func (.func f) first.toArray cap.toArray)) (hv : args_ sl xs = some vs) (hd : Nat.ble (d + 1) N = true)
    (c : Calls P f (first ++ vs ++ cap).toArray w R) (k : ∀ e w', R e w' → ∃ v, e = .returned v ∧ WL P ops Z ks N D ((d, v) :: sl) rest w') :
    WL P ops Z ks N D sl ({ dst := some d, op := .call { callee := .value x, args := xs.toArray, argTypes := ts }, type := t, pos := pos, after := af, guard := none } :: rest) w := fun a ha =>
  wpList_plain rfl fun K hK => by
    have e := args_spec (fun x v hx => ha.ev hx) xs vs hv
    have hr := run_callFunc (w := w) hc (first ++ vs ++ cap).toArray
    have : (execOp a.eval { dst := some d, op := .call { callee := .value x, args := xs.toArray, argTypes := ts }, type := t, pos := pos, after := af, guard := none }).run P w = .ok (.enter f (first ++ vs ++ cap).toArray) w := by
      have e2 : xs.toArray.map a.eval = vs.toArray := by simp [← e]
      simp only [execOp, resolve, ha.ev hx, Deferred.ofValue, e2]
      have e3 : first.toArray ++ vs.toArray ++ cap.toArray = (first ++ vs ++ cap).toArray := by simp
      simp only [Sem.run_bind, pure, Sem.run, Result.andThen, invoke, e3]
      exact hr
    unfold Oper.wp
    rw [this]
    refine c.mono fun e w' hr => ?_
    obtain ⟨v, rfl, hk⟩ := k e w' hr
    exact hK _ _ (hk _ (ha.put (Nat.le_of_ble_eq_true hd) v))
/-! a map, ranged over -/
theorem WL.range (h : St W F cs w) (i : Nat) {d m : Nat} {l : List (Int × Value)} (hi : cs[i]? = some [(m, mobj l)]) (hT : P.underlying T = some (.map K E)) (hx : evs sl x = some (.map (some m))) (hd : Nat.ble (d + 1) N = true)
    (k : ∀ b w', St W F ([(b, .mapIter (some m) l.length #[] l.length)] :: cs) w' → WL P ops Z ks N D ((d, .pointer (some ⟨b, 0, none⟩)) :: sl) rest w') :
    WL P ops Z ks N D sl ({ dst := some d, op := .range T x, type := t, pos := pos, after := af, guard := none } :: rest) w := by
  have hb := h.blk hi
  refine WL.val_ (w' := w.alloc (.mapIter (some m) l.length #[] l.length)) hd (fun ρ hρ o ho _ => ?_) (k _ _ (h.alloc _))
  simp only [execOp, ho, hρ _ _ hx]
  simp [Instr.range, underlying, program, hT, getObj, hb, mobj, newObj, Sem.run_bind, Result.andThen, Sem.run, pure]
theorem ments_mem {l : List (Int × Value)} {e : MapEntry} (h : e ∈ (ments 0 l)) : ∃ p kv, l[p]? = some kv ∧ e = { key := .int .i64 kv.1, val := kv.2, born := p } := by
  obtain ⟨p, hp⟩ := List.getElem?_of_mem h
  rw [ments_at] at hp
  cases e1 : l[p]? with
  | none => rw [e1] at hp; cases hp
  | some kv => rw [e1] at hp; simp only [Option.map_some, Option.some.injEq] at hp; exact ⟨p, kv, e1, by rw [← hp]; simp⟩
theorem WL.next (h : St W F cs w) (i j : Nat) {d b m : Nat} {l : List (Int × Value)} {seen : Array Nat} (hi : cs[i]? = some [(b, .mapIter (some m) l.length seen l.length)]) (hj : cs[j]? = some [(m, mobj l)]) (hx : evs sl x = some (.pointer (some ⟨b, 0, none⟩))) (hd : Nat.ble (d + 1) N = true)
    (k0 : (∀ p, p < l.length → p ∈ seen) → WL P ops Z ks N D ((d, .tuple #[.bool false]) :: sl) rest w)
    (k1 : ∀ p kv w', l[p]? = some kv → p ∉ seen → St W F (cs.set i [(b, .mapIter (some m) l.length (seen.push p) l.length)]) w' → WL P ops Z ks N D ((d, .tuple #[.bool true, .int .i64 kv.1, kv.2]) :: sl) rest w') :
    WL P ops Z ks N D sl ({ dst := some d, op := .next x false, type := t, pos := pos, after := af, guard := none } :: rest) w := by
  have hb := h.blk hi
  have hm := h.blk hj
  have hlt : ∀ e ∈ (ments 0 l).toArray.toList, e.born < l.length := by
    intro e he
    obtain ⟨p, kv, h1, rfl⟩ := ments_mem (by simpa using he)
    exact (List.getElem?_eq_some_iff.1 h1).1
  rcases run_next_at (P := P) w t b m l.length l.length seen (ments 0 l).toArray l.length hb hm hlt (Nat.le_refl _) with ⟨h0, hr⟩ | ⟨e, he, w1, hw1, hr⟩
  · refine WL.val_ (w' := w) hd (fun ρ hρ o ho hot => ?_) (k0 fun p hp => ?_)
    · simp only [execOp, ho, hρ _ _ hx, hot]
      simp [hr, Sem.run_bind, Result.andThen, Sem.run, pure]
    · have hnil : leftOf (ments 0 l).toArray seen = #[] := Array.eq_empty_of_size_eq_zero h0
      unfold leftOf at hnil
      rw [Array.filter_eq_empty_iff] at hnil
      have := hnil { key := .int .i64 (l[p]).1, val := (l[p]).2, born := p } (by
        rw [← Array.mem_toList_iff]
        apply List.mem_of_getElem? (i := p)
        simp [ments_at, List.getElem?_eq_getElem hp])
      simpa using this
  · have he' : e ∈ ments 0 l ∧ e.born ∉ seen := by
      unfold leftOf at he
      simpa using he
    obtain ⟨p, kv, h1, rfl⟩ := ments_mem he'.1
    have hS : St W F cs w1 := by rcases hw1 with rfl | rfl <;> first | exact h | exact h.drew
    refine WL.val_ hd (fun ρ hρ o ho hot => ?_) (k1 p kv _ h1 he'.2 (hS.set1 hi _))
    simp only [execOp, ho, hρ _ _ hx, hot]
    simp [hr, Sem.run_bind, Result.andThen, Sem.run, pure]
    rfl
/-- what a step of a range hands out -/
def nxa : Option (Int × Value) → Array Value
  | none => #[.bool false]
  | some kv => #[.bool true, .int .i64 kv.1, kv.2]
theorem nxa0 (o : Option (Int × Value)) : (nxa o)[0]? = some (.bool o.isSome) := by cases o <;> rfl
theorem WL.next1 (h : St W F cs w) (i j : Nat) {d b m : Nat} {l : List (Int × Value)} {seen : Array Nat} (hi : cs[i]? = some [(b, .mapIter (some m) l.length seen l.length)]) (hj : cs[j]? = some [(m, mobj l)]) (hx : evs sl x = some (.pointer (some ⟨b, 0, none⟩))) (hd : Nat.ble (d + 1) N = true)
    (k : ∀ o w', ((o = none ∧ (∀ p, p < l.length → p ∈ seen) ∧ St W F cs w') ∨ ∃ p kv, o = some kv ∧ l[p]? = some kv ∧ p ∉ seen ∧ St W F (cs.set i [(b, .mapIter (some m) l.length (seen.push p) l.length)]) w') → WL P ops Z ks N D ((d, .tuple (nxa o)) :: sl) rest w') :
    WL P ops Z ks N D sl ({ dst := some d, op := .next x false, type := t, pos := pos, after := af, guard := none } :: rest) w :=
  WL.next h i j hi hj hx hd (fun ha => k none w (.inl ⟨rfl, ha, h⟩)) (fun p kv w' h1 h2 h3 => k (some kv) w' (.inr ⟨p, kv, rfl, h1, h2, h3⟩))
/-- how many entries are still to come -/
def togo (n : Nat) (seen : Array Nat) : Nat := ((List.range n).filter fun p => !seen.contains p).length
theorem filter_less {α : Type} {q r : α → Bool} : ∀ {l : List α} {x : α}, (∀ y, q y = true → r y = true) → x ∈ l → r x = true → q x = false → (l.filter q).length < (l.filter r).length
  | [], _, _, h, _, _ => by simp at h
  | a :: l, x, hi, hm, h1, h2 => by
    have hle : ∀ l : List α, (l.filter q).length ≤ (l.filter r).length := by
      intro l
      induction l with
      | nil => simp
      | cons b l ih =>
        rw [List.filter_cons, List.filter_cons]
        by_cases hb : q b = true
        · rw [if_pos hb, if_pos (hi b hb)]; simp; exact ih
        · rw [if_neg hb]
          split
          · simp; omega
          · exact ih
    rw [List.filter_cons, List.filter_cons]
    rcases List.mem_cons.1 hm with rfl | hm
    · rw [if_neg (by rw [h2]; simp), if_pos h1]
      have := hle l
      simp; omega
    · have ih := filter_less hi hm h1 h2
      by_cases hb : q a = true
      · rw [if_pos hb, if_pos (hi a hb)]; simp; exact ih
      · rw [if_neg hb]
        split
        · simp; omega
        · exact ih
theorem togo_push {n p : Nat} {seen : Array Nat} (hp : p < n) (h : p ∉ seen) : togo n (seen.push p) < togo n seen := by
  unfold togo
  refine filter_less (x := p) (fun y hy => ?_) (List.mem_range.2 hp) ?_ ?_
  · simp at hy ⊢; exact hy.1
  · simpa using h
  · simp
theorem ments_born : ∀ (l : List (Int × Value)) (i : Nat), (ments i l).map (·.born) = (List.range' i l.length)
  | [], _ => rfl
  | p :: l, i => by simp [ments, ments_born l (i + 1), List.range'_succ]
theorem Runs.entry (h : St W F cs w) (i j : Nat) {b m p : Nat} {kv : Int × Value} {l : List (Int × Value)} {seen : Array Nat} (hi : cs[i]? = some [(b, .mapIter (some m) l.length (seen.push p) l.length)]) (hj : cs[j]? = some [(m, mobj l)]) (hp : l[p]? = some kv) (hx : evs sl x = some (.pointer (some ⟨b, 0, none⟩))) :
    Runs P sl (.entry x) t w (.tuple #[.int .i64 kv.1, kv.2]) := fun ρ hρ o ho _ => by
  have := run_entry_at (P := P) w b m l.length seen (ments 0 l).toArray l.length { key := .int .i64 kv.1, val := kv.2, born := p } (h.blk hi) (h.blk hj) (by
      simp only
      apply List.mem_of_getElem? (i := p)
      simp [ments_at, hp]) (by simp only; rw [ments_born]; exact List.nodup_range' ..)
  simp only [execOp, ho, hρ _ _ hx]
  simp [this, Sem.run_bind, Result.andThen, Sem.run, pure]
theorem WL.val0_ {op : Op} {w' : World} (h : ∀ (ρ : Operand → Value), (∀ x v, evs sl x = some v → ρ x = v) → ∀ o : Oper, o.op = op → o.type = t → (execOp ρ o).run P w = .ok (.value v) w') (k : WL P ops Z ks N D sl rest w') :
    WL P ops Z ks N D sl ({ dst := none, op := op, type := t, pos := pos, after := af, guard := none } :: rest) w := fun a ha =>
  wpList_plain rfl fun K hK => by
    unfold Oper.wp
    rw [h a.eval (fun x v hx => ha.ev hx) _ rfl rfl]
    exact hK _ _ (k _ ha)
theorem setBlk_same {b : Nat} {o : Obj} (hb : w.heap[b]? = some o) : World.setBlk w b o = w := by
  obtain ⟨h1, h2⟩ := Array.getElem?_eq_some_iff.1 hb
  have : w.heap.setIfInBounds b o = w.heap := by
    rw [← h2]; simp [Array.setIfInBounds, h1]
  unfold World.setBlk
  rw [this]
/-! a row's tail, cleared -/
theorem WL.clear (h : St W F cs w) (i : Nat) {b off n c : Nat} {arr : Array Value} {tt : TypeId} {fz : Nat × Nat} (hi : cs[i]? = some [(b, .cells arr tt fz)]) (hT : P.underlying T = some (.slice E)) (hE : Inf P E zv 1 bytes) (hz : one_ zv = true) (hx : evs sl x = some (.slice (some ⟨b, off, none⟩) n c)) (hf : Free fz arr.size) (ho : off + n ≤ arr.size)
    (k : ∀ w', St W F (cs.set i [(b, .cells (blit arr off (List.replicate n zv)) tt fz)]) w' → WL P ops Z ks N D sl rest w') :
    WL P ops Z ks N D sl ({ dst := none, op := .call { callee := .builtin .clear, args := #[x], argTypes := #[T] }, type := t, pos := pos, after := af, guard := none } :: rest) w := by
  have hb := h.blk hi
  obtain ⟨ti, h3, hzv, _⟩ := hE.get
  refine WL.val0_ (v := .tuple #[]) (w' := World.setBlk w b (.cells (blit arr off (List.replicate n zv)) tt fz)) (fun ρ hρ o ho' _ => ?_) (k _ (h.set1 hi _))
  have hu : (underlying T).run P w = .ok (.slice E) w := by simp [underlying, program, hT, bind, Sem.bind, pure, Sem.run]
  have hz2 : (zeroValue E).run P w = .ok zv w := by simp [zeroValue, typeInfo, program, h3, hzv, bind, Sem.bind, pure, Sem.run]
  have hc : (Builtin.zeroCells zv.cells n).toList = List.replicate n zv := by
    rw [one_cells hz]
    simp [Builtin.zeroCells]
    apply List.ext_getElem
    · simp
    · intro j h1 h2
      simp [Nat.mod_one]
  have hs := run_storeCells (P := P) (b := b) (tt := tt) (fz := fz) (List.replicate n zv) w off 0 arr hb hf (by simpa using ho) (by simp; intro _; exact hz)
  simp only [Nat.add_zero] at hs
  have key : (Builtin.clear_ #[T] o.type #[.slice (some ⟨b, off, none⟩) n c]).run P w = .ok (.tuple #[]) (World.setBlk w b (.cells (blit arr off (List.replicate n zv)) tt fz)) := by
    unfold Builtin.clear_
    simp only [List.getElem?_toArray, List.getElem?_cons_zero, Sem.run_bind, hu, Result.andThen]
    cases n with
    | zero =>
      simp only [List.replicate_zero, blit]
      simp [Sem.run, pure, Sem.run_bind, Result.andThen, setBlk_same hb]
    | succ n => simp [hz2, hc, hs, Sem.run, pure, Sem.run_bind, Result.andThen]
  simp only [execOp, ho', resolve]
  simp [invoke, builtin, hρ _ _ hx, key, Sem.run, pure, Sem.run_bind, Result.andThen]
end
end B
end Go.Proofs.Ythejglgnoingfaa

namespace Go.Proofs.Ythejglgnoingfaa
open Go Go.RowKit
set_option linter.unusedVariables false
set_option linter.unusedSimpArgs false
namespace B
section
variable {P : Program} {Z : Post} {ks : List Fr} {N : Nat} {D : List Deferred} {sl : Sl} {w : World} {ops : Array Oper} {rest : List Oper} {t : TypeId} {pos : String} {af : Array Edge}
theorem yield_un {a : Act} (ha : Ag N D sl a) {j u : Nat} (hj : (ops[j]?).bind (·.dst) = some u) (hv : lk sl u = some undef) : yielded ops a.tmps j = none := by
  have := ha.ag u _ hv
  unfold yielded
  rw [hj]
  simp [this, undef]
theorem WL.goffU {d : Nat} {op : Op} {j u : Nat} {b : Bool} (hj : (ops[j]?).bind (·.dst) = some u) (hv : lk sl u = some undef) (hd : Nat.ble (d + 1) N = true)
    (h : WL P ops Z ks N D ((d, undef) :: sl) rest w) :
    WL P ops Z ks N D sl ({ dst := some d, op := op, type := t, pos := pos, after := af, guard := some (j, b) } :: rest) w := fun a ha => by
  have hy := yield_un (ops := ops) ha hj hv
  unfold wpList
  rw [if_neg (by simp [Region.wanted, hy])]
  exact h _ (ha.put (Nat.le_of_ble_eq_true hd) undef)
theorem WQ.goffU {C : World → Prop} {Q : Act → Prop} {d : Nat} {op : Op} {j u : Nat} {b : Bool} (hj : (ops[j]?).bind (·.dst) = some u) (hv : lk sl u = some undef) (hd : Nat.ble (d + 1) N = true)
    (h : WQ P ops C Q N D ((d, undef) :: sl) rest) :
    WQ P ops C Q N D sl ({ dst := some d, op := op, type := t, pos := pos, after := af, guard := some (j, b) } :: rest) := fun a ha => by
  have hy := yield_un (ops := ops) ha hj hv
  unfold wpQuiet
  rw [if_neg (by simp [Region.wanted, hy])]
  exact h _ (ha.put (Nat.le_of_ble_eq_true hd) undef)
end
end B
end Go.Proofs.Ythejglgnoingfaa

namespace Go.Proofs.Ythejglgnoingfaa
open Go Go.RowKit
set_option linter.unusedVariables false
set_option linter.unusedSimpArgs false
namespace B
section
variable {P : Program} {Z : Post} {ks : List Fr} {N : Nat} {D : List Deferred} {sl : Sl} {W w : World} {ops : Array Oper} {C : World → Prop} {eff : Nat → Bool} {t : TypeId} {v : Value} {pos : String} {af : Array Edge} {k n : Nat} {L : Array Bool}
/-- 'L': what has run; n: how many are left -/
def WMs (P : Program) (ops : Array Oper) (Z : Post) (ks : List Fr) (N : Nat) (D : List Deferred) (C : World → Prop) (eff : Nat → Bool) (sl : Sl) (L : Array Bool) (n : Nat) : Prop :=
  ∀ a, Ag N D sl a → wpAnyM P ops C eff (np (den P Z ks)) n L a
def WDs (P : Program) (ops : Array Oper) (Z : Post) (ks : List Fr) (N : Nat) (D : List Deferred) (sl : Sl) (L : Array Bool) (n : Nat) (w : World) : Prop :=
  ∀ a, Ag N D sl a → wpAny P .any ops (np (den P Z ks)) n L a w
theorem WM.s (h : WMs P ops Z ks N D C eff sl (upto ops.size k) (ops.size - k)) : WM P ops Z ks N D C eff sl k := h
theorem WDs.back (h : WD P ops Z ks N D sl k w) (hL : L = upto ops.size k) (hn : n = ops.size - k) : WDs P ops Z ks N D sl L n w := by subst hL; subst hn; exact h
def dcB (ops : Array Oper) (L : Array Bool) : Bool := (List.range ops.size).all fun j => !(L.getD j false) || ((ops[j]?).map fun o => o.after.all fun e => !Region.binds .any e || L.getD e.on false).getD true
theorem dcB_spec (h : dcB ops L = true) : DC ops L := by
  intro j o ho hl e he hb
  have hj : j < ops.size := (Array.getElem?_eq_some_iff.1 ho).1
  have := List.all_eq_true.1 h j (List.mem_range.2 hj)
  rw [ho, hl] at this
  simp only [Bool.not_true, Bool.false_or, Option.map_some, Option.getD_some] at this
  have := Array.all_eq_true_iff_forall_mem.1 this e he
  simpa [hb] using this
theorem WMs.pure (hs : Region.noSelect ops = true) {d : Nat} {op : Op} (ho : ops[k]? = some { dst := some d, op := op, type := t, pos := pos, after := af, guard := none }) (he : eff k = false) (hdc : dcB ops L = true) (hf : Region.free .any ops L k = true) (hr : (Region.ready .any ops L).contains k = true)
    (h : ∀ w, Runs P sl op t w v) (hd : Nat.ble (d + 1) N = true) (kk : WMs P ops Z ks N D C eff ((d, v) :: sl) (L.setIfInBounds k true) n) : WMs P ops Z ks N D C eff sl L (n + 1) := fun a ha => by
  have hrun : ∀ w, (execOp a.eval { dst := some d, op := op, type := t, pos := pos, after := af, guard := none }).run P w = .ok (.value v) w := fun w => h w a.eval (fun x v hx => ha.ev hx) _ rfl rfl
  refine M_first (v := v) ho (Region.noSelect_spec hs) he _ _ a (dcB_spec hdc) (Region.free_spec ho hf) (by simpa using hr) (.inl ⟨wants rfl, fun w hC => ?_⟩) (.inl (.inl ⟨wants rfl, hrun⟩)) (kk _ (ha.put (Nat.le_of_ble_eq_true hd) v))
  unfold Oper.quietAt
  rw [hrun w]
  exact ⟨rfl, rfl⟩
theorem WMs.val (fl : Nat) (hs : Region.noSelect ops = true) {d : Nat} {op : Op} (ho : ops[k]? = some { dst := some d, op := op, type := t, pos := pos, after := af, guard := none }) (he : eff k = false) (hdc : dcB ops L = true) (hf : Region.free .any ops L k = true) (hr : (Region.ready .any ops L).contains k = true) (hL : L.size = ops.size)
    (hE : ((List.range ops.size).all fun j => !eff j || L.getD j true || ancB ops fl j k) = true)
    (h : ∀ w, C w → Runs P sl op t w v) (hd : Nat.ble (d + 1) N = true) (kk : WMs P ops Z ks N D C eff ((d, v) :: sl) (L.setIfInBounds k true) n) : WMs P ops Z ks N D C eff sl L (n + 1) := fun a ha => by
  refine M_first (v := v) ho (Region.noSelect_spec hs) he _ _ a (dcB_spec hdc) (Region.free_spec ho hf) (by simpa using hr) (.inl ⟨wants rfl, fun w hC => ?_⟩) (.inr fun j hj hun => ?_) (kk _ (ha.put (Nat.le_of_ble_eq_true hd) v))
  · unfold Oper.quietAt
    rw [h w hC a.eval (fun x v hx => ha.ev hx) _ rfl rfl]
    exact ⟨rfl, rfl⟩
  · rcases Nat.lt_or_ge j ops.size with hjl | hjl
    · have := List.all_eq_true.1 hE j (List.mem_range.2 hjl)
      rw [hj, hun] at this
      exact ancB_spec fl j k (by simpa using this)
    · exfalso
      rw [Array.getD_eq_getD_getElem?, Array.getElem?_eq_none (by omega)] at hun
      simp at hun
/-- now the effects -/
theorem WMs.toD (hr : (Region.ready .any ops L).all eff = true) (hn : (Region.ready .any ops L).isEmpty = false) (h : ∀ w, C w → WDs P ops Z ks N D sl L (n + 1) w) : WMs P ops Z ks N D C eff sl L (n + 1) := fun a ha => by
  refine ⟨fun h0 => (by rw [h0] at hn; cases hn), fun i hi => ?_⟩
  rw [if_pos (List.all_eq_true.1 hr i hi)]
  exact fun w hC => (h w hC a ha).2 i hi
theorem wpOp_of_WL {Q : Post} {K : Act → World → Prop} {i : Nat} {o : Oper} {a : Act} (ho : ops[i]? = some o) (hg : o.guard = none) (h : WL P ops (fun _ _ _ => False) [.cut K] N D sl [o] w) (ha : Ag N D sl a) : wpOp P ops Q i K a w := by
  have h1 := h a ha
  unfold wpOp
  rw [ho]
  simp only [wants hg, if_true]
  unfold wpList at h1
  rw [if_pos (wants hg)] at h1
  have hsame : ∀ e a w, den P (fun _ _ _ => False) [.cut K] e a w → e = .normal ∧ K a w := by
    intro e a w h
    cases e with
    | normal => exact ⟨rfl, h⟩
    | _ => exact h.elim
  rcases h1 with h1 | ⟨_, a0, w0, h1⟩
  · left
    unfold Oper.wp at h1 ⊢
    generalize (execOp a.eval o).run P w = r at *
    cases r with
    | ok n w' =>
      cases n <;> simp only [Oper.upon] at h1 ⊢
      case value u => exact (hsame _ _ _ h1).2
      case skip => exact (hsame _ _ _ h1).2
      case defer d => exact (hsame _ _ _ h1).2
      case enter f args =>
        refine h1.mono fun e w'' hh => ?_
        cases e with
        | returned u => exact (hsame _ _ _ hh).2
        | panicked ch => exact absurd (hsame _ _ _ hh).1 (by simp)
        | outgrown =>
          obtain ⟨a0, w0, hh⟩ := hh
          exact absurd (hsame _ _ _ hh).1 (by simp)
      case row row args => exact h1.mono fun u w'' hh => (hsame _ _ _ hh).2
    | halt hh w' =>
      cases hh <;> simp only [Oper.upon] at h1
      case panic u => exact absurd (hsame _ _ _ h1).1 (by simp)
  · exact absurd (hsame _ _ _ h1).1 (by simp)
/-- what is left behind operation i -/
abbrev KD (P : Program) (ops : Array Oper) (Z : Post) (ks : List Fr) (L : Array Bool) (n : Nat) : Act → World → Prop := fun a' w' => wpAny P .any ops (np (den P Z ks)) n L a' w'
theorem WDs.op {i : Nat} {o : Oper} (ho : ops[i]? = some o) (hg : o.guard = none) (hr : Region.ready .any ops L = [i]) (h : WL P ops (fun _ _ _ => False) [.cut (KD P ops Z ks (L.setIfInBounds i true) n)] N D sl [o] w) : WDs P ops Z ks N D sl L (n + 1) w := fun a ha =>
  wpAny_all hr (by simp) fun i' hi => by
    simp only [List.mem_singleton] at hi
    subst hi
    exact wpOp_of_WL ho hg h ha
/-- two that wait for nothing: either may come first -/
theorem WDs.two {i j : Nat} {o o' : Oper} (hr : Region.ready .any ops L = [i, j]) (ho : ops[i]? = some o) (hg : o.guard = none) (ho' : ops[j]? = some o') (hg' : o'.guard = none)
    (h : WL P ops (fun _ _ _ => False) [.cut (KD P ops Z ks (L.setIfInBounds i true) n)] N D sl [o] w) (h' : WL P ops (fun _ _ _ => False) [.cut (KD P ops Z ks (L.setIfInBounds j true) n)] N D sl [o'] w) : WDs P ops Z ks N D sl L (n + 1) w := fun a ha =>
  wpAny_all hr (by simp) fun i' hi => by
    simp only [List.mem_cons, List.not_mem_nil, or_false] at hi
    rcases hi with rfl | rfl
    · exact wpOp_of_WL ho hg h ha
    · exact wpOp_of_WL ho' hg' h' ha
theorem WDs.next (h : WDs P ops Z ks N D sl L n w) : WN P (fun _ _ _ => False) [.cut (KD P ops Z ks L n)] N D sl w := h
theorem WDs.fin (hr : Region.ready .any ops L = []) (h : WN P Z ks N D sl w) : WDs P ops Z ks N D sl L 0 w := fun a ha => ⟨hr, h a ha⟩
end
end B
end Go.Proofs.Ythejglgnoingfaa

namespace Go.Proofs.Ythejglgnoingfaa
open Go Go.RowKit
set_option linter.unusedVariables false
set_option linter.unusedSimpArgs false
namespace B
section
variable {P : Program} {Z : Post} {ks : List Fr} {N : Nat} {D : List Deferred} {sl : Sl} {W w : World} {F : Snap} {cs : List Res} {ops : Array Oper} {t : TypeId} {v : Value} {pos : String} {af : Array Edge} {n : Nat} {L : Array Bool}
theorem Runs.mono {sl' : Sl} {op : Op} (h : Runs P sl op t w v) (hs : ∀ x u, evs sl x = some u → evs sl' x = some u) : Runs P sl' op t w v := fun ρ hρ => h ρ (fun x u hx => hρ x u (hs x u hx))
theorem evs_cons {d : Nat} {u0 : Value} (hf : lk sl d = none) : ∀ x u, evs sl x = some u → evs ((d, u0) :: sl) x = some u := by
  intro x u hx
  cases x with
  | tmp t =>
    show lk _ _ = _
    unfold lk
    have hx' : lk sl t = some u := hx
    cases hb : Nat.beq d t with
    | true => rw [← Nat.eq_of_beq_eq_true hb, hf] at hx'; cases hx'
    | false => simp only [hb]; exact hx'
  | const c => exact hx
  | global g => exact hx
  | func f => exact hx
theorem WDs.swap {x y : Nat × Value} (hne : Nat.beq x.1 y.1 = false) (h : WDs P ops Z ks N D (y :: x :: sl) L n w) : WDs P ops Z ks N D (x :: y :: sl) L n w := fun a ha => h a ⟨ha.df, ha.sz, fun e u hl => ha.ag e u (by
  obtain ⟨x1, x2⟩ := x
  obtain ⟨y1, y2⟩ := y
  unfold lk at hl ⊢
  unfold lk at hl ⊢
  cases hx : Nat.beq x1 e with
  | true =>
    have : Nat.beq y1 e = false := by
      cases hy : Nat.beq y1 e with
      | false => rfl
      | true =>
        have h1 := Nat.eq_of_beq_eq_true hx
        have h2 := Nat.eq_of_beq_eq_true hy
        rw [h1, h2] at hne
        rw [show Nat.beq e e = true from Nat.beq_refl e] at hne
        cases hne
    simp only [this, hx] at hl ⊢
    exact hl
  | false => simp only [hx] at hl ⊢; exact hl)⟩
theorem WDs.pure (hs : Region.noSelect ops = true) (k : Nat) {d : Nat} {op : Op} (ho : ops[k]? = some { dst := some d, op := op, type := t, pos := pos, after := af, guard := none }) (hf : Region.free .any ops L k = true) (hr : (Region.ready .any ops L).contains k = true)
    (h : ∀ w, Runs P sl op t w v) (hd : Nat.ble (d + 1) N = true) (kk : WDs P ops Z ks N D ((d, v) :: sl) (L.setIfInBounds k true) n w) : WDs P ops Z ks N D sl L (n + 1) w := fun a ha => by
  have hrun : ∀ w, (execOp a.eval { dst := some d, op := op, type := t, pos := pos, after := af, guard := none }).run P w = .ok (.value v) w := fun w => h w a.eval (fun x v hx => ha.ev hx) _ rfl rfl
  exact wpAny_first (v := v) ho (Region.noSelect_spec hs) (fun c a w h => h.elim) _ _ a w (Region.free_spec ho hf) (by simpa using hr) (.inl ⟨wants rfl, hrun⟩) (kk _ (ha.put (Nat.le_of_ble_eq_true hd) v))
/-- a reading (i) and an allocation (j), neither of which waits for the other -/
theorem WDs.both (h : St W F cs w) {i j d d' : Nat} {op : Op} {o' : Oper} {R : Nat → Res} {f : Nat → Value}
    (hr : Region.ready .any ops L = [i, j]) (hr1 : Region.ready .any ops (L.setIfInBounds i true) = [j]) (hr2 : Region.ready .any ops (L.setIfInBounds j true) = [i])
    (ho : ops[i]? = some { dst := some d, op := op, type := t, pos := pos, after := af, guard := none }) (ho' : ops[j]? = some o') (hg' : o'.guard = none)
    (hd : Nat.ble (d + 1) N = true) (hne : Nat.beq d d' = false) (hf : lk sl d' = none)
    (hl : ∀ w, St W F cs w → Runs P sl op t w v)
    (hj1 : ∀ {Z : Post} {ks : List Fr}, (∀ b w', St W F (R b :: cs) w' → WL P ops Z ks N D ((d', f b) :: sl) [] w') → WL P ops Z ks N D sl [o'] w)
    (hj2 : ∀ {Z : Post} {ks : List Fr}, (∀ b w', St W F (R b :: cs) w' → WL P ops Z ks N D ((d', f b) :: (d, v) :: sl) [] w') → WL P ops Z ks N D ((d, v) :: sl) [o'] w)
    (k : ∀ b w', St W F (R b :: cs) w' → WDs P ops Z ks N D ((d', f b) :: (d, v) :: sl) ((L.setIfInBounds i true).setIfInBounds j true) n w') :
    WDs P ops Z ks N D sl L (n + 2) w := by
  have hij : i ≠ j := by
    have hn : (Region.ready .any ops L).Nodup := List.Pairwise.sublist List.filter_sublist List.nodup_range
    rw [hr] at hn
    intro e
    subst e
    simp at hn
  refine WDs.two hr ho rfl ho' hg' ?_ ?_
  · exact WL.v (hl w h) hd (WL.nil (WDs.next (WDs.op ho' hg' hr1 (hj2 (fun b w' h' => WL.nil (WDs.next (k b w' h')))))))
  · refine hj1 (fun b w' h' => WL.nil (WDs.next (WDs.op ho rfl hr2 (WL.v ((hl w' (h'.drop 0)).mono (evs_cons hf)) hd (WL.nil (WDs.next (WDs.swap hne ?_)))))))
    rw [Array.setIfInBounds_comm _ _ (Ne.symm hij)]
    exact k b w' h'
/-- the same, straight out of the part where the order does not matter -/
theorem WMs.both {C : World → Prop} {eff : Nat → Bool} {i j d d' : Nat} {op : Op} {o' : Oper} {R : Nat → Res} {f : Nat → Value} (hCs : ∀ w, C w → St W F cs w)
    (hr : Region.ready .any ops L = [i, j]) (hr1 : Region.ready .any ops (L.setIfInBounds i true) = [j]) (hr2 : Region.ready .any ops (L.setIfInBounds j true) = [i]) (he : eff i = false) (he' : eff j = true)
    (ho : ops[i]? = some { dst := some d, op := op, type := t, pos := pos, after := af, guard := none }) (ho' : ops[j]? = some o') (hg' : o'.guard = none)
    (hd : Nat.ble (d + 1) N = true) (hne : Nat.beq d d' = false) (hf : lk sl d' = none)
    (hl : ∀ w, St W F cs w → Runs P sl op t w v)
    (hj1 : ∀ {Z : Post} {ks : List Fr} {w : World}, St W F cs w → (∀ b w', St W F (R b :: cs) w' → WL P ops Z ks N D ((d', f b) :: sl) [] w') → WL P ops Z ks N D sl [o'] w)
    (hj2 : ∀ {Z : Post} {ks : List Fr} {w : World}, St W F cs w → (∀ b w', St W F (R b :: cs) w' → WL P ops Z ks N D ((d', f b) :: (d, v) :: sl) [] w') → WL P ops Z ks N D ((d, v) :: sl) [o'] w)
    (k : ∀ b w', St W F (R b :: cs) w' → WDs P ops Z ks N D ((d', f b) :: (d, v) :: sl) ((L.setIfInBounds i true).setIfInBounds j true) n w') :
    WMs P ops Z ks N D C eff sl L (n + 2) := by
  have hij : i ≠ j := by
    have hn : (Region.ready .any ops L).Nodup := List.Pairwise.sublist List.filter_sublist List.nodup_range
    rw [hr] at hn
    intro e
    subst e
    simp at hn
  intro a ha
  refine ⟨fun h0 => (by rw [hr] at h0; cases h0), fun x hx => ?_⟩
  rw [hr] at hx
  simp only [List.mem_cons, List.not_mem_nil, or_false] at hx
  rcases hx with rfl | rfl
  · rw [if_neg (by rw [he]; simp)]
    refine YieldsIn.qOp (v := v) ho (.inl ⟨wants rfl, fun w hC => ?_⟩) ?_
    · unfold Oper.quietAt
      rw [hl w (hCs w hC) a.eval (fun x v hx => ha.ev hx) _ rfl rfl]
      exact ⟨rfl, rfl⟩
    · exact M_eff hr1 he' fun w hC => wpOp_of_WL ho' hg' (hj2 (hCs w hC) (fun b w' h' => WL.nil (WDs.next (k b w' h')))) (ha.put (Nat.le_of_ble_eq_true hd) v)
  · rw [if_pos he']
    refine fun w hC => wpOp_of_WL ho' hg' (hj1 (hCs w hC) (fun b w' h' => WL.nil (WDs.next (WDs.op ho rfl hr2 (WL.v ((hl w' (h'.drop 0)).mono (evs_cons hf)) hd (WL.nil (WDs.next (WDs.swap hne ?_)))))))) ha
    rw [Array.setIfInBounds_comm _ _ (Ne.symm hij)]
    exact k b w' h'
end
end B
end Go.Proofs.Ythejglgnoingfaa

namespace Go.Proofs.Ythejglgnoingfaa
open Go Go.RowKit
set_option linter.unusedVariables false
set_option linter.unusedSimpArgs false
namespace B
section
variable {P : Program} {ops : Array Oper} {C : World → Prop} {S : Nat → Bool} {Q : Post}
/-- what is known of the world while some is still to be read: 'S': behind these nothing is asked any more -/
def EI (S : Nat → Bool) (C : World → Prop) (L : Array Bool) (w : World) : Prop := (∃ s, S s = true ∧ L.getD s false = true) ∨ C w
def wpE (P : Program) (ops : Array Oper) (S : Nat → Bool) (C : World → Prop) (Q : Post) : Nat → Array Bool → Act → World → Prop
  | 0, L, a, w => EI S C L w ∧ Region.ready .any ops L = [] ∧ Q .normal a w
  | f + 1, L, a, w => EI S C L w ∧ (Region.ready .any ops L = [] → Q .normal a w) ∧ ∀ i ∈ Region.ready .any ops L, wpOp P ops Q i (wpE P ops S C Q f (L.setIfInBounds i true)) a w
theorem wpE_inv : ∀ {f : Nat} {L : Array Bool} {a : Act} {w : World}, wpE P ops S C Q f L a w → EI S C L w
  | 0, _, _, _, h => h.1
  | _ + 1, _, _, _, h => h.1
theorem any_of_E : ∀ (f : Nat) (L : Array Bool) (a : Act) (w : World), wpE P ops S C Q f L a w → wpAny P .any ops Q f L a w
  | 0, _, _, _, h => h.2
  | f + 1, L, a, w, h => ⟨h.2.1, fun i hi => wpOp_mono (fun a' w' h' => any_of_E f _ a' w' h') (h.2.2 i hi)⟩
/-- the normal way out; or a panic, whatever lies in the slots -/
def pp (Q : Post) : Post
  | .normal, a, w => Q .normal a w
  | .panic ch, a, w => ∀ a' : Act, a'.defers = a.defers → a'.tmps.size = a.tmps.size → Q (.panic ch) a' w
  | _, _, _ => False
theorem pp_imp {Q : Post} : ∀ e a w, pp Q e a w → Q e a w := fun e a w h => by
  cases e with
  | normal => exact h
  | panic ch => exact h a rfl rfl
  | _ => exact h.elim
theorem pp_put {Q : Post} {ch : List PanicEntry} {a : Act} {d : Option Tmp} {v : Value} {w : World} (h : pp Q (.panic ch) (a.put d v) w) : pp Q (.panic ch) a w := fun a' h1 h2 => h a' (by rw [h1]; cases d <;> rfl) (by rw [h2]; cases d <;> simp [Act.put])
def YC (P : Program) (ops : Array Oper) (C : World → Prop) (o : Oper) (v : Value) (a : Act) : Prop :=
  (Region.wanted o (yielded ops a.tmps) = true ∧ ∀ w, C w → (execOp a.eval o).run P w = .ok (.value v) w) ∨
  (Region.wanted o (yielded ops a.tmps) = false ∧ v = undef)
theorem YC.wpOp {i : Nat} {o : Oper} {v : Value} {a : Act} (hi : ops[i]? = some o) (hy : YC P ops C o v a)
    {K : Act → World → Prop} {w : World} (hC : C w) (h : K (a.put o.dst v) w) : wpOp P ops Q i K a w := by
  unfold Go.wpOp
  simp only [hi]
  rcases hy with ⟨hw, hv⟩ | ⟨hw, rfl⟩
  · simp only [hw, if_true, Oper.wp, hv w hC, Oper.upon]; exact .inl h
  · simp only [hw, Bool.false_eq_true, if_false]; exact h
theorem YC.of_same {o : Oper} {v : Value} {a a' : Act} (hy : YC P ops C o v a) (he : execOp a'.eval o = execOp a.eval o)
    (hw : Region.wanted o (yielded ops a'.tmps) = Region.wanted o (yielded ops a.tmps)) : YC P ops C o v a' := by
  unfold YC at *
  rw [he, hw]
  exact hy
theorem wpOp_putC {j : Nat} {oi oj : Oper} {v : Value} (hj : ops[j]? = some oj) (hap : oi.apart ops oj = true)
    (hsi : ∀ cs b, oi.op ≠ .select cs b) (hsj : ∀ cs b, oj.op ≠ .select cs b) {K : Act → World → Prop} {a : Act} {w : World}
    (hy : YC P ops C oi v a) (h : wpOp P ops (pp Q) j K (a.put oi.dst v) w) :
    wpOp P ops (pp Q) j (fun a' w' => YC P ops C oi v a' ∧ K (a'.put oi.dst v) w') a w := by
  obtain ⟨h1, h2, h3⟩ := Oper.apart_spec hap
  have keep : ∀ (a : Act), YC P ops C oi v a → ∀ u, YC P ops C oi v (a.put oj.dst u) := fun a hy u =>
    hy.of_same (execOp_put oi hsi a oj.dst u h3) (wanted_put oi a oj.dst u h3)
  have keepD : ∀ d, YC P ops C oi v { a with defers := d :: a.defers } := fun d => hy.of_same rfl rfl
  unfold wpOp at *
  simp only [hj] at *
  rw [wanted_put oj a oi.dst v h1] at h
  split
  · rename_i hw
    simp only [hw, if_true] at h
    rcases h with h | ⟨hasks, hlets⟩
    case inr => exact .inr ⟨by unfold Oper.asks at *; rw [execOp_put oj hsj a oi.dst v h1] at hasks; exact hasks, hlets⟩
    refine .inl ?_
    unfold Oper.wp at *
    rw [execOp_put oj hsj a oi.dst v h1] at h
    generalize (execOp a.eval oj).run P w = r at *
    cases r with
    | ok n w' =>
      cases n <;> simp only [Oper.upon] at h ⊢
      case value u => exact ⟨keep a hy u, by rw [← Act.put_comm a v u h2]; exact h⟩
      case skip => exact ⟨keep a hy _, by rw [← Act.put_comm a v undef h2]; exact h⟩
      case defer d =>
        refine ⟨keep _ (keepD d) _, ?_⟩
        rw [← Act.put_comm _ v undef h2, ← Act.put_defers]
        exact h
      case enter f args =>
        refine Calls.mono h fun e w'' he => ?_
        cases e with
        | returned u => exact ⟨keep a hy u, by rw [← Act.put_comm a v u h2]; exact he⟩
        | panicked c => exact pp_put he
        | outgrown => exact he
      case row row args => exact Rows.mono h fun u w'' he => ⟨keep a hy u, by rw [← Act.put_comm a v u h2]; exact he⟩
    | halt x w' =>
      cases x <;> simp only [Oper.upon] at h ⊢
      case panic u => exact pp_put h
  · rename_i hw
    simp only [hw] at h
    exact ⟨keep a hy _, by rw [← Act.put_comm a v undef h2]; exact h⟩
theorem un_ready {k : Nat} {L : Array Bool} (hr : k ∈ Region.ready .any ops L) : L.getD k false = false := by
  have h0 := (mem_ready.1 hr).1
  rcases Nat.lt_or_ge k L.size with h' | h'
  · simp [h'] at h0 ⊢; exact h0
  · simp [Array.getElem?_eq_none h'] at h0
theorem EI.back {k : Nat} {L : Array Bool} {w : World} (hdc : DC ops L) (hr : k ∈ Region.ready .any ops L) (hS : ∀ s, S s = true → Anc ops s k) (h : EI S C (L.setIfInBounds k true) w) : EI S C L w := by
  rcases h with ⟨s, hs, hl⟩ | h
  · by_cases e : k = s
    · subst e
      obtain ⟨_, o, ho, hall⟩ := mem_ready.1 hr
      have := hdc.anc (hS k hs) (fun o' ho' e' he' hb' => by rw [ho] at ho'; injection ho' with ho'; subst ho'; exact hall e' he' hb')
      rw [un_ready hr] at this; cases this
    · rw [getD_set_ne false e] at hl
      exact .inl ⟨s, hs, hl⟩
  · exact .inr h
theorem EI.now {k : Nat} {L : Array Bool} {w : World} (hdc : DC ops L) (hr : k ∈ Region.ready .any ops L) (hS : ∀ s, S s = true → Anc ops s k) (h : EI S C L w) : C w := by
  rcases h with ⟨s, hs, hl⟩ | h
  · have := hdc.anc (hS s hs) (fun o ho e he hb => hdc s o ho hl e he hb)
    rw [un_ready hr] at this; cases this
  · exact h
theorem E_first {C' : World → Prop} {k : Nat} {ok : Oper} {v : Value} (hk : ops[k]? = some ok) (hsel : ∀ (j : Nat) (o : Oper) cs b, ops[j]? = some o → o.op ≠ .select cs b)
    (hB : ∀ L w, DC ops L → k ∈ Region.ready .any ops L → EI S C (L.setIfInBounds k true) w → EI S C L w) (hN : ∀ L w, DC ops L → k ∈ Region.ready .any ops L → EI S C L w → C' w) :
    ∀ (fuel : Nat) (L : Array Bool) (a : Act) (w : World), DC ops L →
      (∀ j oj, ops[j]? = some oj → j ≠ k → L.getD j true = false → (∀ e ∈ oj.after, Region.binds .any e = true → e.on ≠ k) → ok.apart ops oj = true) →
      k ∈ Region.ready .any ops L → YC P ops C' ok v a →
      wpE P ops S C (pp Q) fuel (L.setIfInBounds k true) (a.put ok.dst v) w → wpE P ops S C (pp Q) (fuel + 1) L a w := by
  intro fuel
  induction fuel with
  | zero =>
    intro L a w hdc _ hr hy H
    have hI := hB _ _ hdc hr (wpE_inv H)
    refine ⟨hI, fun h => (by rw [h] at hr; cases hr), fun j hj => ?_⟩
    by_cases hji : j = k
    · subst hji
      exact hy.wpOp hk (hN _ _ hdc hr hI) H
    · have := ready_mono hj hji
      rw [H.2.1] at this
      cases this
  | succ fuel ih =>
    intro L a w hdc hfree hr hy H
    have hI := hB _ _ hdc hr (wpE_inv H)
    refine ⟨hI, fun h => (by rw [h] at hr; cases hr), fun j hj => ?_⟩
    by_cases hji : j = k
    · subst hji
      exact hy.wpOp hk (hN _ _ hdc hr hI) H
    · have h1 := H.2.2 j (ready_mono hj hji)
      obtain ⟨hjun, oj, hoj, hall⟩ := mem_ready.1 hj
      have hkun := un_ready hr
      have hnot : ∀ e ∈ oj.after, Region.binds .any e = true → e.on ≠ k := fun e he hb heq => by
        have h1 := hall e he hb
        rw [heq, hkun] at h1; cases h1
      have h2 := wpOp_putC hoj (hfree j oj hoj hji hjun hnot) (fun cs b => hsel k ok cs b hk) (fun cs b => hsel j oj cs b hoj) hy h1
      have hfree' : ∀ i oi, ops[i]? = some oi → i ≠ k → (L.setIfInBounds j true).getD i true = false →
          (∀ e ∈ oi.after, Region.binds .any e = true → e.on ≠ k) → ok.apart ops oi = true := fun i oi hi hik hun hno => by
        refine hfree i oi hi hik ?_ hno
        by_cases hjk : j = i
        · subst hjk; exact hjun
        · rw [getD_set_ne true hjk] at hun; exact hun
      refine wpOp_mono (fun a' w' h3 => ih (L.setIfInBounds j true) a' w' (hdc.set hj) hfree' (ready_mono hr (Ne.symm hji)) h3.1 ?_) h2
      rw [Array.setIfInBounds_comm _ _ hji]
      exact h3.2
theorem EI.backP {k : Nat} {L : Array Bool} {w : World} (hS : S k = false) (h : EI S C (L.setIfInBounds k true) w) : EI S C L w := by
  rcases h with ⟨s, hs, hl⟩ | h
  · have e : k ≠ s := fun e => by subst e; rw [hS] at hs; cases hs
    rw [getD_set_ne false e] at hl
    exact .inl ⟨s, hs, hl⟩
  · exact .inr h
end
section
variable {P : Program} {Z : Post} {ks : List Fr} {N : Nat} {D : List Deferred} {sl : Sl} {W w : World} {F : Snap} {cs : List Res} {ops : Array Oper} {C : World → Prop} {S : Nat → Bool} {t : TypeId} {v : Value} {pos : String} {af : Array Edge} {g : Option (Nat × Bool)} {k n : Nat} {L : Array Bool}
def WE (P : Program) (ops : Array Oper) (Z : Post) (ks : List Fr) (N : Nat) (D : List Deferred) (S : Nat → Bool) (C : World → Prop) (sl : Sl) (L : Array Bool) (n : Nat) (w : World) : Prop :=
  ∀ a, Ag N D sl a → wpE P ops S C (pp (den P Z ks)) n L a w
theorem WC.ereg (hs : St W F cs w) (C : World → Prop) (S : Nat → Bool) {id : Nat} {l : List Oper} (hm : P.follows .mixedOrders = true) (hB : Region.noSelect l.toArray = true) (h : Region.noSelect l.toArray = true → ∀ w', St W F cs w' → WE P l.toArray Z ks N D S C sl (upto l.toArray.size 0) l.toArray.size w') : WC P Z ks N D sl (.region id l.toArray true) w := fun a ha => by
  refine wp_mono (Q := pp (den P Z ks)) (wp_region_any hm ?_) pp_imp
  have := any_of_E _ _ _ _ (h hB _ hs.drew a ha)
  have e : upto l.toArray.size 0 = Array.replicate l.toArray.size false := by
    apply Array.toList_inj.1; simp [upto]
  rw [e] at this
  exact this
/-- the class of all worlds where nothing has changed that never changes -/
def EC (W : World) (F : Snap) (w : World) : Prop := ∃ cs, St W F cs w
theorem EC.mk (h : St W F cs w) {G : Snap} (hle : Le G F) : EC W G w := ⟨_, h.weak hle⟩
theorem WC.eregO (hs : St W F cs w) (S : Nat → Bool) {id : Nat} {l : List Oper} (hm : P.follows .mixedOrders = true) (hB : Region.noSelect l.toArray = true) (h : Region.noSelect l.toArray = true → ∀ w', St W F cs w' → WE P l.toArray Z ks N D S (St W F cs) sl (upto l.toArray.size 0) l.toArray.size w') : WC P Z ks N D sl (.region id l.toArray true) w := WC.ereg hs _ S hm hB h
theorem WC.eregF (hs : St W F cs w) (S : Nat → Bool) {id : Nat} {l : List Oper} (hm : P.follows .mixedOrders = true) (hB : Region.noSelect l.toArray = true) (h : Region.noSelect l.toArray = true → ∀ w', St W F cs w' → WE P l.toArray Z ks N D S (EC W F) sl (upto l.toArray.size 0) l.toArray.size w') : WC P Z ks N D sl (.region id l.toArray true) w := WC.ereg hs _ S hm hB h
def gOn (ops : Array Oper) (sl : Sl) : Option (Nat × Bool) → Prop
  | none => True
  | some (j, b) => ∃ u c, (ops[j]?).bind (·.dst) = some u ∧ lk sl u = some (.bool c) ∧ c = b
theorem gOn_wanted {o : Oper} {a : Act} (ha : Ag N D sl a) (hg : o.guard = g) (h : gOn ops sl g) : Region.wanted o (yielded ops a.tmps) = true := by
  subst hg
  unfold Region.wanted
  cases hgd : o.guard with
  | none => rfl
  | some gw =>
    obtain ⟨j, b⟩ := gw
    rw [hgd] at h
    obtain ⟨u, c, h1, h2, rfl⟩ := h
    simp [yield_lk ha h1 h2]
def gOff (ops : Array Oper) (sl : Sl) : Option (Nat × Bool) → Prop
  | none => False
  | some (j, b) => ∃ u x, (ops[j]?).bind (·.dst) = some u ∧ lk sl u = some x ∧ (x = undef ∨ x = .bool (!b))
theorem gOff_wanted {o : Oper} {a : Act} (ha : Ag N D sl a) (hg : o.guard = g) (h : gOff ops sl g) : Region.wanted o (yielded ops a.tmps) = false := by
  subst hg
  unfold Region.wanted
  cases hgd : o.guard with
  | none => rw [hgd] at h; exact h.elim
  | some gw =>
    obtain ⟨j, b⟩ := gw
    rw [hgd] at h
    obtain ⟨u, x, h1, h2, h3⟩ := h
    rcases h3 with rfl | rfl
    · simp [yield_un ha h1 h2]
    · simp [yield_lk ha h1 h2]
theorem ancS (fl : Nat) {l : List Nat} (hE : (l.all fun j => ancB ops fl j k) = true) : ∀ s, (fun s => l.any (Nat.beq s)) s = true → Anc ops s k := fun s hs' => by
  obtain ⟨x, hx, he⟩ := List.any_eq_true.1 hs'
  have := List.all_eq_true.1 hE x hx
  rw [Nat.eq_of_beq_eq_true he]
  exact ancB_spec fl x k this
/-- what the class fixes -/
theorem WE.val (fl : Nat) (hs : Region.noSelect ops = true) (k : Nat) {l : List Nat} {d : Nat} {op : Op} (ho : ops[k]? = some { dst := some d, op := op, type := t, pos := pos, after := af, guard := g }) (hg : gOn ops sl g)
    (hdc : dcB ops L = true) (hf : Region.free .any ops L k = true) (hr : (Region.ready .any ops L).contains k = true)
    (hE : (l.all fun j => ancB ops fl j k) = true)
    (h : ∀ w, C w → Runs P sl op t w v) (hd : Nat.ble (d + 1) N = true) (kk : WE P ops Z ks N D (fun s => l.any (Nat.beq s)) C ((d, v) :: sl) (L.setIfInBounds k true) n w) : WE P ops Z ks N D (fun s => l.any (Nat.beq s)) C sl L (n + 1) w := fun a ha =>
  E_first (C' := C) (v := v) ho (Region.noSelect_spec hs) (fun _ _ hdc hr h => h.back hdc hr (ancS fl hE)) (fun _ _ hdc hr h => h.now hdc hr (ancS fl hE)) _ _ a w (dcB_spec hdc) (Region.free_spec ho hf) (by simpa using hr) (.inl ⟨gOn_wanted ha rfl hg, fun w hC => h w hC a.eval (fun x v hx => ha.ev hx) _ rfl rfl⟩) (kk _ (ha.put (Nat.le_of_ble_eq_true hd) v))
/-- what hangs on its operands alone -/
theorem WE.pure (hs : Region.noSelect ops = true) (k : Nat) {d : Nat} {op : Op} (ho : ops[k]? = some { dst := some d, op := op, type := t, pos := pos, after := af, guard := g }) (hg : gOn ops sl g)
    (hdc : dcB ops L = true) (hf : Region.free .any ops L k = true) (hr : (Region.ready .any ops L).contains k = true)
    (hS : S k = false)
    (h : ∀ w, Runs P sl op t w v) (hd : Nat.ble (d + 1) N = true) (kk : WE P ops Z ks N D S C ((d, v) :: sl) (L.setIfInBounds k true) n w) : WE P ops Z ks N D S C sl L (n + 1) w := fun a ha =>
  E_first (C' := fun _ => True) (v := v) ho (Region.noSelect_spec hs) (fun _ _ _ _ h => h.backP hS) (fun _ _ _ _ _ => trivial) _ _ a w (dcB_spec hdc) (Region.free_spec ho hf) (by simpa using hr) (.inl ⟨gOn_wanted ha rfl hg, fun w _ => h w a.eval (fun x v hx => ha.ev hx) _ rfl rfl⟩) (kk _ (ha.put (Nat.le_of_ble_eq_true hd) v))
/-- what a guard keeps out -/
theorem WE.off (hs : Region.noSelect ops = true) (k : Nat) {d : Nat} {op : Op} (ho : ops[k]? = some { dst := some d, op := op, type := t, pos := pos, after := af, guard := g }) (hg : gOff ops sl g)
    (hdc : dcB ops L = true) (hf : Region.free .any ops L k = true) (hr : (Region.ready .any ops L).contains k = true)
    (hS : S k = false)
    (hd : Nat.ble (d + 1) N = true) (kk : WE P ops Z ks N D S C ((d, undef) :: sl) (L.setIfInBounds k true) n w) : WE P ops Z ks N D S C sl L (n + 1) w := fun a ha =>
  E_first (C' := fun _ => True) (v := undef) ho (Region.noSelect_spec hs) (fun _ _ _ _ h => h.backP hS) (fun _ _ _ _ _ => trivial) _ _ a w (dcB_spec hdc) (Region.free_spec ho hf) (by simpa using hr) (.inr ⟨gOff_wanted ha rfl hg, rfl⟩) (kk _ (ha.put (Nat.le_of_ble_eq_true hd) undef))
/-! the same, with what a look at the region tells left out -/
theorem WE.v0 (fl : Nat) (hs : Region.noSelect ops = true) (k : Nat) {l : List Nat} {d : Nat} {op : Op} (ho : ops[k]? = some { dst := some d, op := op, type := t, pos := pos, after := af, guard := none })
    (h : ∀ w, C w → Runs P sl op t w v) (hd : Nat.ble (d + 1) N = true) (kk : WE P ops Z ks N D (fun s => l.any (Nat.beq s)) C ((d, v) :: sl) (L.setIfInBounds k true) n w)
    (hdc : dcB ops L = true := by kernel_rfl) (hf : Region.free .any ops L k = true := by kernel_rfl) (hr : (Region.ready .any ops L).contains k = true := by kernel_rfl) (hE : (l.all fun j => ancB ops fl j k) = true := by kernel_rfl) : WE P ops Z ks N D (fun s => l.any (Nat.beq s)) C sl L (n + 1) w :=
  WE.val (g := none) fl hs k ho trivial hdc hf hr hE h hd kk
theorem WE.v1 (fl : Nat) (hs : Region.noSelect ops = true) (k : Nat) {l : List Nat} {d j : Nat} {b : Bool} {op : Op} (ho : ops[k]? = some { dst := some d, op := op, type := t, pos := pos, after := af, guard := some (j, b) }) (hg : gOn ops sl (some (j, b)))
    (h : ∀ w, C w → Runs P sl op t w v) (hd : Nat.ble (d + 1) N = true) (kk : WE P ops Z ks N D (fun s => l.any (Nat.beq s)) C ((d, v) :: sl) (L.setIfInBounds k true) n w)
    (hdc : dcB ops L = true := by kernel_rfl) (hf : Region.free .any ops L k = true := by kernel_rfl) (hr : (Region.ready .any ops L).contains k = true := by kernel_rfl) (hE : (l.all fun j => ancB ops fl j k) = true := by kernel_rfl) : WE P ops Z ks N D (fun s => l.any (Nat.beq s)) C sl L (n + 1) w :=
  WE.val (g := some (j, b)) fl hs k ho hg hdc hf hr hE h hd kk
theorem WE.p0 (hs : Region.noSelect ops = true) (k : Nat) {d : Nat} {op : Op} (ho : ops[k]? = some { dst := some d, op := op, type := t, pos := pos, after := af, guard := none })
    (h : ∀ w, Runs P sl op t w v) (hd : Nat.ble (d + 1) N = true) (kk : WE P ops Z ks N D S C ((d, v) :: sl) (L.setIfInBounds k true) n w)
    (hdc : dcB ops L = true := by kernel_rfl) (hf : Region.free .any ops L k = true := by kernel_rfl) (hr : (Region.ready .any ops L).contains k = true := by kernel_rfl) (hS : S k = false := by kernel_rfl) : WE P ops Z ks N D S C sl L (n + 1) w :=
  WE.pure (g := none) hs k ho trivial hdc hf hr hS h hd kk
theorem WE.p1 (hs : Region.noSelect ops = true) (k : Nat) {d j : Nat} {b : Bool} {op : Op} (ho : ops[k]? = some { dst := some d, op := op, type := t, pos := pos, after := af, guard := some (j, b) }) (hg : gOn ops sl (some (j, b)))
    (h : ∀ w, Runs P sl op t w v) (hd : Nat.ble (d + 1) N = true) (kk : WE P ops Z ks N D S C ((d, v) :: sl) (L.setIfInBounds k true) n w)
    (hdc : dcB ops L = true := by kernel_rfl) (hf : Region.free .any ops L k = true := by kernel_rfl) (hr : (Region.ready .any ops L).contains k = true := by kernel_rfl) (hS : S k = false := by kernel_rfl) : WE P ops Z ks N D S C sl L (n + 1) w :=
  WE.pure (g := some (j, b)) hs k ho hg hdc hf hr hS h hd kk
theorem WE.o1 (hs : Region.noSelect ops = true) (k : Nat) {d j : Nat} {b : Bool} {op : Op} (ho : ops[k]? = some { dst := some d, op := op, type := t, pos := pos, after := af, guard := some (j, b) }) (hg : gOff ops sl (some (j, b)))
    (hd : Nat.ble (d + 1) N = true) (kk : WE P ops Z ks N D S C ((d, undef) :: sl) (L.setIfInBounds k true) n w)
    (hdc : dcB ops L = true := by kernel_rfl) (hf : Region.free .any ops L k = true := by kernel_rfl) (hr : (Region.ready .any ops L).contains k = true := by kernel_rfl) (hS : S k = false := by kernel_rfl) : WE P ops Z ks N D S C sl L (n + 1) w :=
  WE.off (g := some (j, b)) hs k ho hg hdc hf hr hS hd kk
abbrev KE (P : Program) (ops : Array Oper) (Z : Post) (ks : List Fr) (S : Nat → Bool) (C : World → Prop) (L : Array Bool) (n : Nat) : Act → World → Prop := fun a' w' => wpE P ops S C (pp (den P Z ks)) n L a' w'
/-- within a region: a panic goes on, whatever lies in the slots -/
def ZE (N : Nat) (D : List Deferred) (Q : Post) : Post
  | .panic ch, _, w => ∀ a', Ag N D [] a' → Q (.panic ch) a' w
  | _, _, _ => False
theorem wpOp_of_WLg {Q : Post} {K : Act → World → Prop} {i : Nat} {o : Oper} {a : Act} (ho : ops[i]? = some o) (h : WL P ops (ZE N D Q) [.cut K] N D sl [o] w) (ha : Ag N D sl a) : wpOp P ops (pp Q) i K a w := by
  have h1 := h a ha
  unfold wpOp
  rw [ho]
  simp only
  unfold wpList at h1
  have hn : ∀ a w, den P (ZE N D Q) [.cut K] .normal a w → K a w := fun a w h => h
  have hp : ∀ ch w, den P (ZE N D Q) [.cut K] (.panic ch) a w → pp Q (.panic ch) a w := fun ch w h a' h1 h2 => h a' ⟨by rw [h1, ha.df], by rw [h2, ha.sz], fun d v hl => by simp [lk] at hl⟩
  have hout : ∀ a w, ¬ den P (ZE N D Q) [.cut K] .outgrown a w := fun a w h => h
  split
  · rename_i hw
    rw [if_pos hw] at h1
    rcases h1 with h1 | ⟨_, a0, w0, h1⟩
    · left
      unfold Oper.wp at h1 ⊢
      generalize (execOp a.eval o).run P w = r at *
      cases r with
      | ok n w' =>
        cases n <;> simp only [Oper.upon] at h1 ⊢
        case value u => exact h1
        case skip => exact h1
        case defer d => exact h1
        case enter f args =>
          refine h1.mono fun e w'' hh => ?_
          cases e with
          | returned u => exact hh
          | panicked ch => exact hp _ _ hh
          | outgrown =>
            obtain ⟨a0, w0, hh⟩ := hh
            exact (hout _ _ hh).elim
        case row row args => exact h1.mono fun u w'' hh => hh
      | halt hh w' =>
        cases hh <;> simp only [Oper.upon] at h1 ⊢
        case panic u => exact hp _ _ h1
    · exact (hout _ _ h1).elim
  · rename_i hw
    rw [if_neg hw] at h1
    exact h1
theorem WE.op {i : Nat} {o : Oper} (hI : EI S C L w) (ho : ops[i]? = some o) (hr : Region.ready .any ops L = [i]) (h : WL P ops (ZE N D (den P Z ks)) [.cut (KE P ops Z ks S C (L.setIfInBounds i true) n)] N D sl [o] w) : WE P ops Z ks N D S C sl L (n + 1) w := fun a ha =>
  ⟨hI, fun h0 => (by rw [hr] at h0; cases h0), fun i' hi => by
    rw [hr] at hi
    simp only [List.mem_singleton] at hi
    subst hi
    exact wpOp_of_WLg ho h ha⟩
theorem WE.next (h : WE P ops Z ks N D S C sl L n w) : WN P (ZE N D (den P Z ks)) [.cut (KE P ops Z ks S C L n)] N D sl w := h
theorem WE.fin (hI : EI S C L w) (hr : Region.ready .any ops L = []) (h : WN P Z ks N D sl w) : WE P ops Z ks N D S C sl L 0 w := fun a ha => ⟨hI, hr, h a ha⟩
/-- what was lent for reading only is the call's own again -/
theorem St.thaw {W w w' : World} {F G : Snap} {cs : List Res} {r : Res} {i : Nat} {new : List Res} (h : St W F cs w) (hi : cs[i]? = some r) (hG : ∀ p ∈ r, G p.1 = some p.2) (hle : Le F G) (h' : St W G (new ++ cs.eraseIdx i) w') : St W F (new ++ cs) w' := by
  have h0 := h'.weak hle
  obtain ⟨l1, l2, e1, _, e3⟩ := split_at cs i _ hi
  rw [e3] at h' h0
  subst e1
  have hnd := h.nd
  have hnd' := h'.nd
  have hr0 : ∀ p ∈ r, p ∈ (l1 ++ r :: l2).flatten := fun p hp => by simp [hp]
  have hdis : ∀ p ∈ (new ++ (l1 ++ l2)).flatten, ∀ q ∈ r, p.1 ≠ q.1 := fun p hp q hq e => by
    have h1 := (h'.own p hp).2.2
    have h2 := hG q hq
    rw [e, h2] at h1; cases h1
  refine ⟨h0.bel, h0.imm, fun p hp => ?_, ?_⟩
  · have hp' : p ∈ r ∨ p ∈ (new ++ (l1 ++ l2)).flatten := by
      simp only [List.flatten_append, List.flatten_cons, List.mem_append] at hp ⊢
      rcases hp with hp | hp | hp | hp
      · exact .inr (.inl hp)
      · exact .inr (.inr (.inl hp))
      · exact .inl hp
      · exact .inr (.inr (.inr hp))
    rcases hp' with hp' | hp'
    · exact ⟨h'.imm _ _ (hG p hp'), (h.own p (hr0 p hp')).2⟩
    · exact h0.own p hp'
  · have hperm : List.Perm ((new ++ (l1 ++ r :: l2)).flatten.map (·.1)) (r.map (·.1) ++ (new ++ (l1 ++ l2)).flatten.map (·.1)) := by
      rw [← List.map_append]
      refine List.Perm.map _ ?_
      simp only [List.flatten_append, List.flatten_cons]
      exact (List.Perm.append_left _ (List.perm_append_comm_assoc _ _ _)).trans (List.perm_append_comm_assoc _ _ _)
    rw [hperm.nodup_iff, List.nodup_append]
    refine ⟨?_, hnd', fun x hx y hy => ?_⟩
    · refine hnd.sublist (List.Sublist.map _ ?_)
      simp only [List.flatten_append, List.flatten_cons]
      exact (List.sublist_append_left _ _).trans (List.sublist_append_right _ _)
    · obtain ⟨q, hq, rfl⟩ := List.mem_map.1 hx
      obtain ⟨p, hp, rfl⟩ := List.mem_map.1 hy
      exact Ne.symm (hdis p hp q hq)
end
end B
end Go.Proofs.Ythejglgnoingfaa

namespace Go.Proofs.Ythejglgnoingfaa
open Go Go.RowKit
set_option linter.unusedVariables false
set_option linter.unusedSimpArgs false
namespace B
def Kd.rows {α : Type} (m : Nat) (f : α → List Value) (h : ∀ x, (f x).length = m) : Kd α := ⟨m, fun _ x c => c = f x, fun h' => by rw [h']; exact h _, fun _ h => h⟩
section
variable {P : Program} {sl : Sl} {W w : World} {F : Snap} {cs : List Res} {t T : TypeId} {x : Operand} {zv : Value} {bytes : Nat}
theorem Runs.loadRows {α : Type} {m n : Nat} {f : α → List Value} {hf : ∀ x, (f x).length = m} {A : Option Addr} {ad : Addr} {xs : List α} {d : TypeDesc} (d0 : α) (h : St W F cs w) (hR : RdS (Kd.rows m f hf) F A xs) (hA : A = some ad) (hn : n < xs.length) (hu : P.underlying T = some d) (hs : scal d = false) (hT : Inf P T zv m bytes)
    (hx : evs sl x = some (.pointer (some (ad.add (n * m))))) : Runs P sl (.load T x) t w (.agg (f (xs.getD n d0)).toArray) := by
  obtain ⟨ti, h1, _, h3, _⟩ := hT.get
  obtain ⟨ad', c, hA', hc, hr⟩ := hR.at_ (i := n) (x := xs.getD n d0) (by rw [List.getD_eq_getElem?_getD, List.getElem?_eq_getElem hn]; rfl)
  rw [hA] at hA'
  injection hA' with hA'
  subst hA'
  have hc' : c = f (xs.getD n d0) := hc
  subst hc'
  refine Runs.loadA hu hs h1 (by rw [h3, hf]) hx (fun j v hj => ?_)
  rw [add_add]
  exact h.cell (hr j v hj)
theorem rdA {α : Type} {d : Kd α} {A : Option Addr} {xs : List α} (h : RdS d F A xs) (h0 : 0 < xs.length) : ∃ ad, A = some ad := by
  rcases h with h | ⟨ad, hA, _⟩
  · rw [h] at h0; simp at h0
  · exact ⟨ad, hA⟩
end
end B
end Go.Proofs.Ythejglgnoingfaa

namespace Go.Proofs.Ythejglgnoingfaa
open Go Go.RowKit
set_option linter.unusedVariables false
set_option linter.unusedSimpArgs false
namespace B
theorem list_of {α : Type} {p : Nat → α → Prop} : ∀ {n : Nat}, (∀ i, i < n → ∃ x, p i x) → ∃ xs : List α, xs.length = n ∧ ∀ i x, xs[i]? = some x → p i x
  | 0, _ => ⟨[], rfl, fun i x h => by simp at h⟩
  | n + 1, h => by
    obtain ⟨xs, h1, h2⟩ := list_of (n := n) (fun i hi => h i (by omega))
    obtain ⟨x, hx⟩ := h n (by omega)
    refine ⟨xs ++ [x], by simp [h1], fun i y hy => ?_⟩
    by_cases e : i < xs.length
    · rw [List.getElem?_append_left e] at hy
      exact h2 i y hy
    · rw [List.getElem?_append_right (by omega)] at hy
      have : i = n := by
        by_cases e' : i - xs.length = 0
        · omega
        · obtain ⟨m, hm⟩ := Nat.exists_eq_succ_of_ne_zero e'
          rw [hm] at hy
          simp at hy
      subst this
      rw [h1, Nat.sub_self] at hy
      simp only [List.getElem?_cons_zero, Option.some.injEq] at hy
      subst hy
      exact hx
theorem cellF_heap (W : World) (a : Addr) : cellF (fun k => W.heap[k]?) a = W.cell? a := by
  unfold cellF World.cell?
  rfl
section
variable {H : Type} {enc : TypeId × Value → H} {P : Program} {W : World} {base : Nat} {spare : Nat → Bool} {held : Bool}
theorem open_rd {α : Type} (kd : Kd α) (R : α → Prop) {t e : TypeId} (ht : P.underlying t = some (.slice e)) (hce : P.cellsOf e = kd.sz)
    (elem : ∀ n cs x, cs.length = kd.sz → DataW.trod enc P W base spare held n e cs = some x → ∃ y, kd.K (fun k => W.heap[k]?) y cs ∧ R y)
    {fuel : Nat} {cs : List Value} {x : DataW H × List MemPlace} (h : DataW.trod enc P W base spare held fuel t cs = some x) :
    ∃ A cap xs, cs = [.slice A xs.length cap] ∧ RdS kd (fun k => W.heap[k]?) A xs ∧ (∀ y ∈ xs, R y) ∧ xs.length ≤ cap ∧ cap ≤ maxLen := by
  rcases Go.Deep.open_slice ht h with ⟨rfl, _⟩ | ⟨a, len, cap, m, n, D, Pl, rfl, _, hl, hm, hmm, _, hx⟩
  · exact ⟨none, 0, [], rfl, .inl rfl, by simp, Nat.le_refl _, by decide⟩
  · have hlm : len ≤ m := by rw [hmm]; split <;> omega
    obtain ⟨xs, h1, h2⟩ := list_of (n := len) (p := fun i y => R y ∧ ∃ c, kd.K (fun k => W.heap[k]?) y c ∧ ∀ j v, c[j]? = some v → cellF (fun k => W.heap[k]?) (a.add (i * kd.sz + j)) = some v) (fun i hi => by
      obtain ⟨cs', g1, g2⟩ := hx i (by omega)
      rw [hce] at g1
      obtain ⟨_, hlen, hcell⟩ := World.cells?_some g1
      obtain ⟨y, hy, hr⟩ := elem _ _ _ hlen g2
      refine ⟨y, hr, cs', hy, fun j v hj => ?_⟩
      have hj' : j < kd.sz := by rw [← hlen]; exact (List.getElem?_eq_some_iff.1 hj).1
      have := hcell j hj'
      rw [add_add] at this
      rw [cellF_heap, this, hj])
    subst h1
    refine ⟨some a, cap, xs, rfl, .inr ⟨a, rfl, fun i x hx => (h2 i x hx).2⟩, fun y hy => ?_, hl, hm⟩
    obtain ⟨i, hi⟩ := List.getElem?_of_mem hy
    exact (h2 i y hi).1
end
end B
end Go.Proofs.Ythejglgnoingfaa

namespace Go.Proofs.Ythejglgnoingfaa
open Go Go.RowKit
set_option linter.unusedVariables false
set_option linter.unusedSimpArgs false
namespace B
section
variable {P : Program} {Z : Post} {ks : List Fr} {N : Nat} {D : List Deferred} {sl : Sl} {W w : World} {ops : Array Oper} {rest : List Oper} {F : Snap} {cs : List Res} {t T E : TypeId} {x y : Operand} {zv : Value} {pos : String} {af : Array Edge} {sz bytes : Nat} {kl kc : IntKind}
theorem WL.makeSlice {d l c : Nat} (hd : Nat.ble (d + 1) N = true) (h : St W F cs w) (hT : P.underlying T = some (.slice E)) (hE : Inf P E zv sz bytes) (hx : evs sl x = some (.int kl (l : Int))) (hy : evs sl y = some (.int kc (c : Int))) (hlc : l ≤ c)
    (hc : c * sz ≤ 16777216) (hb : bytes * c ≤ 281474976710656) (h63 : c ≤ 9223372036854775807)
    (k : ∀ b w', St W F ([(b, .cells (madeCells zv.cells (c * sz)) E (0, 0))] :: cs) w' → WL P ops Z ks N D ((d, .slice (some ⟨b, 0, none⟩) l c) :: sl) rest w') :
    WL P ops Z ks N D sl ({ dst := some d, op := .makeSlice T x y, type := t, pos := pos, after := af, guard := none } :: rest) w := by
  obtain ⟨ti, h1, h2, h3, h4⟩ := hE.get
  refine WL.val_ (w' := w.alloc (.cells (madeCells zv.cells (c * sz)) E)) hd (fun ρ hρ o ho _ => ?_) (k _ _ (h.alloc _))
  have hb' : (ti.bytes : Int) * (c : Int) ≤ 281474976710656 := by
    rw [h4, ← Int.natCast_mul]
    omega
  have hr := run_makeSlice (P := P) w T E ti zv hT h1 h2 kl kc l c (by omega) (by omega) (by rw [h3]; simpa using hc) hb' (by omega)
  simp only [Int.toNat_natCast, h3] at hr
  simp only [execOp, ho, hρ _ _ hx, hρ _ _ hy]
  rw [Sem.run_bind, hr]
  rfl
theorem made1 {zv : Value} (h1 : one_ zv = true) (c : Nat) : madeCells zv.cells (c * 1) = (List.replicate c zv).toArray := by
  rw [one_cells h1, Nat.mul_one]
  apply Array.ext
  · simp [madeCells]
  · intro i hi hj
    simp [madeCells]
    have : i % 1 = 0 := Nat.mod_one i
    simp [this]
/-- .. of one-cell values -/
theorem WL.make1 {d l c : Nat} (hd : Nat.ble (d + 1) N = true) (h : St W F cs w) (hT : P.underlying T = some (.slice E)) (hE : Inf P E zv 1 bytes) (h1 : one_ zv = true) (hx : evs sl x = some (.int kl (l : Int))) (hy : evs sl y = some (.int kc (c : Int))) (hlc : l ≤ c)
    (hc : c ≤ 16777216) (hb : bytes * c ≤ 281474976710656)
    (k : ∀ b w', St W F ([(b, .cells (List.replicate c zv).toArray E (0, 0))] :: cs) w' → WL P ops Z ks N D ((d, .slice (some ⟨b, 0, none⟩) l c) :: sl) rest w') :
    WL P ops Z ks N D sl ({ dst := some d, op := .makeSlice T x y, type := t, pos := pos, after := af, guard := none } :: rest) w :=
  WL.makeSlice hd h hT hE hx hy hlc (by omega) hb (by omega) (by rw [made1 h1]; exact k)
end
end B
end Go.Proofs.Ythejglgnoingfaa
