/- Unsafe pointers, strings out of rows. Plain lemmas. -/
import Derived.Test.YtfiknofmniiehaaBaseV
import Derived.Lib.Builder
import Derived.Lib.UnsafeStr
import Derived.Laws.Externs
namespace Go.Proofs.Ytfiknofmniiehaa
open Go Go.RowKit
set_option linter.unusedVariables false
set_option linter.unusedSimpArgs false
namespace B
section
variable {P : Program} {Z : Post} {ks : List Fr} {N : Nat} {D : List Deferred} {sl : Sl} {W w : World} {ops : Array Oper} {rest : List Oper} {F : Snap} {cs : List Res} {t T T' E U : TypeId} {x y : Operand} {v zv : Value} {pos : String} {af : Array Edge} {sz bytes : Nat}
theorem St.shape (h : St W F cs w) {i b : Nat} {arr : Array Value} {fz : Nat × Nat} (hi : cs[i]? = some [(b, .cells arr E fz)]) : w.shape? b = some (E, arr.size) := by
  unfold World.shape?
  rw [h.blk hi]
theorem Runs.toUnsafe (h : St W F cs w) {i b off : Nat} {arr : Array Value} {fz : Nat × Nat} (hi : cs[i]? = some [(b, .cells arr E fz)]) (hs : P.underlying T = some (.pointer U)) (hd : P.underlying T' = some .unsafePointer) (hT : Inf P U zv sz bytes) (hz : Nat.beq sz 0 = false) (ho : off < arr.size)
    (hx : evs sl x = some (.pointer (some ⟨b, off, none⟩))) : Runs P sl (.convert T T' x) t w (.pointer (some ⟨b, off, none⟩)) := fun ρ hρ o ho' _ => by
  obtain ⟨j, h1, _, h3, _⟩ := hT.get
  have := Lib.run_to_unsafe (P := P) w ⟨b, off, none⟩ hs hd h1 (by rw [h3]; intro e; subst e; cases hz) (h.shape hi) ho
  simp [execOp, ho', hρ _ _ hx, this]
theorem Runs.fromUnsafe (h : St W F cs w) {i b off cells : Nat} {arr : Array Value} {fz : Nat × Nat} (hi : cs[i]? = some [(b, .cells arr E fz)]) (hs : P.underlying T = some .unsafePointer) (hd : P.underlying T' = some (.pointer U)) (hT : Inf P U zv sz bytes) (hc : arr.size = cells) (hl : liesAt P P.depth E (cells / P.cellsOf E) off U 1 = true)
    (hx : evs sl x = some (.pointer (some ⟨b, off, none⟩))) : Runs P sl (.convert T T' x) t w (.pointer (some ⟨b, off, none⟩)) := fun ρ hρ o ho' _ => by
  subst hc
  obtain ⟨j, h1, _, h3, _⟩ := hT.get
  have := Lib.run_from_unsafe (P := P) w ⟨b, off, none⟩ hs hd h1 (h.shape hi) hl
  simp [execOp, ho', hρ _ _ hx, this]
/-- a function that hands back what it is given, and has no body -/
theorem Runs.same {f : FuncId} {fn : Func} {ts : Array TypeId} (hf : P.funcs[f]? = some fn) (hname : (fn.name == "runtime.NumGoroutine") = false) (hb : fn.body.isNone = true) (hn : Extern.findNext fn = none) (he : Extern.find fn = some Extern.AbiNoEscape.same) (hx : evs sl x = some v) :
    Runs P sl (.call { callee := .value (.func f), args := #[x], argTypes := ts }) t w v := fun ρ hρ o ho _ => by
  have := run_callFunc_extern hf hname hb hn he #[v] w
  rw [Lib.run_noEscape] at this
  have hf' : ρ (.func f) = .func (.func f) #[] #[] := hρ _ _ rfl
  simp only [execOp, ho, resolve, hf', Deferred.ofValue, invoke, Sem.run_bind, pure, Sem.run, Result.andThen, List.map_toArray, List.map_cons, List.map_nil, hρ _ _ hx]
  simpa [Result.andThen] using this
theorem Runs.pneqS {a : Addr} (hu : P.underlying T = some (.pointer U)) (hT : Inf P U zv sz bytes) (hx : evs sl x = some (.pointer (some a))) (hy : evs sl y = some (.pointer (some a))) : Runs P sl (.binOp .neq T x y T') t w (.bool false) := fun ρ hρ o ho _ => by
  obtain ⟨j, h1, _, _, _⟩ := hT.get
  have := Lib.run_neq_ptr_same (P := P) w a hu h1
  simp only [execOp, ho, hρ _ _ hx, hρ _ _ hy, eqGuard]
  simp [this, Sem.run_bind, Result.andThen, Sem.run, pure]
theorem Runs.usd {ts : Array TypeId} {a : Addr} {n c : Nat} (hx : evs sl x = some (.slice (some a) n c)) (hc : c ≠ 0) : Runs P sl (.call { callee := .builtin .unsafeSliceData, args := #[x], argTypes := ts }) t w (.pointer (some a)) := fun ρ hρ o ho ht => by
  have := Lib.run_unsafeSliceData_row (P := P) w ts t a n c hc
  have hb : ∀ q, builtin .unsafeSliceData ts t q #[.slice (some a) n c] = (do pure (.value (← Builtin.unsafeSliceData_ ts t #[.slice (some a) n c]))) := fun _ => rfl
  simp only [execOp, ho, ht, resolve, invoke, Sem.run_bind, pure, Sem.run, Result.andThen, List.map_toArray, List.map_cons, List.map_nil, hρ _ _ hx]
  rw [hb, Sem.run_bind, this]
  rfl
theorem freeze_blk {b n : Nat} {arr : Array Value} {fz : Nat × Nat} (hb : w.heap[b]? = some (.cells arr E fz)) : ∃ fz', w.freeze ⟨b, 0, none⟩ n = World.setBlk w b (.cells arr E fz') := by
  unfold World.freeze
  split
  · refine ⟨fz, ?_⟩
    unfold World.setBlk
    have : w.heap.setIfInBounds b (.cells arr E fz) = w.heap := by
      apply Array.ext_getElem?
      intro j
      rw [Array.getElem?_setIfInBounds]
      split
      · rename_i e
        subst e
        rw [if_pos (Array.getElem?_eq_some_iff.1 hb).1, hb]
      · rfl
    rw [this]
  · obtain ⟨lo, hi⟩ := fz
    refine ⟨if lo == hi then (0, 0 + n) else (min lo 0, max hi (0 + n)), ?_⟩
    unfold World.setBlk
    refine congrArg (fun hp => ({ w with heap := hp } : World)) ?_
    apply Array.ext_getElem?
    intro j
    rw [Array.getElem?_modify, Array.getElem?_setIfInBounds]
    by_cases e : b = j
    · subst e
      rw [if_pos rfl, if_pos rfl, hb, if_pos (Array.getElem?_eq_some_iff.1 hb).1]
      rfl
    · rw [if_neg e, if_neg e]
/-- a row's bytes as a string: they never change any more -/
theorem WL.ustr (h : St W F cs w) (i : Nat) {d b : Nat} {l : List UInt8} {zs : List Value} {fz : Nat × Nat} {pt it : TypeId} (hi : cs[i]? = some [(b, .cells (l.map V8 ++ zs).toArray E fz)]) (hp : P.underlying pt = some (.pointer E)) (hc : P.cellsOf E = 1) (h0 : l ≠ []) (h63 : l.length ≤ 9223372036854775807)
    (hx : evs sl x = some (.pointer (some ⟨b, 0, none⟩))) (hy : evs sl y = some (.int .i64 (l.length : Int))) (hd : Nat.ble (d + 1) N = true)
    (k : ∀ fz' w', St W F (cs.set i [(b, .cells (l.map V8 ++ zs).toArray E fz')]) w' → WL P ops Z ks N D ((d, .string (bs l)) :: sl) rest w') :
    WL P ops Z ks N D sl ({ dst := some d, op := .call { callee := .builtin .unsafeString, args := #[x, y], argTypes := #[pt, it] }, type := t, pos := pos, after := af, guard := none } :: rest) w := by
  obtain ⟨fz', hfz⟩ := freeze_blk (n := l.length) (h.blk hi)
  refine WL.val_ (w' := w.freeze ⟨b, 0, none⟩ l.length) hd (fun ρ hρ o ho ht => ?_) (k fz' _ (by rw [hfz]; exact h.set1 hi _))
  have := Lib.run_unsafeString_row (P := P) w pt it t E hp hc b (l.map V8 ++ zs).toArray.size (h.shape hi) l h0 (by simp) h63 (fun j x hx => by
    rw [add_mk, Nat.zero_add]
    refine h.ocell hi ?_
    have hj : j < l.length := (List.getElem?_eq_some_iff.1 hx).1
    rw [List.getElem?_toArray, List.getElem?_append_left (by simpa using hj)]
    simp [hx])
  have hb : ∀ q, builtin .unsafeString #[pt, it] t q #[.pointer (some ⟨b, 0, none⟩), .int .i64 (l.length : Int)] = (do pure (.value (← Builtin.unsafeString_ #[pt, it] t #[.pointer (some ⟨b, 0, none⟩), .int .i64 (l.length : Int)]))) := fun _ => rfl
  simp only [execOp, ho, ht, resolve, invoke, Sem.run_bind, pure, Sem.run, Result.andThen, List.map_toArray, List.map_cons, List.map_nil, hρ _ _ hx, hρ _ _ hy]
  rw [hb, Sem.run_bind, this]
  rfl
end
end B
end Go.Proofs.Ytfiknofmniiehaa
