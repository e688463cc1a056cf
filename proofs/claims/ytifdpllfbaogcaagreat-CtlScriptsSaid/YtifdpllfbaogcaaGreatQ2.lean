/- Joined texts: BaseV .. D19. -/
import Derived.Test.YtifdpllfbaogcaaGreatQ1
import Derived.Lib.Builder
import Derived.Lib.UnsafeStr
import Derived.Laws.Externs
import Derived.Laws.StructEq
import Derived.OrdersIn
import Derived.Test.YtifdpllfbaogcaaGreatProg
import Derived.KernelRfl
import Derived.Scope
set_option linter.unusedVariables false
set_option linter.unusedSimpArgs false
set_option maxRecDepth 100000
set_option maxHeartbeats 32000000
namespace Go.Proofs.YtifdpllfbaogcaaGreat
open Go Go.RowKit
namespace B
def bs (l : List UInt8) : ByteArray := ⟨l.toArray⟩
theorem bs_size (l : List UInt8) : (bs l).size = l.length := rfl
theorem bs_of (s : ByteArray) : bs s.data.toList = s := by cases s; simp [bs]
theorem bs_inj {a b : List UInt8} : bs a = bs b ↔ a = b := by
 constructor
 ·intro h
  have := congrArg (fun s : ByteArray => s.data.toList) h
  simpa [bs] using this
 intro h; rw [h]
theorem bs_add (a b : List UInt8) : bs a ++ bs b = bs (a ++ b) := by
 apply string_ext
 simp [bs, ByteArray.data_append]
theorem bs_ext (l : List UInt8) (n m : Nat) : (bs l).extract n m = bs ((l.drop n).take (m - n)) := by
 apply string_ext
 simp [bs, List.drop_take, ByteArray.data_extract]
section
variable {P : Program} {sl : Sl} {w : World} {t T T' : TypeId} {x y z : Operand} {k : IntKind} {a b l : List UInt8}
theorem M3 (hx : evs sl x = some (.string (bs a))) (hy : evs sl y = some (.string (bs b))) (hb : a.length + b.length ≤ 9223372036854775807) : Runs P sl (.binOp .add T x y T') t w (.string (bs (a ++ b))) := by
 have := U4 (P := P) (t := t) (w := w) (T := T) (T' := T') hx hy hb
 rwa [bs_add] at this
theorem O6 (hx : evs sl x = some (.string (bs a))) (hy : evs sl y = some (.string (bs b))) : Runs P sl (.binOp .eql T x y T') t w (.bool (decide (a = b))) := by
 have := Runs.seql (P := P) (t := t) (w := w) (T := T) (T' := T') hx hy
 rwa [show decide (bs a = bs b) = decide (a = b) from by rw [decide_eq_decide]; exact bs_inj] at this
theorem Y3 (hx : evs sl x = some (.string (bs a))) (hy : evs sl y = some (.string (bs b))) : Runs P sl (.binOp .neq T x y T') t w (.bool (!decide (a = b))) := by
 have := Runs.sneq (P := P) (t := t) (w := w) (T := T) (T' := T') hx hy
 rwa [show decide (bs a = bs b) = decide (a = b) from by rw [decide_eq_decide]; exact bs_inj] at this
theorem C5 {n : Nat} {j : Int} (hu : P.underlying T = some .string) (hx : evs sl x = some (.string (bs l))) (hy : evs sl y = some (.int k j)) (hj : j = (n : Int)) (hn : n < l.length) : Runs P sl (.index T x y) t w (V8 (l.getD n 0)) := by
 have := E7 (P := P) (t := t) (w := w) hu hx hy hj (by rw [bs_size]; exact hn)
 simpa [bs] using this
theorem Runs.lssl {n m : Nat} {j j' : Int} (hu : P.underlying T = some .string) (hx : evs sl x = some (.string (bs l))) (hy : evs sl y = some (.int .i64 j)) (hz : evs sl z = some (.int .i64 j')) (hj : j = (n : Int)) (hj' : j' = (m : Int)) (hn : n ≤ m) (hm : m ≤ l.length) :
  Runs P sl (.slice T x (some y) (some z) none) t w (.string (bs ((l.drop n).take (m - n)))) := by
 have := Runs.sslice (P := P) (t := t) (w := w) (lo := some y) (hi := some z) (l := some j) (h := some j') hu hx (by simp [evo, hy]) (by simp [evo, hz]) (okb_lh (len := (bs l).size) (by omega) (by rw [bs_size]; omega))
 subst hj; subst hj'
 simpa [lo_, hi_, bs_ext] using this
theorem Runs.shl8 {m : Nat} (hx : evs sl x = some (.int .i64 (m : Int))) (hy : evs sl y = some (.int k 8)) (hb : m < 36028797018963968) : Runs P sl (.binOp .shl T x y T') t w (.int .i64 ((256 * m : Nat) : Int)) := by
 have := Runs.shl (P := P) (t := t) (w := w) (T := T) (T' := T') hx hy (by omega)
 have e : (m : Int) * 2 ^ Min.min (8 : Int).toNat IntKind.i64.bits = ((256 * m : Nat) : Int) := by
  rw [show Min.min (8 : Int).toNat IntKind.i64.bits = 8 from rfl]; omega
 rwa [e, wrap64_in ⟨by omega, by omega⟩] at this
theorem Runs.orB {m : Nat} {c : UInt8} (hx : evs sl x = some (.int .i64 ((256 * m : Nat) : Int))) (hy : evs sl y = some (.int .i64 (c.toNat : Int))) (hb : m < 36028797018963968) : Runs P sl (.binOp .or T x y T') t w (.int .i64 ((256 * m + c.toNat : Nat) : Int)) := by
 have := Runs.or (P := P) (t := t) (w := w) (T := T) (T' := T') hx hy
 have hc := c.toNat_lt
 have e : (BitVec.ofInt IntKind.i64.bits ((256 * m : Nat) : Int) ||| BitVec.ofInt IntKind.i64.bits (c.toNat : Int)).toNat = 256 * m + c.toNat := by
  rw [BitVec.toNat_or]
  show (BitVec.ofInt 64 ((256 * m : Nat) : Int)).toNat ||| (BitVec.ofInt 64 (c.toNat : Int)).toNat = _
  rw [BitVec.toNat_ofInt, BitVec.toNat_ofInt]
  rw [show (((256 * m : Nat) : Int) % ((2 ^ 64 : Nat) : Int)).toNat = 256 * m by omega, show ((c.toNat : Int) % ((2 ^ 64 : Nat) : Int)).toNat = c.toNat by omega]
  have h1 := Nat.shiftLeft_add_eq_or_of_lt (i := 8) (b := c.toNat) (by omega) m
  rw [Nat.shiftLeft_eq] at h1
  rw [show 256 * m = m * 2 ^ 8 by omega, ← h1]
 rw [e, wrap64_in ⟨by omega, by omega⟩] at this
 exact this
theorem Runs.shrN {m n : Nat} {j : Int} (hx : evs sl x = some (.int .i64 (m : Int))) (hy : evs sl y = some (.int k j)) (hj : j = (n : Int)) (hn : n ≤ 64) : Runs P sl (.binOp .shr T x y T') t w (.int .i64 ((m / 2 ^ n : Nat) : Int)) := by
 have := X5 (P := P) (t := t) (w := w) (T := T) (T' := T') hx hy (by omega)
 rwa [shr_nat hj hn] at this
theorem run_eqlI {ms : Array (String × TypeId)} {A : TypeId} {v : Value} (hu : P.underlying T = some (.interface ms)) : (Op.equal T (.iface A v) .nilIface).run P w = .ok false w := by
 unfold Op.equal Op.maxDepth
 rw [show (10000 : Nat) = 9999 + 1 from rfl]
 unfold Op.equalIn
 simp [underlying, program, hu, bind, Sem.bind, pure, Sem.run]
theorem run_eqlI0 {ms : Array (String × TypeId)} (hu : P.underlying T = some (.interface ms)) : (Op.equal T .nilIface .nilIface).run P w = .ok true w := by
 unfold Op.equal Op.maxDepth
 rw [show (10000 : Nat) = 9999 + 1 from rfl]
 unfold Op.equalIn
 simp [underlying, program, hu, bind, Sem.bind, pure, Sem.run]
theorem Runs.ifneq {ms : Array (String × TypeId)} {A : TypeId} {v : Value} (hu : P.underlying T = some (.interface ms)) (hx : evs sl x = some (.iface A v)) (hy : evs sl y = some .nilIface) : Runs P sl (.binOp .neq T x y T') t w (.bool true) := fun ρ h o ho _ => by
 have := run_eqlI (w := w) (A := A) (v := v) hu
 simp only [execOp, ho, h _ _ hx, h _ _ hy, eqGuard]
 simp [binOp, this, Sem.run_bind, Result.andThen, Sem.run, pure]
theorem Runs.ifneq0 {ms : Array (String × TypeId)} {c : Value} (hu : P.underlying T = some (.interface ms)) (hx : evs sl x = some .nilIface) (hy : evs sl (.const c) = some .nilIface) : Runs P sl (.binOp .neq T x (.const c) T') t w (.bool false) := fun ρ h o ho _ => by
 have := run_eqlI0 (w := w) hu
 simp only [execOp, ho, h _ _ hx, h _ _ hy, eqGuard]
 simp [binOp, this, Sem.run_bind, Result.andThen, Sem.run, pure]
end
end B
end Go.Proofs.YtifdpllfbaogcaaGreat
namespace Go.Proofs.YtifdpllfbaogcaaGreat
open Go Go.RowKit
namespace B
section
variable {P : Program} {Z : Post} {ks : List Fr} {N : Nat} {D : List Deferred} {sl : Sl} {W w : World} {ops : Array Oper} {rest : List Oper} {F : Snap} {cs : List Res} {t T T' E U : TypeId} {x y : Operand} {v zv : Value} {pos : String} {af : Array Edge} {sz bytes : Nat}
theorem St.shape (h : St W F cs w) {i b : Nat} {arr : Array Value} {fz : Nat × Nat} (hi : cs[i]? = some [(b, .cells arr E fz)]) : w.shape? b = some (E, arr.size) := by
 unfold World.shape?
 rw [h.blk hi]
theorem Runs.toUnsafe (h : St W F cs w) {i b off : Nat} {arr : Array Value} {fz : Nat × Nat} (hi : cs[i]? = some [(b, .cells arr E fz)]) (hs : P.underlying T = some (.pointer U)) (hd : P.underlying T' = some .unsafePointer) (hT : Inf P U zv sz bytes) (hz : Nat.beq sz 0 = false) (ho : off < arr.size)
  (hx : evs sl x = some (.pointer (some ⟨b, off, none⟩))) : Runs P sl (.convert T T' x) t w (.pointer (some ⟨b, off, none⟩)) := fun ρ hρ o ho' _ => by
 obtain ⟨j, h1, _, h3, _⟩ := hT.get
 have := Lib.run_to_unsafe (P := P) w ⟨b, off, none⟩ hs hd h1 (by rw [h3]; intro e; subst e; cases hz) (h.shape hi) ho
 simp [execOp, ho', hρ _ _ hx, this]
theorem Runs.fromUnsafe (h : St W F cs w) {i b off cells : Nat} {arr : Array Value} {fz : Nat × Nat} (hi : cs[i]? = some [(b, .cells arr E fz)]) (hs : P.underlying T = some .unsafePointer) (hd : P.underlying T' = some (.pointer U)) (hT : Inf P U zv sz bytes) (hc : arr.size = cells) (hl : liesAt P P.depth E (cells / P.cellsOf E) off U 1 = true)
  (hx : evs sl x = some (.pointer (some ⟨b, off, none⟩))) : Runs P sl (.convert T T' x) t w (.pointer (some ⟨b, off, none⟩)) := fun ρ hρ o ho' _ => by
 subst hc
 obtain ⟨j, h1, _, h3, _⟩ := hT.get
 have := Lib.run_from_unsafe (P := P) w ⟨b, off, none⟩ hs hd h1 (h.shape hi) hl
 simp [execOp, ho', hρ _ _ hx, this]
theorem Runs.same {f : FuncId} {fn : Func} {ts : Array TypeId} (hf : P.funcs[f]? = some fn) (hname : (fn.name == "runtime.NumGoroutine") = false) (hb : fn.body.isNone = true) (hn : Extern.findNext fn = none) (he : Extern.find fn = some Extern.AbiNoEscape.same) (hx : evs sl x = some v) :
  Runs P sl (.call { callee := .value (.func f), args := #[x], argTypes := ts }) t w v := fun ρ hρ o ho _ => by
 have := run_callFunc_extern hf hname hb hn he #[v] w
 rw [Lib.run_noEscape] at this
 have hf' : ρ (.func f) = .func (.func f) #[] #[] := hρ _ _ rfl
 simp only [execOp, ho, resolve, hf', Deferred.ofValue, invoke, Sem.run_bind, pure, Sem.run, Result.andThen, List.map_toArray, List.map_cons, List.map_nil, hρ _ _ hx]
 simpa [Result.andThen] using this
theorem Runs.pneqS {a : Addr} (hu : P.underlying T = some (.pointer U)) (hT : Inf P U zv sz bytes) (hx : evs sl x = some (.pointer (some a))) (hy : evs sl y = some (.pointer (some a))) : Runs P sl (.binOp .neq T x y T') t w (.bool false) := fun ρ hρ o ho _ => by
 obtain ⟨j, h1, _, _, _⟩ := hT.get
 have := Lib.run_neq_ptr_same (P := P) w a hu h1
 simp only [execOp, ho, hρ _ _ hx, hρ _ _ hy, eqGuard]
 simp [this, Sem.run_bind, Result.andThen, Sem.run, pure]
theorem Runs.usd {ts : Array TypeId} {a : Addr} {n c : Nat} (hx : evs sl x = some (.slice (some a) n c)) (hc : c ≠ 0) : Runs P sl (.call { callee := .builtin .unsafeSliceData, args := #[x], argTypes := ts }) t w (.pointer (some a)) := fun ρ hρ o ho ht => by
 have := Lib.run_unsafeSliceData_row (P := P) w ts t a n c hc
 have hb : ∀ q, builtin .unsafeSliceData ts t q #[.slice (some a) n c] = (do pure (.value (← Builtin.unsafeSliceData_ ts t #[.slice (some a) n c]))) := fun _ => rfl
 simp only [execOp, ho, ht, resolve, invoke, Sem.run_bind, pure, Sem.run, Result.andThen, List.map_toArray, List.map_cons, List.map_nil, hρ _ _ hx]
 rw [hb, Sem.run_bind, this]
 rfl
theorem freeze_blk {b n : Nat} {arr : Array Value} {fz : Nat × Nat} (hb : w.heap[b]? = some (.cells arr E fz)) : ∃ fz', w.freeze ⟨b, 0, none⟩ n = World.setBlk w b (.cells arr E fz') := by
 unfold World.freeze
 split
 ·refine ⟨fz, ?_⟩
  unfold World.setBlk
  have : w.heap.setIfInBounds b (.cells arr E fz) = w.heap := by
   apply Array.ext_getElem?
   intro j
   rw [Array.getElem?_setIfInBounds]
   split
   ·rename_i e
    subst e
    rw [if_pos (Array.getElem?_eq_some_iff.1 hb).1, hb]
   rfl
  rw [this]
 obtain ⟨lo, hi⟩ := fz
 refine ⟨if lo == hi then (0, 0 + n) else (min lo 0, max hi (0 + n)), ?_⟩
 unfold World.setBlk
 refine congrArg (fun hp => ({ w with heap := hp } : World)) ?_
 apply Array.ext_getElem?
 intro j
 rw [Array.getElem?_modify, Array.getElem?_setIfInBounds]
 by_cases e : b = j
 ·subst e
  rw [if_pos rfl, if_pos rfl, hb, if_pos (Array.getElem?_eq_some_iff.1 hb).1]
  rfl
 rw [if_neg e, if_neg e]
theorem WL.ustr (h : St W F cs w) (i : Nat) {d b : Nat} {l : List UInt8} {zs : List Value} {fz : Nat × Nat} {pt it : TypeId} (hi : cs[i]? = some [(b, .cells (l.map V8 ++ zs).toArray E fz)]) (hp : P.underlying pt = some (.pointer E)) (hc : P.cellsOf E = 1) (h0 : l ≠ []) (h63 : l.length ≤ 9223372036854775807)
  (hx : evs sl x = some (.pointer (some ⟨b, 0, none⟩))) (hy : evs sl y = some (.int .i64 (l.length : Int))) (hd : Nat.ble (d + 1) N = true)
  (k : ∀ fz' w', St W F (cs.set i [(b, .cells (l.map V8 ++ zs).toArray E fz')]) w' → WL P ops Z ks N D ((d, .string (bs l)) :: sl) rest w') :
  WL P ops Z ks N D sl ({ dst := some d, op := .call { callee := .builtin .unsafeString, args := #[x, y], argTypes := #[pt, it] }, type := t, pos := pos, after := af, guard := none } :: rest) w := by
 obtain ⟨fz', hfz⟩ := freeze_blk (n := l.length) (h.blk hi)
 refine M5 (w' := w.freeze ⟨b, 0, none⟩ l.length) hd (fun ρ hρ o ho ht => ?_) (k fz' _ (by rw [hfz]; exact h.set1 hi _))
 have := Lib.run_unsafeString_row (P := P) w pt it t E hp hc b (l.map V8 ++ zs).toArray.size (h.shape hi) l h0 (by simp) h63 (fun j x hx => by
  rw [add_mk, Nat.zero_add]
  refine h.ocell hi ?_
  have hj : j < l.length := (List.getElem?_eq_some_iff.1 hx).1
  rw [List.getElem?_toArray, List.getElem?_append_left (by simpa using hj)]
  simp [hx])
 have hb : ∀ q, builtin .unsafeString #[pt, it] t q #[.pointer (some ⟨b, 0, none⟩), .int .i64 (l.length : Int)] = (do pure (.value (← Builtin.unsafeString_ #[pt, it] t #[.pointer (some ⟨b, 0, none⟩), .int .i64 (l.length : Int)]))) := fun _ => rfl
 simp only [execOp, ho, ht, resolve, invoke, Sem.run_bind, pure, Sem.run, Result.andThen, List.map_toArray, List.map_cons, List.map_nil, hρ _ _ hx, hρ _ _ hy]
 rw [hb, Sem.run_bind, this]
 rfl
end
end B
end Go.Proofs.YtifdpllfbaogcaaGreat
namespace Go.Proofs.YtifdpllfbaogcaaGreat
open Go Go.RowKit
namespace B
section
variable {P : Program} {sl : Sl} {w : World} {t T T' : TypeId} {x y : Operand} {d : Nat} {xs ys : Array Value} {f : Field} {fs : List Field} {s : Bool}
theorem part1 {E : TypeId} {td : TypeDesc} {n : Nat} {u : Value} (hu : P.underlying E = some td) (hs : scal td = true) (hx : xs[n]? = some u) : (part E xs n).run P w = .ok u w := by
 have h4 : (isAgg E).run P w = .ok false w := by
  cases td <;> simp_all [isAgg, underlying, program, scal, Sem.run, bind, Sem.bind, pure]
 unfold part
 rw [Sem.run_bind, h4]
 simp [Result.andThen, hx, Sem.run, pure]
theorem eqf_1 {a b : Value} {r : Bool} {td : TypeDesc} (hn : (f.name == "_") = false) (hu : P.underlying f.type = some td) (hs : scal td = true) (ha : xs[f.offset]? = some a) (hb : ys[f.offset]? = some b) (he : (Op.equalIn d f.type a b).run P w = .ok r w) (hr : (Op.eqFields d xs ys fs).run P w = .ok s w) : (Op.eqFields d xs ys (f :: fs)).run P w = .ok (r && s) w := by
 have hn' : f.name ≠ "_" := by simpa using hn
 have h1 := part1 (w := w) hu hs ha
 have h2 := part1 (w := w) hu hs hb
 rw [Op.eqFields]
 simp only [if_pos hn', Sem.run_bind, h1, h2, he, Result.andThen_ok]
 cases r
 ·simp
 simpa using hr
theorem eqf_int {a b : Int} {k : IntKind} (hn : (f.name == "_") = false) (hu : P.underlying f.type = some (.int k)) (ha : xs[f.offset]? = some (.int k a)) (hb : ys[f.offset]? = some (.int k b)) (hr : (Op.eqFields (d + 1) xs ys fs).run P w = .ok s w) : (Op.eqFields (d + 1) xs ys (f :: fs)).run P w = .ok (decide (a = b) && s) w := by
 refine eqf_1 hn hu rfl ha hb ?_ hr
 simp [Op.equalIn, underlying, program, hu, Sem.run, bind, Sem.bind, pure, ibeq]
theorem eqf_str {a b : List UInt8} (hn : (f.name == "_") = false) (hu : P.underlying f.type = some .string) (ha : xs[f.offset]? = some (.string (bs a))) (hb : ys[f.offset]? = some (.string (bs b))) (hr : (Op.eqFields (d + 1) xs ys fs).run P w = .ok s w) : (Op.eqFields (d + 1) xs ys (f :: fs)).run P w = .ok (decide (a = b) && s) w := by
 refine eqf_1 hn hu rfl ha hb ?_ hr
 have : (bs a == bs b) = decide (a = b) := by
  rw [beq_toListBytes, seq_toList]
  rw [decide_eq_decide]; exact bs_inj
 simp [Op.equalIn, underlying, program, hu, Sem.run, bind, Sem.bind, pure, this]
theorem eqf_nil : (Op.eqFields d xs ys []).run P w = .ok true w := by simp [Op.eqFields]
theorem eqA_of {fs : Array Field} {r : Bool} (hu : P.underlying T = some (.struct fs)) (hp : P.stoodInHeld T = false) (h : (Op.eqFields d xs ys fs.toList).run P w = .ok r w) : (Op.equalIn (d + 1) T (.agg xs) (.agg ys)).run P w = .ok r w := by
 have hf : P.fieldsOf T = fs := by simp [Program.fieldsOf, hu]
 rw [run_equalIn_struct (P := P) w d T xs ys (by rw [hf]; exact hu) hp, hf]
 exact h
theorem Runs.aeql {r : Bool} (hm : P.eqGuardType P.depth T = false) (hx : evs sl x = some (.agg xs)) (hy : evs sl y = some (.agg ys)) (he : (Op.equalIn 10000 T (.agg xs) (.agg ys)).run P w = .ok r w) : Runs P sl (.binOp .eql T x y T') t w (.bool r) := fun ρ h o ho _ => by
 simp only [execOp, ho, h _ _ hx, h _ _ hy, Sem.run_bind, run_eqGuard_agg w .eql T x y xs ys hm, Result.andThen_ok, run_eql_struct, he]
 rfl
end
end B
end Go.Proofs.YtifdpllfbaogcaaGreat
namespace Go.Proofs.YtifdpllfbaogcaaGreat
open Go Go.RowKit
namespace B
section
variable {α β : Type} {W w : World} {F G : Snap} {cs : List Res} {A : Option Addr} {xs : List α} {E : TypeId} {r : Res} {v : Value} {n cap i m : Nat}
theorem RdS.pick {d : Kd β} {f : α → List Value} {er : α → β} {P : α → Prop} (hf : ∀ x, (f x).length = d.sz) (hk : ∀ y c, d.K F y c → ∃ e, er e = y ∧ c = f e ∧ P e) {ys : List β} (h : RdS d F A ys) : ∃ es : List α, es.map er = ys ∧ RdS (Kd.rows d.sz f hf) F A es ∧ ∀ e ∈ es, P e := by
 rcases h with h | ⟨ad, hA, h⟩
 ·subst h
  exact ⟨[], rfl, .inl rfl, fun e he => by cases he⟩
 have key : ∀ (ys : List β) (b : Nat), (∀ i y, ys[i]? = some y → ∃ c, d.K F y c ∧ ∀ j v, c[j]? = some v → cellF F (ad.add ((b + i) * d.sz + j)) = some v) → ∃ es : List α, es.map er = ys ∧ (∀ i e, es[i]? = some e → ∀ j v, (f e)[j]? = some v → cellF F (ad.add ((b + i) * d.sz + j)) = some v) ∧ ∀ e ∈ es, P e := by
  intro ys
  induction ys with
  |nil => exact fun b _ => ⟨[], rfl, fun i e he => by simp at he, fun e he => by cases he⟩
  |cons y ys ih =>
   intro b hb
   obtain ⟨c, h1, h2⟩ := hb 0 y rfl
   obtain ⟨e, rfl, rfl, hP⟩ := hk y c h1
   obtain ⟨es, e1, e2, e3⟩ := ih (b + 1) (fun i y hy => by
    obtain ⟨c, h3, h4⟩ := hb (i + 1) y hy
    exact ⟨c, h3, fun j v hj => by rw [show b + 1 + i = b + (i + 1) by omega]; exact h4 j v hj⟩)
   refine ⟨e :: es, by rw [List.map_cons, e1], fun i e' he j v hj => ?_, fun e' he => ?_⟩
   ·cases i with
    |zero => injection he with he; subst he; exact h2 j v hj
    |succ i => rw [show b + (i + 1) = b + 1 + i by omega]; exact e2 i e' he j v hj
   rcases List.mem_cons.1 he with rfl | he
   ·exact hP
   exact e3 e' he
 obtain ⟨es, e1, e2, e3⟩ := key ys 0 (fun i y hy => by
  obtain ⟨c, h3, h4⟩ := h i y hy
  exact ⟨c, h3, fun j v hj => by rw [Nat.zero_add]; exact h4 j v hj⟩)
 refine ⟨es, e1, .inr ⟨ad, hA, fun i e he => ⟨f e, rfl, fun j v hj => ?_⟩⟩, e3⟩
 have := e2 i e he j v hj
 rwa [Nat.zero_add] at this
theorem RdS.unpick {d : Kd β} {f : α → List Value} {er : α → β} {hf : ∀ x, (f x).length = d.sz} {es : List α} (h : RdS (Kd.rows d.sz f hf) F A es) (hk : ∀ e ∈ es, d.K F (er e) (f e)) : RdS d F A (es.map er) := by
 rcases h with h | ⟨ad, hA, h⟩
 ·exact .inl (by rw [h]; rfl)
 refine .inr ⟨ad, hA, fun i y hy => ?_⟩
 rw [List.getElem?_map] at hy
 obtain ⟨e, he, rfl⟩ := Option.map_eq_some_iff.1 hy
 obtain ⟨c, h1, h2⟩ := h i e he
 have h1 : c = f e := h1
 subst h1
 exact ⟨_, hk e (List.mem_of_getElem? he), h2⟩
theorem RowM.lit0 {f : α → List Value} {b : Nat} : RowM E m f [(b, .cells #[] E (0, 0))] (.slice (some ⟨b, 0, none⟩) 0 0) [] :=
 .inr ⟨b, 0, #[], (0, 0), rfl, rfl, by simp, Nat.le_refl _, by simp, Free.zero _⟩
theorem flat_set {f : α → List Value} (hf : ∀ x, (f x).length = m) {k : Nat} (hk : k < m) : ∀ (xs : List α) (n : Nat) (x x' : α) (u : Value), xs[n]? = some x → f x' = (f x).set k u → (xs.set n x').flatMap f = (xs.flatMap f).set (n * m + k) u
 |y :: ys, 0, x, x', u, hx, hu => by
  injection hx with hx
  subst hx
  rw [List.set_cons_zero, List.flatMap_cons, List.flatMap_cons, hu, Nat.zero_mul, Nat.zero_add, List.set_append_left _ _ (by rw [hf]; exact hk)]
 |y :: ys, n + 1, x, x', u, hx, hu => by
  rw [List.set_cons_succ, List.flatMap_cons, List.flatMap_cons, flat_set hf hk ys n x x' u hx hu, List.set_append_right _ _ (by rw [hf, Nat.succ_mul]; omega), hf, show (n + 1) * m + k - m = n * m + k by rw [Nat.succ_mul]; omega]
end
section
variable {P : Program} {Z : Post} {ks : List Fr} {N : Nat} {D : List Deferred} {sl : Sl} {W w : World} {ops : Array Oper} {rest : List Oper} {F G : Snap} {cs : List Res} {t t' T T' E : TypeId} {x y : Operand} {v zv : Value} {pos : String} {af : Array Edge} {bytes m : Nat} {α : Type} {f : α → List Value}
theorem WL.storeM (h : St W F cs w) (i : Nat) (hf : ∀ x, (f x).length = m) {r : Res} {xs : List α} {ad : Addr} {len cap n k : Nat} {e e' : α} {u : Value} (hi : cs[i]? = some r) (hr : RowM E m f r v xs) (hv : v = .slice (some ad) len cap) (hn : xs[n]? = some e) (hk : k < m) (he : f e' = (f e).set k u)
  (hx : evs sl x = some (.pointer (some ((ad.add (n * m)).add k)))) (hy : evs sl y = some u) (hT : Inf P T zv 1 bytes) (h1 : one_ u = true)
  (c : ∀ r' w', RowM E m f r' v (xs.set n e') → St W F (cs.set i r') w' → WL P ops Z ks N D sl rest w') :
  WL P ops Z ks N D sl ({ dst := none, op := .store T x y, type := t, pos := pos, after := af, guard := none } :: rest) w := by
 rcases hr with ⟨rfl, hv', hl, _⟩ | ⟨b, cap', arr, fz, rfl, hv', hs, hle, hc, hfr⟩
 ·rw [List.eq_nil_of_length_eq_zero hl] at hn; simp at hn
 rw [hv'] at hv
 injection hv with hA
 injection hA with hA
 subst hA
 have hn1 := (List.getElem?_eq_some_iff.1 hn).1
 have hb : n * m + k < xs.length * m := by
  have : (n + 1) * m ≤ xs.length * m := Nat.mul_le_mul_right _ hn1
  rw [Nat.succ_mul] at this
  omega
 have hb2 : xs.length * m ≤ arr.size := by rw [hs]; exact Nat.mul_le_mul_right _ hle
 have hcl := one_cells h1
 have hx2 : evs sl x = some (.pointer (some ⟨b, n * m + k, none⟩)) := by rw [hx, add_mk, add_mk, Nat.zero_add]
 refine C4 h i hi hx2 hy hT (by rw [hcl]; rfl) (by rw [hcl]; simp [h1]) hfr (by rw [hcl]; simp; omega) (fun w' h' => ?_)
 rw [hcl] at h'
 refine c _ w' (.inr ⟨b, cap', arr.setIfInBounds (n * m + k) u, fz, rfl, by rw [List.length_set]; exact hv', by rw [Array.size_setIfInBounds, hs], by rw [List.length_set]; exact hle, ?_, by rw [Array.size_setIfInBounds]; exact hfr⟩) h'
 rw [flat_set hf hk xs n e e' u hn he, hc, List.length_set, Array.toList_setIfInBounds, List.take_set]
end
end B
end Go.Proofs.YtifdpllfbaogcaaGreat
namespace Go.Proofs.YtifdpllfbaogcaaGreat
open Go Go.RowKit
namespace B
theorem cellB {G : Snap} {b off : Nat} {arr : Array Value} {tt : TypeId} {fz : Nat × Nat} {v : Value} (hg : G b = some (.cells arr tt fz)) (e : arr[off]? = some v) : cellF G ⟨b, off, none⟩ = some v := by
 unfold cellF
 rw [hg]
 exact e
section
variable {P : Program} {Z : Post} {ks : List Fr} {N : Nat} {D : List Deferred} {sl : Sl} {W w : World} {ops : Array Oper} {rest : List Oper} {F G : Snap} {cs keep : List Res} {t t' T T' E : TypeId} {x y : Operand} {v zv : Value} {pos : String} {af : Array Edge} {bytes m n sz : Nat} {d : TypeDesc}
theorem V2 (hs : St W F cs w) (hk : St W F keep w) (S : Nat → Bool) {id : Nat} {l : List Oper} (hm : P.follows .mixedOrders = true) (hB : Region.noSelect l.toArray = true) (h : Region.noSelect l.toArray = true → ∀ w', St W F cs w' → WE P l.toArray Z ks N D S (St W F keep) sl (upto l.toArray.size 0) l.toArray.size w') : WC P Z ks N D sl (.region id l.toArray true) w := WC.ereg hs _ S hm hB h
theorem Runs.loadK {c : List Value} {ad : Addr} (h : St W F cs w) (hc : ∀ w, St W F cs w → ∀ j v, c[j]? = some v → w.cell? (ad.add (n * m + j)) = some v) (hu : P.underlying T = some d) (hs : scal d = false) (hT : Inf P T zv m bytes) (hl : c.length = m)
  (hx : evs sl x = some (.pointer (some (ad.add (n * m))))) : Runs P sl (.load T x) t w (.agg c.toArray) := by
 obtain ⟨ti, h1, _, h3, _⟩ := hT.get
 exact Q5 hu hs h1 (by rw [h3, hl]) hx (fun j v hj => by rw [add_add]; exact hc w h j v hj)
theorem R4 (h : St W F cs w) {b : Nat} {arr : Array Value} {tt : TypeId} {fz : Nat × Nat} (hg : F b = some (.cells arr tt fz)) (hu : P.underlying T = some d) (hs : scal d = false) (hT : Inf P T zv sz bytes) (hz : sz = arr.size) (hx : evs sl x = some (.pointer (some ⟨b, 0, none⟩))) :
  Runs P sl (.load T x) t w (.agg arr) := by
 obtain ⟨ti, h1, _, h3, _⟩ := hT.get
 have := Q5 (t := t) (w := w) (vs := arr.toList) hu hs h1 (by rw [h3, hz]; simp) hx (fun j v hv => by
  rw [add_mk, Nat.zero_add]
  exact h.cell (cellB hg (by simpa using hv)))
 simpa using this
theorem W6 (h : St W F cs w) {b off : Nat} {arr vs : Array Value} {tt : TypeId} {fz : Nat × Nat} (hg : F b = some (.cells arr tt fz)) (hu : P.underlying T = some d) (hs : scal d = false) (hT : Inf P T zv sz bytes) (hz : sz = vs.size) (hp : arr.extract off (off + vs.size) = vs) (hx : evs sl x = some (.pointer (some ⟨b, off, none⟩))) :
  Runs P sl (.load T x) t w (.agg vs) := by
 obtain ⟨ti, h1, _, h3, _⟩ := hT.get
 have := Q5 (t := t) (w := w) (vs := vs.toList) hu hs h1 (by rw [h3, hz]; simp) hx (fun j v hv => by
  rw [add_mk]
  refine h.cell (cellB hg ?_)
  have hv' : vs[j]? = some v := by simpa using hv
  rw [← hp, Array.getElem?_extract] at hv'
  split at hv'
  ·exact hv'
  cases hv')
 simpa using this
theorem Runs.loadKF {c : List Value} {ad : Addr} (h : St W F cs w) (hc : ∀ j v, c[j]? = some v → cellF F (ad.add (n * m + j)) = some v) (hu : P.underlying T = some d) (hs : scal d = false) (hT : Inf P T zv m bytes) (hl : c.length = m)
  (hx : evs sl x = some (.pointer (some (ad.add (n * m))))) : Runs P sl (.load T x) t w (.agg c.toArray) :=
 Runs.loadK h (fun _ hw j v hj => hw.cell (hc j v hj)) hu hs hT hl hx
theorem ResOk.blk (h : St W F cs w) (i : Nat) {a b : Nat} {arr : Array Value} {tt : TypeId} {fz : Nat × Nat} (hi : cs[i]? = some [(b, .cells arr tt fz)]) (hu : P.underlying T = some d) (hs : scal d = false) (hT : Inf P T zv sz bytes) (hz : sz = arr.size) (hl : lk sl a = some (.pointer (some ⟨b, 0, none⟩))) : ResOk P sl w (.cell a T) (.agg arr) := by
 refine ⟨_, hl, ?_⟩
 have := run_loadVarA (P := P) (w := w) (vs := arr.toList) hu hs hT (by rw [hz]; simp) (fun j v hj => by
  rw [add_mk, Nat.zero_add]
  exact h.ocell hi (by simpa using hj))
 simpa using this
end
end B
end Go.Proofs.YtifdpllfbaogcaaGreat
namespace Go.Proofs.YtifdpllfbaogcaaGreat
open Go Go.RowKit
namespace B
section
variable {H : Type} {enc : TypeId × Value → H} {P : Program} {W : World} {base : Nat} {spare : Nat → Bool} {held : Bool} {t : TypeId} {fs : Array Field} {cs : List Value} {x : DataW H × List MemPlace} {fuel i n o j : Nat} {f : Field} {v : Value}
theorem fld_sub (h : DataW.trod enc P W base spare held fuel t cs = some x) (ht : P.underlying t = some (.struct fs)) (hf : fs[i]? = some f) (hc : P.cellsOf f.type = n) : ∃ fuel y, DataW.trod enc P W base spare held fuel f.type ((cs.drop f.offset).take n) = some y := by
 obtain ⟨xs, m, _, _, hl, hlen, hx⟩ := DataW.trod_struct ht h
 have := hx i f hf
 rw [hc] at this
 have hi : i < fs.size := (Array.getElem?_eq_some_iff.1 hf).1
 rw [List.getElem?_eq_getElem (by rw [hlen]; simpa using hi)] at this
 exact ⟨m, _, this⟩
theorem sub_at (h : ((cs.drop o).take n)[j]? = some v) : cs[o + j]? = some v := by
 rw [List.getElem?_take] at h
 split at h
 ·rwa [List.getElem?_drop] at h
 cases h
end
theorem WC.cutT {P : Program} {Z : Post} {ks : List Fr} {N : Nat} {D : List Deferred} {sl : Sl} {w : World} {σ : Type} {x y : Code} (S : σ → Sl) (J : σ → World → Prop) (h : WC P Z (.cut (fun a' w' => ∃ s, Ag N D (S s) a' ∧ J s w') :: ks) N D sl x w) (k : ∀ s w, J s w → WC P Z ks N D (S s) y w) : WC P Z (.thn y :: ks) N D sl x w := fun a ha => by
 refine wp_mono (h a ha) fun e a' w' q => ?_
 cases e with
 |normal =>
  obtain ⟨s, h1, h2⟩ := q
  exact k s w' h2 a' h1
 |_ => exact q
end B
end Go.Proofs.YtifdpllfbaogcaaGreat
namespace Go.Proofs.YtifdpllfbaogcaaGreat
open Go Go.RowKit
namespace B
section
variable {P : Program} {Z : Post} {ks : List Fr} {N : Nat} {D : List Deferred} {sl : Sl} {W w : World} {F : Snap} {cs : List Res} {ops : Array Oper} {rest : List Oper} {l : Nat} {t : TypeId} {pos : String} {af : Array Edge}
theorem C7 {d : Nat} {x y : Operand} {u : Value} {ts : Array TypeId} {R : Ending → World → Prop} (hx : evs sl x = some (.func (.yield l) #[] #[])) (hy : evs sl y = some u) (hY : YieldAt Fence.wide 1 P l #[u] w R)
  (hd : Nat.ble (d + 1) N = true) (k : ∀ e w', R e w' → ∃ b, e = .returned b ∧ WI P ops Z ks N D ((d, b) :: sl) rest w') :
  WI P ops Z ks N D sl ({ dst := some d, op := .call { callee := .value x, args := #[y], argTypes := ts }, type := t, pos := pos, after := af, guard := none } :: rest) w := fun a ha =>
 wpListIn_plain rfl fun K hK => by
  obtain ⟨fn, tm, as_, bd, h1, h2⟩ := hY
  refine ⟨fun _ _ => trivial, ?_⟩
  rw [show Fence.wide.round = none from rfl, Oper.semAt_none]
  have hrun : (execOp a.eval { dst := some d, op := .call { callee := .value x, args := #[y], argTypes := ts }, type := t, pos := pos, after := af, guard := none }).run P w = .ok (.round l fn tm as_ bd) w := by
   have e1 := ha.ev hx
   have e2 := ha.ev hy
   generalize a.eval = ρ at e1 e2 ⊢
   simp only [execOp, resolve, e1]
   simp [go_sem, e2, h1]
  rw [hrun]
  refine ⟨fun h => (by cases h), h2.mono fun e w' hR => ?_⟩
  obtain ⟨b, rfl, hk⟩ := k e w' hR
  exact hK _ _ (hk _ (ha.put (Nat.le_of_ble_eq_true hd) b))
theorem WI.call {d : Nat} {f : FuncId} {xs : List Operand} {vs : List Value} {ts : Array TypeId} {R : Ending → World → Prop} (hc : Can P f) (hv : args_ sl xs = some vs) (hd : Nat.ble (d + 1) N = true)
  (c : Calls P f vs.toArray w R) (k : ∀ e w', R e w' → ∃ v, e = .returned v ∧ WI P ops Z ks N D ((d, v) :: sl) rest w') :
  WI P ops Z ks N D sl ({ dst := some d, op := .call { callee := .value (.func f), args := xs.toArray, argTypes := ts }, type := t, pos := pos, after := af, guard := none } :: rest) w := fun a ha =>
 wpListIn_plain rfl fun K hK => by
  refine ⟨fun _ _ => trivial, ?_⟩
  rw [show Fence.wide.round = none from rfl, Oper.semAt_none, exec_call hc rfl rfl (args_spec (fun x v hx => ha.ev hx) xs vs hv)]
  refine ⟨fun h => (by cases h), (callsIn_wide (n := 1)).2 (c.mono fun e w' hr => ?_)⟩
  obtain ⟨v, rfl, hk⟩ := k e w' hr
  exact hK _ _ (hk _ (ha.put (Nat.le_of_ble_eq_true hd) v))
theorem WI.gon {dst : Option Nat} {op : Op} {j u : Nat} {c b : Bool} (hj : (ops[j]?).bind (·.dst) = some u) (hv : lk sl u = some (.bool c)) (hc : c = b)
  (h : WI P ops Z ks N D sl ({ dst := dst, op := op, type := t, pos := pos, after := af, guard := none } :: rest) w) :
  WI P ops Z ks N D sl ({ dst := dst, op := op, type := t, pos := pos, after := af, guard := some (j, b) } :: rest) w := fun a ha => by
 have h1 := h a ha
 have hy := yield_lk (ops := ops) ha hj hv
 subst hc
 unfold wpListIn at h1 ⊢
 rw [if_pos (by simp [Region.wanted])] at h1
 rw [if_pos (by simp [Region.wanted, hy])]
 exact h1
theorem N5 {d : Nat} {op : Op} {j u : Nat} {c b : Bool} (hj : (ops[j]?).bind (·.dst) = some u) (hv : lk sl u = some (.bool c)) (hc : c = !b) (hd : Nat.ble (d + 1) N = true)
  (h : WI P ops Z ks N D ((d, undef) :: sl) rest w) :
  WI P ops Z ks N D sl ({ dst := some d, op := op, type := t, pos := pos, after := af, guard := some (j, b) } :: rest) w := fun a ha => by
 have hy := yield_lk (ops := ops) ha hj hv
 unfold wpListIn
 rw [if_neg (by subst hc; simp [Region.wanted, hy])]
 exact ⟨fun _ _ => trivial, h _ (ha.put (Nat.le_of_ble_eq_true hd) undef)⟩
theorem yield_c1 {rec : Loop} {R : Ending → World → Prop} {u : Value} {p i : Nat} (h : St W F cs w) (hi : cs[i]? = some [(l, .loop rec)]) (hps : rec.params = #[p]) (hs : rec.tmps.size = N) (hl : ∀ d v, lk sl d = some v → rec.tmps[d]? = some v) (hp : Nat.ble (p + 1) N = true)
  (k : RC l P (begP l P rec.body R) [] N [] ((p, u) :: sl) rec.assign w) : YieldAt Fence.wide 1 P l #[u] w R := by
 refine ⟨_, _, _, _, run_yield (h.blkOf hi) (by rw [hps]; rfl), roundIn_of_wpIn (n := 1) trivial ?_⟩
 have ha : Ag N [] sl ({ tmps := rec.tmps, defers := [] } : Act) := ⟨rfl, hs, hl⟩
 have ha2 := ha.put (Nat.le_of_ble_eq_true hp) u
 have := k _ ha2
 have e : (rec.params.zip #[u]).foldl (fun tmps (t, a) => tmps.setIfInBounds t a) rec.tmps = rec.tmps.setIfInBounds p u := by rw [hps]; simp
 rw [e]
 exact this
theorem WC.rangeA {σ : Type} {g : Operand} {ps : Array Tmp} {assign body : Code} {gf : FuncId} {fa lb : Array Value} (J : σ → Prop) (G : σ → Snap) (RR : σ → List Res) (h : St W F cs w) (hg : evs sl g = some (.func (.func gf) fa lb)) (eg : ∀ args w, (callFunc gf args).run P w = .ok (.enter gf args) w)
  (hcall : ∀ (fn : FuncId) (tm : Array Value) (l Dd : Nat) (w1 : World) (LR : Loop), LR = lrec fn tm ps assign body Dd .ready → (∀ d v, lk sl d = some v → tm[d]? = some v) → tm.size = N → St W F ([(l, .loop LR)] :: [(Dd, .deferred (some []))] :: cs) w1 →
   Calls P gf (fa ++ #[.func (.yield l) #[] #[]] ++ lb) w1 fun e w' => (∃ v, e = .returned v) ∧ ∃ s, J s ∧ St W (G s) ([(l, .loop LR)] :: [(Dd, .deferred (some []))] :: RR s) w')
  (hk : ∀ s Dd w', J s → St W (G s) ([(Dd, .deferred (some []))] :: RR s) w' → WN P Z ks N (mk_ Dd :: D) sl w') : WC P Z ks N D sl (.rangeFunc g ps assign body) w := fun a ha => by
 refine (wpIn_wide (n := 1)).1 (wpIn_rangeFunc fun fn _ => ?_)
 have hgv := ha.ev hg
 have h1 : St W F ([(w.heap.size + 1, .loop (lrec fn a.tmps ps assign body w.heap.size .ready))] :: [(w.heap.size, .deferred (some []))] :: cs) ((w.alloc (.deferred (some []))).alloc (.loop (lrec fn a.tmps ps assign body w.heap.size .ready))) := by
  have h2 := (h.alloc (.deferred (some []))).alloc (.loop (lrec fn a.tmps ps assign body w.heap.size .ready))
  rw [World.size_alloc] at h2
  exact h2
 obtain ⟨W1, hW1⟩ : ∃ W1, (w.alloc (.deferred (some []))).alloc (.loop (lrec fn a.tmps ps assign body w.heap.size .ready)) = W1 := ⟨_, rfl⟩
 have henter : (Instr.enterLoop fn a.tmps ps assign body Fence.wide.round).run P w = .ok (w.heap.size + 1, [mk_ w.heap.size]) W1 := by
  rw [← hW1]; exact run_enterLoop_outer _ _ _ _ _
 rw [hW1] at h1
 clear hW1
 refine ⟨w.heap.size + 1, [mk_ w.heap.size], W1, { target := .fn (.func gf) lb, args := fa ++ #[.func (.yield (w.heap.size + 1)) #[] #[]] }, W1, gf, fa ++ #[.func (.yield (w.heap.size + 1)) #[] #[]] ++ lb, W1, henter, ?_, fun _ _ => trivial, ?_, fun h => (by cases h), ?_⟩
 ·simp only [resolve, hgv]
  simp [go_sem]
 ·simp [invoke, go_sem, eg]
 refine (callsIn_wide (n := 1 - 1)).2 ((hcall fn a.tmps _ _ _ _ rfl ha.ag ha.sz h1).mono ?_)
 rintro e w' ⟨⟨v, rfl⟩, s, hJ, hS⟩
 have hl := hS.blkOf (i := 0) rfl
 refine ⟨none, _, run_endLoop hl (by simp [lrec]), ?_⟩
 have hS2 := hS.set1 (i := 0) rfl (.loop { lrec fn a.tmps ps assign body w.heap.size .ready with state := .exhausted })
 exact hk s _ _ hJ (hS2.drop 0) _ ⟨by rw [← ha.df]; rfl, ha.sz, ha.ag⟩
theorem op_in {Q : Post} (hQ : NoOut Q) {i : Nat} {K K' : Act → World → Prop} (hK : ∀ a w, K a w → K' a w) (hd : ∀ o, ops[i]? = some o → noDefer o.op = true) {a : Act} {w : World} (h : wpOp P ops Q i K a w) : wpOpIn (Fence.wide.inRound l) 1 P ops Q i K' a w := by
 unfold wpOp at h
 unfold wpOpIn
 split at h
 ·rename_i e
  rw [e]
  exact hK _ _ h
 rename_i o e
 rw [e]
 have hno : ∀ c, o.op ≠ .defer c := fun c e' => by have := hd o e; rw [e'] at this; cases this
 split at h
 ·rename_i hw
  simp only [hw, if_true]
  rcases h with h | ⟨_, h⟩
  ·refine ⟨fun _ _ => trivial, ?_⟩
   rw [show (Fence.wide.inRound l).round = some l from rfl, Oper.semAt_some l _ o hno]
   unfold Oper.wp at h
   generalize (execOp a.eval o).run P w = r at *
   cases r with
   |ok n w' =>
    cases n <;> simp only [Oper.upon] at h
    case value u => exact hK _ _ h
    case skip => exact hK _ _ h
    case defer d => exact hK _ _ h
    case enter f args =>
     refine ⟨fun h => (by cases h), CallsIn.inRound l ((callsIn_wide (n := 0)).2 (h.mono fun e w'' hh => ?_))⟩
     cases e with
     |returned u => exact hK _ _ hh
     |panicked ch => exact hh
     |outgrown => exact hh
    case row row args =>
     refine ⟨fun h => (by cases h), fun c cs _ => ?_⟩
     obtain ⟨v, w'', r, s⟩ := h c cs
     exact ⟨v, w'', hK _ _ r, stepsIn_wide.2 s⟩
   |halt hh w' =>
    cases hh <;> simp only [Oper.upon] at h
    case panic u => exact h
  obtain ⟨a0, w0, h⟩ := h
  exact (hQ _ _ h).elim
 rename_i hw
 have hw2 : Region.wanted o (yielded ops a.tmps) = false := by simpa using hw
 simp only [hw2]
 exact ⟨fun _ _ => trivial, hK _ _ h⟩
theorem any_in {Q : Post} (hQ : NoOut Q) (hd : ∀ (i : Nat) o, ops[i]? = some o → noDefer o.op = true) : ∀ (f : Nat) (L : Array Bool) (a : Act) (w : World), wpAny P .any ops Q f L a w → wpAnyIn (Fence.wide.inRound l) 1 P .any ops Q f L a w
 |0, L, a, w, h => h
 |f + 1, L, a, w, h => ⟨h.1, fun i hi => op_in hQ (fun a w => any_in hQ hd f _ a w) (hd i) (h.2 i hi)⟩
theorem pp_out {Q : Post} (h : NoOut Q) : NoOut (pp Q) := fun a w h2 => h2
theorem RC.ereg {Lo : List Oper} (hZ : NoOut Z) (hd : (Lo.all fun o => noDefer o.op) = true) (hs : St W F cs w) (C : World → Prop) (S : Nat → Bool) {id : Nat} (hm : P.follows .mixedOrders = true) (hB : Region.noSelect Lo.toArray = true) (h : Region.noSelect Lo.toArray = true → ∀ w', St W F cs w' → WE P Lo.toArray (denR l P Z ks) [] N D S C sl (upto Lo.toArray.size 0) Lo.toArray.size w') : RC l P Z ks N D sl (.region id Lo.toArray true) w := fun a ha => by
 refine wpIn_mono (Q := pp (denR l P Z ks)) (wpIn_region_any hm ?_) pp_imp
 have := any_of_E _ _ _ _ (h hB _ hs.drew a ha)
 have e : upto Lo.toArray.size 0 = Array.replicate Lo.toArray.size false := by
  apply Array.toList_inj.1; simp [upto]
 rw [e] at this
 refine any_in (pp_out (denR_out hZ ks)) (fun i o ho => ?_) _ _ _ _ this
 rw [List.getElem?_toArray] at ho
 exact List.all_eq_true.1 hd o (List.mem_of_getElem? ho)
theorem RC.eregK {Lo : List Oper} {keep : List Res} (hZ : NoOut Z) (hd : (Lo.all fun o => noDefer o.op) = true) (hs : St W F cs w) (hk : St W F keep w) (S : Nat → Bool) {id : Nat} (hm : P.follows .mixedOrders = true) (hB : Region.noSelect Lo.toArray = true) (h : Region.noSelect Lo.toArray = true → ∀ w', St W F cs w' → WE P Lo.toArray (denR l P Z ks) [] N D S (St W F keep) sl (upto Lo.toArray.size 0) Lo.toArray.size w') : RC l P Z ks N D sl (.region id Lo.toArray true) w := RC.ereg hZ hd hs _ S hm hB h
theorem WC.loopD {σ : Type} {c : Code} (Df : σ → List Deferred) (S : σ → Sl) (J : σ → World → Prop) (m : σ → Nat) (s0 : σ) (hD : D = Df s0) (hs : Sub (S s0) sl) (hj : J s0 w)
  (round : ∀ s w, J s w → WC P Z (.cut (fun a' w' => ∃ s', m s' < m s ∧ Ag N (Df s') (S s') a' ∧ J s' w') :: ks) N (Df s) (S s) c w) : WC P Z ks N D sl (.loop c) w := fun a ha => by
 subst hD
 refine wp_loop_ghost (fun n a' w' => ∃ s, m s = n ∧ Ag N (Df s) (S s) a' ∧ J s w') (m s0) ⟨s0, rfl, ha.sub hs, hj⟩ fun n a' w' ⟨s, hn, ha', hj'⟩ =>wp_mono (round s w' hj' a' ha') fun e a2 w2 q => ?_
 cases e with
 |normal =>
  obtain ⟨s', hm, h1, h2⟩ := q
  exact ⟨m s', hn ▸ hm, s', rfl, h1, h2⟩
 |_ => exact q
theorem WN.againD {σ : Type} {Df : σ → List Deferred} {S : σ → Sl} {J : σ → World → Prop} {m : σ → Nat} {s : σ} (s' : σ) (hD : D = Df s') (hm : m s' < m s) (hs : Sub (S s') sl) (hj : J s' w) :
  WN P Z (.cut (fun a' w' => ∃ s', m s' < m s ∧ Ag N (Df s') (S s') a' ∧ J s' w') :: ks) N D sl w := WN.cut fun _ ha => ⟨s', hm, hD ▸ ha.sub hs, hj⟩
def ddR (ds : List Nat) : List Res := ds.map fun d => [(d, .deferred (some []))]
theorem leaveMs {fn : Func} {R : Ending → World → Prop} {tm : Array Value} {v : Value} (hv : ∀ w', (results fn tm).run P w' = .ok v w') : ∀ (ds : List Nat) {w : World}, St W F (ddR ds ++ cs) w → (∀ w', St W F cs w' → R (.returned v) w') → LeavesInM Fence.wide 1 P fn tm R (ds.map mk_) .returning w
 |[], w, h, hR => ⟨v, hv w, hR w h⟩
 |d :: ds, w, h, hR => ⟨by simp, .inl ⟨d, _, rfl, run_takeDeferred (h.blkOf (i := 0) rfl), leaveMs hv ds (h.shut (i := 0) rfl) hR⟩⟩
theorem retMs1 {fn : Func} {R : Ending → World → Prop} {ds : List Nat} {tt : Tmp} {v : Value} (h : St W F (ddR ds ++ cs) w) (hr : fn.results = #[.tmp tt]) (hv : lk sl tt = some v) (hR : ∀ w', St W F cs w' → R (.returned v) w') : ∀ a, Ag N (ds.map mk_) sl a → bodyPostM Fence.wide 1 P fn R .ret a w := fun a ha => by
 show LeavesInM Fence.wide 1 P fn a.tmps R a.defers .returning w
 rw [ha.df]
 refine leaveMs (fun w' => ?_) ds h hR
 rw [results_tmp hr]
 have := ha.ag tt v hv
 simp [Array.getD_eq_getD_getElem?, this]
end
end B
end Go.Proofs.YtifdpllfbaogcaaGreat
namespace Go.Proofs.YtifdpllfbaogcaaGreat
open Go Go.RowKit
namespace B
abbrev FTab := List (Nat × Nat × Nat)
def FTab.at_ : FTab → Nat → Nat → Option Nat
 |[], _, _ => none
 |(T, j, o) :: r, T', j' => match Nat.beq T T' with
  |true => match Nat.beq j j' with
   |true => some o
   |false => FTab.at_ r T' j'
  |false => FTab.at_ r T' j'
def cmpI : BinOp → Int → Int → Option Bool
 |.lss, m, n => some (decide (m < n))
 |.leq, m, n => some (decide (m ≤ n))
 |.gtr, m, n => some (decide (n < m))
 |.geq, m, n => some (decide (n ≤ m))
 |.eql, m, n => some (decide (m = n))
 |.neq, m, n => some (!decide (m = n))
 |_, _, _ => none
def sv (tb : FTab) (sl : Sl) : Op → Option Value
 |.move x => evs sl x
 |.assign x => evs sl x
 |.pick c x y => match evs sl c with
  |some (.bool b) => match evs sl x with
   |some u => match evs sl y with
    |some v => some (if b then u else v)
    |none => none
   |none => none
  |_ => none
 |.nilCheck x => match evs sl x with
  |some (.pointer (some a)) => some (.pointer (some a))
  |_ => none
 |.extract x j => match evs sl x with
  |some (.tuple vs) => vs[j]?
  |_ => none
 |.fieldAddr T x j => match evs sl x with
  |some (.pointer (some a)) => match tb.at_ T j with
   |some off => some (.pointer (some (a.add off)))
   |none => none
  |_ => none
 |.binOp o _ x y _ => match evs sl x with
  |some (.int .i64 m) => match evs sl y with
   |some (.int .i64 n) => match cmpI o m n with
    |some b => some (.bool b)
    |none => none
   |_ => none
  |_ => none
 |.unOp .not _ x => match evs sl x with
  |some (.bool b) => some (.bool (!b))
  |_ => none
 |_ => none
def svg (tb : FTab) (ops : Array Oper) (sl : Sl) (o : Oper) : Option Value := match o.guard with
 |none => sv tb sl o.op
 |some (j, b) => match (ops[j]?).bind (·.dst) with
  |some u => match lk sl u with
   |some (.bool true) => match b with
    |true => sv tb sl o.op
    |false => some undef
   |some (.bool false) => match b with
    |false => sv tb sl o.op
    |true => some undef
   |_ => none
  |none => none
def ev (tb : FTab) (ops : Array Oper) (N : Nat) : Nat → Sl → List Oper → Option (Sl × List Oper)
 |0, sl, r => some (sl, r)
 |_ + 1, _, [] => none
 |n + 1, sl, o :: r => match o.dst with
  |none => none
  |some d => match Nat.ble (d + 1) N with
   |false => none
   |true => match svg tb ops sl o with
    |none => none
    |some v => ev tb ops N n ((d, v) :: sl) r
section
variable {P : Program} {Z : Post} {ks : List Fr} {N : Nat} {D : List Deferred} {sl sl' : Sl} {w : World} {ops : Array Oper} {rest r' : List Oper} {t : TypeId} {v : Value} {tb : FTab}
theorem FTab.ok {P : Program} : ∀ {tb : FTab} {T j off : Nat}, (tb.all fun x => fldB P x.1 x.2.1 x.2.2) = true → tb.at_ T j = some off → fldB P T j off = true
 |(T0, j0, o) :: r, T, j, off, hall, h => by
  rw [List.all_cons, Bool.and_eq_true] at hall
  unfold FTab.at_ at h
  split at h
  ·rename_i hT
   split at h
   ·rename_i hj
    obtain rfl := Nat.eq_of_beq_eq_true hT
    obtain rfl := Nat.eq_of_beq_eq_true hj
    obtain rfl := Option.some.inj h
    exact hall.1
   ·exact FTab.ok hall.2 h
  ·exact FTab.ok hall.2 h
theorem sv_runs (htb : (tb.all fun x => fldB P x.1 x.2.1 x.2.2) = true) {op : Op} (h : sv tb sl op = some v) : Runs P sl op t w v := by
 unfold sv at h
 split at h
 ·exact C3 h
 ·exact Runs.assign h
 ·split at h
  ·rename_i hc
   split at h
   ·rename_i hx
    split at h
    ·rename_i hy
     obtain rfl := Option.some.inj h
     exact X6 hc hx hy
    ·cases h
   ·cases h
  ·cases h
 ·split at h
  ·rename_i hx
   obtain rfl := Option.some.inj h
   exact S6 hx
  ·cases h
 ·split at h
  ·rename_i hx
   exact Runs.extract hx h
  ·cases h
 ·split at h
  ·rename_i hx
   split at h
   ·rename_i ho
    obtain rfl := Option.some.inj h
    exact Runs.fld (FTab.ok htb ho) hx
   ·cases h
  ·cases h
 ·rename_i o T x y T'
  split at h
  ·rename_i hx
   split at h
   ·rename_i hy
    split at h
    ·rename_i b hb
     obtain rfl := Option.some.inj h
     unfold cmpI at hb
     split at hb
     ·obtain rfl := Option.some.inj hb; exact Q1 hx hy
     ·obtain rfl := Option.some.inj hb; exact Z1 hx hy
     ·obtain rfl := Option.some.inj hb; exact Y1 hx hy
     ·obtain rfl := Option.some.inj hb; exact T1 hx hy
     ·obtain rfl := Option.some.inj hb; exact L1 hx hy
     ·obtain rfl := Option.some.inj hb; exact J2 hx hy
     ·cases hb
    ·cases h
   ·cases h
  ·cases h
 ·split at h
  ·rename_i hx
   obtain rfl := Option.some.inj h
   exact R1 hx
  ·cases h
 ·cases h
theorem WL.ev_ (htb : (tb.all fun x => fldB P x.1 x.2.1 x.2.2) = true) : ∀ (n : Nat) {sl : Sl} {rest : List Oper}, ev tb ops N n sl rest = some (sl', r') → WL P ops Z ks N D sl' r' w → WL P ops Z ks N D sl rest w
 |0, sl, rest, h, k => by
  have h := Option.some.inj h
  injection h with h1 h2
  subst h1 h2
  exact k
 |n + 1, sl, [], h, k => by cases h
 |n + 1, sl, ⟨dst, op, ty, pos, af, g⟩ :: r, h, k => by
  unfold ev at h
  split at h
  ·cases h
  ·rename_i d hd
   have hd : dst = some d := hd
   subst hd
   split at h
   ·cases h
   ·rename_i hN
    split at h
    ·cases h
    ·rename_i v hv
     have k2 := WL.ev_ htb n h k
     unfold svg at hv
     split at hv
     ·rename_i hg
      have hg : g = none := hg
      subst hg
      exact I0 (sv_runs htb hv) hN k2
     ·rename_i j b hg
      have hg : g = some (j, b) := hg
      subst hg
      split at hv
      ·rename_i u hu
       split at hv
       ·rename_i hl
        split at hv
        ·exact WL.gon hu hl rfl (I0 (sv_runs htb hv) hN k2)
        ·obtain rfl := Option.some.inj hv; exact WL.goff hu hl rfl hN k2
       ·rename_i hl
        split at hv
        ·exact WL.gon hu hl rfl (I0 (sv_runs htb hv) hN k2)
        ·obtain rfl := Option.some.inj hv; exact WL.goff hu hl rfl hN k2
       ·cases hv
      ·cases hv
end
def gq (ops : Array Oper) (sl : Sl) : Option (Nat × Bool) → Option Bool
 |none => some true
 |some (j, b) => match (ops[j]?).bind (·.dst) with
  |some u => match lk sl u with
   |some (.bool true) => some b
   |some (.bool false) => some (!b)
   |_ => none
  |none => none
def sq (tb : FTab) (t1 : List Nat) (cs : List Res) (sl : Sl) (is : List Nat) (p : Prop) : Op → Option (Value × List Nat × Prop)
 |.load T x => match t1.any (Nat.beq T) with
  |false => none
  |true => match is with
   |[] => none
   |i :: is => match evs sl x with
    |some (.pointer (some ⟨b, off, none⟩)) => match cs[i]? with
     |some [(b', .cells arr _ _)] => match arr[off]? with
      |some v => some (v, is, b = b' ∧ p)
      |none => none
     |_ => none
    |_ => none
 |op => match sv tb sl op with
  |some v => some (v, is, p)
  |none => none
def evL (tb : FTab) (t1 : List Nat) (ops : Array Oper) (N : Nat) (cs : List Res) : Nat → List Nat → Prop → Sl → List Oper → Option (Sl × List Oper × Prop)
 |0, _, p, sl, r => some (sl, r, p)
 |_ + 1, _, _, _, [] => none
 |n + 1, is, p, sl, o :: r => match o.dst with
  |none => none
  |some d => match Nat.ble (d + 1) N with
   |false => none
   |true => match gq ops sl o.guard with
    |none => none
    |some false => evL tb t1 ops N cs n is p ((d, undef) :: sl) r
    |some true => match sq tb t1 cs sl is p o.op with
     |none => none
     |some (v, is', p') => evL tb t1 ops N cs n is' p' ((d, v) :: sl) r
def scalB (P : Program) (T : Nat) : Bool := match P.underlying T with
 |some d => scal d
 |none => false
def gqE (ops : Array Oper) (sl : Sl) : Option (Nat × Bool) → Option Bool
 |none => some true
 |some (j, b) => match (ops[j]?).bind (·.dst) with
  |some u => match lk sl u with
   |some (.bool true) => some b
   |some (.bool false) => some (!b)
   |some (.tuple a) => match a.toList with
    |[] => some false
    |_ => none
   |_ => none
  |none => none
def evE (tb : FTab) (ops : Array Oper) (N : Nat) : List Nat → Sl → Array Bool → Nat → Option (Sl × Array Bool × Nat)
 |[], sl, L, n => some (sl, L, n)
 |_ :: _, _, _, 0 => none
 |k :: js, sl, L, n + 1 => match ops[k]? with
  |none => none
  |some o => match o.dst with
   |none => none
   |some d => match Nat.ble (d + 1) N with
    |false => none
    |true => match gqE ops sl o.guard with
     |none => none
     |some false => evE tb ops N js ((d, undef) :: sl) (L.setIfInBounds k true) n
     |some true => match sv tb sl o.op with
      |none => none
      |some v => evE tb ops N js ((d, v) :: sl) (L.setIfInBounds k true) n
def chkE (ops : Array Oper) (S : Nat → Bool) : List Nat → Array Bool → Bool
 |[], _ => true
 |k :: js, L => dcB ops L && (Region.free .any ops L k && ((Region.ready .any ops L).contains k && (!S k && chkE ops S js (L.setIfInBounds k true))))
def evM (tb : FTab) (ops : Array Oper) (N : Nat) (eff : Nat → Bool) : Nat → Sl → Nat → Option (Sl × Nat)
 |0, sl, k => some (sl, k)
 |n + 1, sl, k => match ops[k]? with
  |none => none
  |some o => match o.dst with
   |none => none
   |some d => match Nat.ble (d + 1) N with
    |false => none
    |true => match o.guard with
     |some _ => none
     |none => match eff k with
      |true => none
      |false => match sv tb sl o.op with
       |none => none
       |some v => evM tb ops N eff n ((d, v) :: sl) (k + 1)
def evEL (tb : FTab) (t1 : List Nat) (ops : Array Oper) (N : Nat) (cs : List Res) (ls : List Nat) : List Nat → List Nat → Prop → Sl → Array Bool → Nat → Option (Sl × Array Bool × Nat × Prop)
 |[], _, p, sl, L, n => some (sl, L, n, p)
 |_ :: _, _, _, _, _, 0 => none
 |k :: js, is, p, sl, L, n + 1 => match ops[k]? with
  |none => none
  |some o => match o.dst with
   |none => none
   |some d => match Nat.ble (d + 1) N with
    |false => none
    |true => match gqE ops sl o.guard with
     |none => none
     |some false => match ls.any (Nat.beq k) with
      |true => none
      |false => evEL tb t1 ops N cs ls js is p ((d, undef) :: sl) (L.setIfInBounds k true) n
     |some true => match ls.any (Nat.beq k) with
      |true => match sq tb t1 cs sl is p o.op with
       |none => none
       |some (v, is', p') => evEL tb t1 ops N cs ls js is' p' ((d, v) :: sl) (L.setIfInBounds k true) n
      |false => match sv tb sl o.op with
       |none => none
       |some v => evEL tb t1 ops N cs ls js is p ((d, v) :: sl) (L.setIfInBounds k true) n
def chkL (ops : Array Oper) (l : List Nat) (fl : Nat) (ls : List Nat) : List Nat → Array Bool → Bool
 |[], _ => true
 |k :: js, L => dcB ops L && (Region.free .any ops L k && ((Region.ready .any ops L).contains k && ((match ls.any (Nat.beq k) with | true => l.all fun j => ancB ops fl j k | false => !l.any (Nat.beq k)) && chkL ops l fl ls js (L.setIfInBounds k true))))
section
variable {P : Program} {Z : Post} {ks : List Fr} {N : Nat} {D : List Deferred} {sl sl' : Sl} {W w : World} {F : Snap} {cs : List Res} {ops : Array Oper} {rest r' : List Oper} {t : TypeId} {v : Value} {tb : FTab} {t1 : List Nat} {C : World → Prop} {Q : Act → Prop} {S : Nat → Bool} {eff : Nat → Bool} {p p' : Prop}
theorem gq_on {j : Nat} {b : Bool} (h : gq ops sl (some (j, b)) = some true) : ∃ u, (ops[j]?).bind (·.dst) = some u ∧ lk sl u = some (.bool b) := by
 unfold gq at h
 simp only at h
 split at h
 ·rename_i u hu
  refine ⟨u, hu, ?_⟩
  split at h
  ·rename_i hl; rw [hl, Option.some.inj h]
  ·rename_i hl; rw [hl]; have := Option.some.inj h; cases b <;> simp at this ⊢
  ·cases h
 ·cases h
theorem gq_off {j : Nat} {b : Bool} (h : gq ops sl (some (j, b)) = some false) : ∃ u, (ops[j]?).bind (·.dst) = some u ∧ lk sl u = some (.bool (!b)) := by
 unfold gq at h
 simp only at h
 split at h
 ·rename_i u hu
  refine ⟨u, hu, ?_⟩
  split at h
  ·rename_i hl; rw [hl, Option.some.inj h]; rfl
  ·rename_i hl; rw [hl]; have := Option.some.inj h; cases b <;> simp at this ⊢
  ·cases h
 ·cases h
theorem gqE_on {j : Nat} {b : Bool} (h : gqE ops sl (some (j, b)) = some true) : gOn ops sl (some (j, b)) := by
 unfold gqE at h
 simp only at h
 split at h
 ·rename_i u hu
  split at h
  ·rename_i hl; exact ⟨u, _, hu, hl, (Option.some.inj h).symm⟩
  ·rename_i hl; have := Option.some.inj h; exact ⟨u, _, hu, hl, by cases b <;> simp at this ⊢⟩
  ·split at h <;> cases h
  ·cases h
 ·cases h
theorem gqE_off {j : Nat} {b : Bool} (h : gqE ops sl (some (j, b)) = some false) : gOff ops sl (some (j, b)) := by
 unfold gqE at h
 simp only at h
 split at h
 ·rename_i u hu
  split at h
  ·rename_i hl; have := Option.some.inj h; exact ⟨u, _, hu, hl, .inr (by rw [this]; rfl)⟩
  ·rename_i hl; have := Option.some.inj h; exact ⟨u, _, hu, hl, .inr (by rw [this])⟩
  ·rename_i a hl
   split at h
   ·rename_i ha
    refine ⟨u, _, hu, hl, .inl ?_⟩
    have : a = #[] := by cases a; simp at ha; subst ha; rfl
    rw [this]; rfl
   ·cases h
  ·cases h
 ·cases h
theorem scalB_ok {T : Nat} (ht1 : (t1.all (scalB P)) = true) (h : t1.any (Nat.beq T) = true) : ∃ d, P.underlying T = some d ∧ scal d = true := by
 obtain ⟨x, hx, he⟩ := List.any_eq_true.1 h
 have := List.all_eq_true.1 ht1 x hx
 rw [← Nat.eq_of_beq_eq_true he] at this
 unfold scalB at this
 split at this
 ·rename_i d hd; exact ⟨d, hd, this⟩
 ·cases this
theorem sq_runs (htb : (tb.all fun x => fldB P x.1 x.2.1 x.2.2) = true) (ht1 : (t1.all (scalB P)) = true) {is is' : List Nat} {op : Op} (h : sq tb t1 cs sl is p op = some (v, is', p')) (hp : p') : p ∧ ∀ w, St W F cs w → Runs P sl op t w v := by
 unfold sq at h
 split at h
 ·split at h
  ·cases h
  ·rename_i hT
   obtain ⟨d, hd, hs⟩ := scalB_ok ht1 hT
   split at h
   ·cases h
   ·split at h
    ·rename_i hx
     split at h
     ·rename_i hi
      split at h
      ·rename_i hv
       injection h with h
       injection h with h1 h2
       injection h2 with h2 h3
       subst h1 h3
       obtain ⟨rfl, hp⟩ := hp
       exact ⟨hp, fun w hw => K0 hd hs hx (hw.ocell hi hv)⟩
      ·cases h
     ·cases h
    ·cases h
 ·split at h
  ·rename_i hv
   injection h with h
   injection h with h1 h2
   injection h2 with h2 h3
   subst h1 h3
   exact ⟨hp, fun w _ => sv_runs htb hv⟩
  ·cases h
theorem WL.evL_ (htb : (tb.all fun x => fldB P x.1 x.2.1 x.2.2) = true) (ht1 : (t1.all (scalB P)) = true) (hw : St W F cs w) : ∀ (n : Nat) {is : List Nat} {p : Prop} {sl : Sl} {rest : List Oper}, evL tb t1 ops N cs n is p sl rest = some (sl', r', p') → p' → p ∧ (WL P ops Z ks N D sl' r' w → WL P ops Z ks N D sl rest w)
 |0, is, p, sl, rest, h, hp => by
  have h := Option.some.inj h
  injection h with h1 h2
  injection h2 with h2 h3
  subst h1 h2 h3
  exact ⟨hp, id⟩
 |n + 1, is, p, sl, [], h, hp => by cases h
 |n + 1, is, p, sl, ⟨dst, op, ty, pos, af, g⟩ :: r, h, hp => by
  unfold evL at h
  split at h
  ·cases h
  ·rename_i d hd
   have hd : dst = some d := hd
   subst hd
   split at h
   ·cases h
   ·rename_i hN
    split at h
    ·cases h
    ·rename_i hg
     have hg : gq ops sl g = some false := hg
     obtain ⟨h1, h2⟩ := WL.evL_ htb ht1 hw n h hp
     refine ⟨h1, fun k => ?_⟩
     rcases g with _ | ⟨j, b⟩
     ·cases hg
     ·obtain ⟨u, hu, hl⟩ := gq_off hg
      exact WL.goff hu hl rfl hN (h2 k)
    ·rename_i hg
     have hg : gq ops sl g = some true := hg
     split at h
     ·cases h
     ·rename_i v is' p1 hv
      obtain ⟨h1, h2⟩ := WL.evL_ htb ht1 hw n h hp
      obtain ⟨h3, h4⟩ := sq_runs (W := W) (F := F) (t := ty) htb ht1 hv h1
      refine ⟨h3, fun k => ?_⟩
      rcases g with _ | ⟨j, b⟩
      ·exact I0 (h4 w hw) hN (h2 k)
      ·obtain ⟨u, hu, hl⟩ := gq_on hg
       exact WL.gon hu hl rfl (I0 (h4 w hw) hN (h2 k))
theorem WQ.evL_ (htb : (tb.all fun x => fldB P x.1 x.2.1 x.2.2) = true) (ht1 : (t1.all (scalB P)) = true) (hC : ∀ w, C w → St W F cs w) : ∀ (n : Nat) {is : List Nat} {p : Prop} {sl : Sl} {rest : List Oper}, evL tb t1 ops N cs n is p sl rest = some (sl', r', p') → p' → p ∧ (WQ P ops C Q N D sl' r' → WQ P ops C Q N D sl rest)
 |0, is, p, sl, rest, h, hp => by
  have h := Option.some.inj h
  injection h with h1 h2
  injection h2 with h2 h3
  subst h1 h2 h3
  exact ⟨hp, id⟩
 |n + 1, is, p, sl, [], h, hp => by cases h
 |n + 1, is, p, sl, ⟨dst, op, ty, pos, af, g⟩ :: r, h, hp => by
  unfold evL at h
  split at h
  ·cases h
  ·rename_i d hd
   have hd : dst = some d := hd
   subst hd
   split at h
   ·cases h
   ·rename_i hN
    split at h
    ·cases h
    ·rename_i hg
     have hg : gq ops sl g = some false := hg
     obtain ⟨h1, h2⟩ := WQ.evL_ htb ht1 hC n h hp
     refine ⟨h1, fun k => ?_⟩
     rcases g with _ | ⟨j, b⟩
     ·cases hg
     ·obtain ⟨u, hu, hl⟩ := gq_off hg
      exact WQ.goff hu hl rfl hN (h2 k)
    ·rename_i hg
     have hg : gq ops sl g = some true := hg
     split at h
     ·cases h
     ·rename_i v is' p1 hv
      obtain ⟨h1, h2⟩ := WQ.evL_ htb ht1 hC n h hp
      obtain ⟨h3, h4⟩ := sq_runs (W := W) (F := F) (t := ty) htb ht1 hv h1
      refine ⟨h3, fun k => ?_⟩
      rcases g with _ | ⟨j, b⟩
      ·exact X0 (fun w hw => h4 w (hC w hw)) hN (h2 k)
      ·obtain ⟨u, hu, hl⟩ := gq_on hg
       exact WQ.gon hu hl rfl (X0 (fun w hw => h4 w (hC w hw)) hN (h2 k))
theorem WQ.ev_ (htb : (tb.all fun x => fldB P x.1 x.2.1 x.2.2) = true) : ∀ (n : Nat) {sl : Sl} {rest : List Oper}, ev tb ops N n sl rest = some (sl', r') → WQ P ops C Q N D sl' r' → WQ P ops C Q N D sl rest
 |0, sl, rest, h, k => by
  have h := Option.some.inj h
  injection h with h1 h2
  subst h1 h2
  exact k
 |n + 1, sl, [], h, k => by cases h
 |n + 1, sl, ⟨dst, op, ty, pos, af, g⟩ :: r, h, k => by
  unfold ev at h
  split at h
  ·cases h
  ·rename_i d hd
   have hd : dst = some d := hd
   subst hd
   split at h
   ·cases h
   ·rename_i hN
    split at h
    ·cases h
    ·rename_i v hv
     have k2 := WQ.ev_ htb n h k
     unfold svg at hv
     split at hv
     ·rename_i hg
      have hg : g = none := hg
      subst hg
      exact X0 (fun _ _ => sv_runs htb hv) hN k2
     ·rename_i j b hg
      have hg : g = some (j, b) := hg
      subst hg
      split at hv
      ·rename_i u hu
       split at hv
       ·rename_i hl
        split at hv
        ·exact WQ.gon hu hl rfl (X0 (fun _ _ => sv_runs htb hv) hN k2)
        ·obtain rfl := Option.some.inj hv; exact WQ.goff hu hl rfl hN k2
       ·rename_i hl
        split at hv
        ·exact WQ.gon hu hl rfl (X0 (fun _ _ => sv_runs htb hv) hN k2)
        ·obtain rfl := Option.some.inj hv; exact WQ.goff hu hl rfl hN k2
       ·cases hv
      ·cases hv
theorem WE.ev_ (htb : (tb.all fun x => fldB P x.1 x.2.1 x.2.2) = true) (hs : Region.noSelect ops = true) {L' : Array Bool} {n' : Nat} : ∀ (js : List Nat) {sl : Sl} {L : Array Bool} {n : Nat}, chkE ops S js L = true → evE tb ops N js sl L n = some (sl', L', n') → WE P ops Z ks N D S C sl' L' n' w → WE P ops Z ks N D S C sl L n w
 |[], sl, L, n, _, h, k => by
  have h := Option.some.inj h
  injection h with h1 h2
  injection h2 with h2 h3
  subst h1 h2 h3
  exact k
 |_ :: _, sl, L, 0, _, h, k => by cases h
 |i :: js, sl, L, n + 1, hc, h, k => by
  unfold chkE at hc
  simp only [Bool.and_eq_true, Bool.not_eq_true'] at hc
  obtain ⟨c1, c2, c3, c4, c5⟩ := hc
  unfold evE at h
  split at h
  ·cases h
  ·rename_i o ho
   obtain ⟨dst, op, ty, pos, af, g⟩ := o
   split at h
   ·cases h
   ·rename_i d hd
    have hd : dst = some d := hd
    subst hd
    split at h
    ·cases h
    ·rename_i hN
     split at h
     ·cases h
     ·rename_i hg
      have hg : gqE ops sl g = some false := hg
      have k2 := WE.ev_ htb hs js c5 h k
      rcases g with _ | ⟨j, b⟩
      ·cases hg
      ·exact WE.off (g := some (j, b)) hs i ho (gqE_off hg) c1 c2 c3 c4 hN k2
     ·rename_i hg
      have hg : gqE ops sl g = some true := hg
      split at h
      ·cases h
      ·rename_i v hv
       have k2 := WE.ev_ htb hs js c5 h k
       rcases g with _ | ⟨j, b⟩
       ·exact Z6 (g := none) hs i ho trivial c1 c2 c3 c4 (fun w => sv_runs htb hv) hN k2
       ·exact Z6 (g := some (j, b)) hs i ho (gqE_on hg) c1 c2 c3 c4 (fun w => sv_runs htb hv) hN k2
theorem WE.evL_ (htb : (tb.all fun x => fldB P x.1 x.2.1 x.2.2) = true) (ht1 : (t1.all (scalB P)) = true) (hs : Region.noSelect ops = true) (fl : Nat) {L' : Array Bool} {n' : Nat} {l ls : List Nat} : ∀ (js : List Nat) {is : List Nat} {p : Prop} {sl : Sl} {L : Array Bool} {n : Nat}, chkL ops l fl ls js L = true → evEL tb t1 ops N cs ls js is p sl L n = some (sl', L', n', p') → p' → p ∧ (WE P ops Z ks N D (fun s => l.any (Nat.beq s)) (St W F cs) sl' L' n' w → WE P ops Z ks N D (fun s => l.any (Nat.beq s)) (St W F cs) sl L n w)
 |[], is, p, sl, L, n, _, h, hp => by
  have h := Option.some.inj h
  injection h with h1 h2
  injection h2 with h2 h3
  injection h3 with h3 h4
  subst h1 h2 h3 h4
  exact ⟨hp, id⟩
 |_ :: _, is, p, sl, L, 0, _, h, hp => by cases h
 |i :: js, is, p, sl, L, n + 1, hc, h, hp => by
  unfold chkL at hc
  simp only [Bool.and_eq_true] at hc
  obtain ⟨c1, c2, c3, c4, c5⟩ := hc
  unfold evEL at h
  split at h
  ·cases h
  ·rename_i o ho
   obtain ⟨dst, op, ty, pos, af, g⟩ := o
   split at h
   ·cases h
   ·rename_i d hd
    have hd : dst = some d := hd
    subst hd
    split at h
    ·cases h
    ·rename_i hN
     split at h
     ·cases h
     ·rename_i hg
      have hg : gqE ops sl g = some false := hg
      split at h
      ·cases h
      ·rename_i hl
       rw [hl] at c4
       have c4 : l.any (Nat.beq i) = false := by simpa using c4
       obtain ⟨h1, h2⟩ := WE.evL_ htb ht1 hs fl js c5 h hp
       refine ⟨h1, fun k => ?_⟩
       rcases g with _ | ⟨j, b⟩
       ·cases hg
       ·exact WE.off (g := some (j, b)) hs i ho (gqE_off hg) c1 c2 c3 c4 hN (h2 k)
     ·rename_i hg
      have hg : gqE ops sl g = some true := hg
      split at h
      ·rename_i hl
       rw [hl] at c4
       split at h
       ·cases h
       ·rename_i v is' p1 hv
        obtain ⟨h1, h2⟩ := WE.evL_ htb ht1 hs fl js c5 h hp
        obtain ⟨h3, h4⟩ := sq_runs (W := W) (F := F) (t := ty) htb ht1 hv h1
        refine ⟨h3, fun k => ?_⟩
        rcases g with _ | ⟨j, b⟩
        ·exact WE.val (g := none) fl hs i ho trivial c1 c2 c3 c4 h4 hN (h2 k)
        ·exact WE.val (g := some (j, b)) fl hs i ho (gqE_on hg) c1 c2 c3 c4 h4 hN (h2 k)
      ·rename_i hl
       rw [hl] at c4
       have c4 : l.any (Nat.beq i) = false := by simpa using c4
       split at h
       ·cases h
       ·rename_i v hv
        obtain ⟨h1, h2⟩ := WE.evL_ htb ht1 hs fl js c5 h hp
        refine ⟨h1, fun k => ?_⟩
        rcases g with _ | ⟨j, b⟩
        ·exact Z6 (g := none) hs i ho trivial c1 c2 c3 c4 (fun w => sv_runs htb hv) hN (h2 k)
        ·exact Z6 (g := some (j, b)) hs i ho (gqE_on hg) c1 c2 c3 c4 (fun w => sv_runs htb hv) hN (h2 k)
theorem WM.ev_ (htb : (tb.all fun x => fldB P x.1 x.2.1 x.2.2) = true) (hx : Lx ops) {k' : Nat} : ∀ (n : Nat) {sl : Sl} {k : Nat}, evM tb ops N eff n sl k = some (sl', k') → WM P ops Z ks N D C eff sl' k' → WM P ops Z ks N D C eff sl k
 |0, sl, k, h, kk => by
  have h := Option.some.inj h
  injection h with h1 h2
  subst h1 h2
  exact kk
 |n + 1, sl, k, h, kk => by
  unfold evM at h
  split at h
  ·cases h
  ·rename_i o ho
   obtain ⟨dst, op, ty, pos, af, g⟩ := o
   split at h
   ·cases h
   ·rename_i d hd
    have hd : dst = some d := hd
    subst hd
    split at h
    ·cases h
    ·rename_i hN
     split at h
     ·cases h
     ·rename_i hg
      have hg : g = none := hg
      subst hg
      split at h
      ·cases h
      ·rename_i he
       split at h
       ·cases h
       ·rename_i v hv
        exact F2 hx ho he (fun w => sv_runs htb hv) hN (WM.ev_ htb hx n h kk)
theorem Bt {op : Op} {b : Bool} (h : Runs P sl op t w (.bool b)) (e : b = true) : Runs P sl op t w (.bool true) := e ▸ h
theorem Bf {op : Op} {b : Bool} (h : Runs P sl op t w (.bool b)) (e : b = false) : Runs P sl op t w (.bool false) := e ▸ h
theorem W2 {c : Code} (s : Sl) (h : WC P Z ks N D s c w) (hs : Sub s sl := by repeat (first | exact trivial | refine ⟨rfl, ?_⟩)) : WC P Z ks N D sl c w := h.sub hs
theorem B3 {σ : Type} {c : Code} (S : σ → Sl) (J : σ → World → Prop) (m : σ → Nat) (s0 : σ) (hj : J s0 w)
  (round : ∀ s w, J s w → WC P Z (.cut (fun a' w' => ∃ s', m s' < m s ∧ Ag N D (S s') a' ∧ J s' w') :: ks) N D (S s) c w) (hs : Sub (S s0) sl := by repeat (first | exact trivial | refine ⟨rfl, ?_⟩)) : WC P Z ks N D sl (.loop c) w := N4 S J m s0 hs hj round
theorem Q0 {dst : Option Nat} {op : Op} {pos : String} {af : Array Edge} {j : Nat} {b : Bool} (h : gq ops sl (some (j, b)) = some true) (k : WL P ops Z ks N D sl ({ dst := dst, op := op, type := t, pos := pos, after := af, guard := none } :: rest) w) :
  WL P ops Z ks N D sl ({ dst := dst, op := op, type := t, pos := pos, after := af, guard := some (j, b) } :: rest) w := by
 obtain ⟨u, hu, hl⟩ := gq_on h
 exact WL.gon hu hl rfl k
theorem Y2 {dst : Option Nat} {op : Op} {pos : String} {af : Array Edge} {j : Nat} {b : Bool} (h : gq ops sl (some (j, b)) = some true) (k : WQ P ops C Q N D sl ({ dst := dst, op := op, type := t, pos := pos, after := af, guard := none } :: rest)) :
  WQ P ops C Q N D sl ({ dst := dst, op := op, type := t, pos := pos, after := af, guard := some (j, b) } :: rest) := by
 obtain ⟨u, hu, hl⟩ := gq_on h
 exact WQ.gon hu hl rfl k
theorem C1 {d : Nat} {f : FuncId} {xs : List Operand} {vs : List Value} {ts : Array TypeId} {pos : String} {af : Array Edge} {R : World → Prop} (hc : Can P f) (hv : args_ sl xs = some vs) (hd : Nat.ble (d + 1) N = true)
  (c : Calls P f vs.toArray w fun e w' => e = .returned v ∧ R w') (k : ∀ w', R w' → WL P ops Z ks N D ((d, v) :: sl) rest w') :
  WL P ops Z ks N D sl ({ dst := some d, op := .call { callee := .value (.func f), args := xs.toArray, argTypes := ts }, type := t, pos := pos, after := af, guard := none } :: rest) w :=
 V1 hc hv hd c fun _ w' ⟨h1, h2⟩ => ⟨v, h1, k w' h2⟩
variable {y z : Code} {id : Nat} {l : List Oper}
theorem Wa (h : WC P Z ks N D sl y w) : WL P ops Z (.thn y :: ks) N D sl [] w := J0 (H0 h)
theorem Wb (h : WC P Z (.thn z :: ks) N D sl y w) : WL P ops Z (.thn (.seq y z) :: ks) N D sl [] w := J0 (H0 (N0 h))
theorem We (h : WL P l.toArray Z (.thn z :: ks) N D sl l w) : WL P ops Z (.thn (.seq (.region id l.toArray false) z) :: ks) N D sl [] w := J0 (H0 (N0 (L0 h)))
theorem Wf (h : WL P l.toArray Z ks N D sl l w) : WL P ops Z (.thn (.region id l.toArray false) :: ks) N D sl [] w := J0 (H0 (L0 h))
theorem Wg (h : ∀ a, Ag N D sl a → Z .ret a w) : WL P ops Z (.thn .ret :: ks) N D sl [] w := J0 (H0 (O1 h))
theorem Wh (h : WL P l.toArray Z (.thn y :: .thn z :: ks) N D sl l w) : WL P ops Z (.thn (.seq (.seq (.region id l.toArray false) y) z) :: ks) N D sl [] w := J0 (H0 (N0 (N0 (L0 h))))
theorem Wi (h : WL P l.toArray Z (.thn y :: ks) N D sl l w) : WC P Z ks N D sl (.seq (.region id l.toArray false) y) w := N0 (L0 h)
theorem Wj (h : WC P Z (.blk id :: ks) N D sl y w) : WL P ops Z (.thn (.block id y) :: ks) N D sl [] w := J0 (H0 (M1 h))
theorem Wk (h : WL P l.toArray Z (.thn z :: ks) N D sl l w) : WC P Z (.thn (.seq (.region id l.toArray false) z) :: ks) N D sl .skip w := U0 (H0 (N0 (L0 h)))
end
abbrev pz (b : Nat) : Value := .pointer (some ⟨b, 0, none⟩)
theorem dA {p : Prop} [Decidable p] (h : p) : decide p = true := decide_eq_true h
theorem dN {p : Prop} [Decidable p] (h : ¬ p) : decide p = false := decide_eq_false h
section
variable {P : Program} {Z : Post} {ks : List Fr} {N : Nat} {D : List Deferred} {sl : Sl} {W w : World} {ops : Array Oper} {rest : List Oper} {F : Snap} {cs : List Res} {t T : TypeId} {x y : Operand} {v zv : Value} {pos : String} {af : Array Edge} {bytes sz : Nat}
theorem O3 (h : St W F cs w) (i : Nat) {b off : Nat} {arr : Array Value} {tt : TypeId} (hi : cs[i]? = some [(b, .cells arr tt (0, 0))]) (hx : evs sl x = some (.pointer (some ⟨b, off, none⟩))) (hy : evs sl y = some v)
  (hT : Inf P T zv sz bytes) (hz : sz = v.cells.size) (h1 : v.cells.toList.all one_ = true)
  (k : ∀ w', St W F (cs.set i [(b, .cells (blit arr off v.cells.toList) tt (0, 0))]) w' → WL P ops Z ks N D sl rest w') (ho : off + v.cells.size ≤ arr.size := by exact Nat.le_of_ble_eq_true rfl) :
  WL P ops Z ks N D sl ({ dst := none, op := .store T x y, type := t, pos := pos, after := af, guard := none } :: rest) w := C4 h i hi hx hy hT hz h1 (Free.zero _) ho k
theorem F4 (h : St W F cs w) (i : Nat) {arr vs : Array Value} {b : Nat} {tt : TypeId} (hi : cs[i]? = some [(b, .cells arr tt (0, 0))]) (hx : evs sl x = some (.pointer (some ⟨b, 0, none⟩))) (hy : evs sl y = some (.agg vs))
  (hT : Inf P T zv sz bytes) (hz : sz = vs.size) (ha : arr.size = vs.size) (h1 : vs.toList.all one_ = true)
  (k : ∀ w', St W F (cs.set i [(b, .cells vs tt (0, 0))]) w' → WL P ops Z ks N D sl rest w') :
  WL P ops Z ks N D sl ({ dst := none, op := .store T x y, type := t, pos := pos, after := af, guard := none } :: rest) w := T6 h i hi hx hy hT hz ha h1 (Free.zero _) k
end
theorem gD {α : Type} {l : List α} {i : Nat} {a : α} : l.getD i a = l[i]?.getD a := List.getD_eq_getElem?_getD
theorem gE {α : Type} {l : List α} {i : Nat} (h : i < l.length) : l[i]? = some l[i] := List.getElem?_eq_getElem h
theorem mG {α : Type} {l : List α} {i : Nat} {a : α} (h : l[i]? = some a) : a ∈ l := List.mem_of_getElem? h
theorem lA {α : Type} {p q : List α} : (p ++ q).length = p.length + q.length := List.length_append
section
variable {P : Program} {ops : Array Oper} {Z : Post} {ks : List Fr} {N : Nat} {D : List Deferred} {S : Nat → Bool} {C : World → Prop} {sl : Sl} {L : Array Bool} {n : Nat} {w : World}
theorem F3 (i : Nat) {o : Oper} (hI : C w) (ho : ops[i]? = some o) (h : WL P ops (ZE N D (den P Z ks)) [.cut (KE P ops Z ks S C (L.setIfInBounds i true) n)] N D sl [o] w) (hr : Region.ready .any ops L = [i] := by kernel_rfl) : WE P ops Z ks N D S C sl L (n + 1) w := WE.op (.inr hI) ho hr h
end
theorem DD : (∀ (p : Prop) [Decidable p], (decide p = true) = p) ∧ (∀ (p : Prop) [Decidable p], decide p = false ↔ ¬ p) ∧ (∀ b : Bool, ((!b) = true) = (b = false)) ∧ (∀ b : Bool, ((!b) = false) = (b = true)) ∧ (∀ a b : Bool, ((a && b) = true) = (a = true ∧ b = true)) ∧ (∀ a b : Int, ¬ a < b ↔ b ≤ a) ∧ ∀ a b : Int, ¬ a ≤ b ↔ b < a := ⟨fun _ _ => dt, fun _ _ => df, fun _ => nt, fun _ => nf, ba, fun _ _ => il, fun _ _ => ie⟩
theorem ZZ : (∀ {α : Type} (a b : α) (l : List α), (a :: l).set 0 b = b :: l) ∧ (∀ {α : Type} (a b : α) (l : List α) (n : Nat), (a :: l).set (n + 1) b = a :: l.set n b) ∧ (∀ {α : Type} (a : α) (l : List α), (a :: l).eraseIdx 0 = l) ∧ ∀ {α : Type} (a : α) (l : List α) (n : Nat), (a :: l).eraseIdx (n + 1) = a :: l.eraseIdx n := ⟨fun _ _ _ => lz, fun _ _ _ _ => ls, fun _ _ => ez, fun _ _ _ => es'⟩
def tb : FTab := [(42, 0, 0), (42, 1, 1), (42, 2, 2), (36, 0, 0), (115, 0, 0), (68, 0, 0), (36, 1, 1), (87, 1, 1), (68, 1, 1), (169, 5, 5), (42, 3, 3), (42, 5, 5), (169, 0, 0), (101, 0, 0), (42, 4, 4), (101, 7, 8), (68, 4, 4), (169, 2, 2), (169, 1, 1), (169, 3, 3), (83, 0, 0), (155, 1, 1), (161, 1, 1), (87, 2, 2), (169, 4, 4), (42, 6, 6), (83, 7, 8), (101, 3, 4), (68, 2, 2), (169, 6, 6), (87, 0, 0), (155, 2, 2), (83, 3, 4), (83, 2, 3), (115, 1, 1), (83, 6, 7), (101, 2, 3), (30, 1, 1), (68, 3, 3), (155, 0, 0), (75, 1, 1), (54, 6, 6), (161, 2, 2), (101, 6, 7), (42, 7, 7), (101, 10, 11), (38, 1, 1), (38, 3, 4), (139, 0, 0), (161, 0, 0), (83, 10, 11), (101, 8, 9), (101, 9, 10), (139, 1, 1), (139, 2, 2), (122, 0, 0), (122, 1, 1), (83, 4, 5), (83, 8, 9), (83, 9, 10), (83, 1, 2), (54, 5, 5), (101, 4, 5), (38, 4, 5), (83, 5, 6), (54, 2, 2), (101, 5, 6), (101, 1, 2), (173, 1, 1), (173, 2, 2), (173, 3, 3), (173, 4, 4), (187, 0, 0), (187, 1, 1), (187, 2, 2), (187, 3, 3), (187, 4, 4), (54, 3, 3), (54, 4, 4), (38, 2, 3), (173, 0, 0), (54, 0, 0), (191, 0, 0), (191, 1, 1), (75, 0, 0), (38, 0, 0), (30, 0, 0), (54, 1, 1)]
def ts1 : List Nat := [119, 120, 131, 28, 3, 33, 34, 39, 4, 66, 73, 76, 80, 81, 9, 99]
theorem tbOk : (tb.all fun x => fldB Tryz.prog x.1 x.2.1 x.2.2) = true := by kernel_rfl
theorem ts1Ok : (ts1.all (scalB Tryz.prog)) = true := by kernel_rfl
section
variable {Z : Post} {ks : List Fr} {N : Nat} {D : List Deferred} {sl sl' : Sl} {W w : World} {F : Snap} {cs : List Res} {ops : Array Oper} {rest r' : List Oper} {C : World → Prop} {Q : Act → Prop} {S : Nat → Bool} {eff : Nat → Bool} {p' : Prop} {L L' : Array Bool} {k k' n' n : Nat} {l : List Nat}
theorem cn {n : Nat} {f : Func} (h : Tryz.prog.funcs[n]? = some f) (h1 : (f.name == "runtime.NumGoroutine") = false := by kernel_rfl) (h2 : f.body.isNone = false := by rfl) : Can Tryz.prog n := ⟨f, h, h1, h2⟩
theorem H1 (h : St W F cs w) (is : List Nat) (n : Nat) (he : evL tb ts1 ops N cs n is True sl rest = some (sl', r', p')) (k : WL Tryz.prog ops Z ks N D sl' r' w) (hp : p' := by repeat' constructor) : WL Tryz.prog ops Z ks N D sl rest w := (WL.evL_ tbOk ts1Ok h n he hp).2 k
theorem M2 (n : Nat) (h : ev tb ops N n sl rest = some (sl', r')) (k : WQ Tryz.prog ops C Q N D sl' r') : WQ Tryz.prog ops C Q N D sl rest := WQ.ev_ tbOk n h k
theorem K5 (is : List Nat) (n : Nat) (he : evL tb ts1 ops N cs n is True sl rest = some (sl', r', p')) (k : WQ Tryz.prog ops (St W F cs) Q N D sl' r') (hp : p' := by repeat' constructor) : WQ Tryz.prog ops (St W F cs) Q N D sl rest := (WQ.evL_ tbOk ts1Ok (fun _ h => h) n he hp).2 k
theorem L3 (hs : Region.noSelect ops = true) (js : List Nat) (he : evE tb ops N js sl L n = some (sl', L', n')) (k : WE Tryz.prog ops Z ks N D S C sl' L' n' w) (hc : chkE ops S js L = true := by kernel_rfl) : WE Tryz.prog ops Z ks N D S C sl L n w := WE.ev_ tbOk hs js hc he k
theorem J4 (hs : Region.noSelect ops = true) (fl : Nat) (ls js is : List Nat) (he : evEL tb ts1 ops N cs ls js is True sl L n = some (sl', L', n', p')) (k : WE Tryz.prog ops Z ks N D (fun s => l.any (Nat.beq s)) (St W F cs) sl' L' n' w) (hc : chkL ops l fl ls js L = true := by kernel_rfl) (hp : p' := by repeat' constructor) : WE Tryz.prog ops Z ks N D (fun s => l.any (Nat.beq s)) (St W F cs) sl L n w := (WE.evL_ tbOk ts1Ok hs fl js hc he hp).2 k
theorem K4 (hx : Lx ops) (n : Nat) (he : evM tb ops N eff n sl k = some (sl', k')) (kk : WM Tryz.prog ops Z ks N D C eff sl' k') : WM Tryz.prog ops Z ks N D C eff sl k := WM.ev_ tbOk hx n he kk
end
theorem C0 {Z : Post} {ks : List Fr} {N : Nat} {D : List Deferred} {sl sl' : Sl} {w : World} {ops : Array Oper} {rest r' : List Oper} (n : Nat) (h : ev tb ops N n sl rest = some (sl', r')) (k : WL Tryz.prog ops Z ks N D sl' r' w) : WL Tryz.prog ops Z ks N D sl rest w := WL.ev_ tbOk n h k
end B
end Go.Proofs.YtifdpllfbaogcaaGreat
namespace Go.Proofs.YtifdpllfbaogcaaGreat
open Go Go.RowKit B Tryz
variable {W : World} {F : Snap}
namespace Dg
theorem mixed : prog.follows .mixedOrders = true := by kernel_rfl
theorem inf3 : Inf prog 3 (.int .i64 0) 1 8 := by unfold Inf; kernel_rfl
abbrev Vi (n : Int) : Value := .int .i64 n
structure E where
 st : Int
 kd : Int
deriving DecidableEq
structure S where
 rk : Int
 per : Int
 ds : Int
 lim : Int
 af : List E
deriving DecidableEq
def E0 : E := ⟨0, 0⟩
def S0 : S := ⟨0, 0, 0, 0, []⟩
def E.cs (e : E) : List Value := [Vi e.st, Vi e.kd]
def KE : Kd E := Kd.rows 2 E.cs (fun _ => rfl)
def S.cs (s : S) (A : Option Addr) (cap : Nat) : List Value := [Vi s.rk, Vi s.per, Vi s.ds, Vi s.lim, .slice A s.af.length cap]
def KS : Kd S := ⟨5, fun F s c => ∃ A cap, c = s.cs A cap ∧ RdS KE F A s.af, fun ⟨_, _, h, _⟩ => by rw [h]; rfl, fun hle ⟨A, cap, h, h2⟩ => ⟨A, cap, h, h2.mono hle⟩⟩
def inB (n a b : Int) : Bool := decide (a ≤ n ∧ n ≤ b)
theorem in_dec (n a b : Int) : inB n a b = (decide (n ≥ a) && decide (n ≤ b)) := by
 unfold inB
 by_cases h1 : a ≤ n <;> by_cases h2 : n ≤ b <;> simp [h1, h2]
theorem Runs.stepA {cs : List Res} {P : Program} {sl : Sl} {w : World} {t T : TypeId} {x : Operand} {zv : Value} {bytes n cap' : Nat} {d : TypeDesc} {ad : Addr} {A' : Option Addr} {s : S} (h : St W F cs w) (hr : ∀ j v, (s.cs A' cap')[j]? = some v → cellF F (ad.add (n * 5 + j)) = some v) (hu : P.underlying T = some d) (hs : scal d = false) (hT : Inf P T zv 5 bytes)
  (hx : evs sl x = some (.pointer (some (ad.add (n * 5))))) : Runs P sl (.load T x) t w (.agg #[Vi s.rk, Vi s.per, Vi s.ds, Vi s.lim, .slice A' s.af.length cap']) := by
 obtain ⟨ti, h1, _, h3, _⟩ := hT.get
 refine Q5 (vs := s.cs A' cap') hu hs h1 (by rw [h3]; rfl) hx (fun j v hj => ?_)
 rw [add_add]
 exact h.cell (hr j v hj)
theorem R5 {cs : List Res} {P : Program} {sl : Sl} {w : World} {t T : TypeId} {x : Operand} {zv : Value} {bytes n : Nat} {d : TypeDesc} {A : Option Addr} {ad : Addr} {es : List E} (h : St W F cs w) (hR : RdS KE F A es) (hA : A = some ad) (hn : n < es.length) (hu : P.underlying T = some d) (hs : scal d = false) (hT : Inf P T zv 2 bytes)
  (hx : evs sl x = some (.pointer (some (ad.add (n * 2))))) : Runs P sl (.load T x) t w (.agg #[Vi (es.getD n E0).st, Vi (es.getD n E0).kd]) := Runs.loadRows E0 h hR hA hn hu hs hT hx
theorem mem_getD {xs : List Int} {i : Nat} (h : i < xs.length) : xs.getD i 0 ∈ xs := by
 rw [gD, gE h]; exact List.getElem_mem h
theorem in_c {cs : List Res} (w : World) (n a b : Int) (h : St W F cs w) : Calls prog 94 #[Vi n, Vi a, Vi b] w fun r w' => r = .returned (.bool (inB n a b)) ∧ St W F cs w'  := by
 refine enter (args := [Vi n, Vi a, Vi b]) func94 rfl rfl rfl<|Wi<|C0 1 rfl<|J0 (H0 (N0 ?_))
 by_cases h0 : n ≥ a
 ·refine L0<|C0 2 rfl<|I0 (Bt (T1 rfl rfl) (dA h0)) rfl<|C0 6 rfl<|Wg<|ret1 rfl rfl ⟨?_, h⟩
  rw [in_dec, dA h0]; rfl
 refine L0<|C0 2 rfl<|I0 (Bf (T1 rfl rfl) (dN h0)) rfl<|C0 6 rfl<|Wg<|ret1 rfl rfl ⟨?_, h⟩
 rw [in_dec, dN h0]; rfl
theorem index_c {cs : List Res} (w : World) {A : Option Addr} {cap : Nat} {xs : List Int} (x : Int) (h : St W F cs w) (hR : RdW W F cs Vi A xs) (hn : xs.length ≤ 100000) : Calls prog 85 #[.slice A xs.length cap, Vi x] w fun r w' => (∃ k : Int, r = .returned (Vi k) ∧ (decide (0 ≤ k) = decide (x ∈ xs))) ∧ St W F cs w'  := by
 refine enter (args := [.slice A xs.length cap, Vi x]) func85 rfl rfl rfl<|Wi<|C0 1 rfl<|Wh<|C0 1 rfl<|I0 (Y0 underlying33 rfl rfl) rfl<|C0 1 rfl<|Wj<|B3 (σ := Nat) (fun q_ => [(0, .slice A xs.length cap), (1, Vi x), (7, .int .i64 (xs.length : Int)), (8, .int .i64 (q_ : Int))]) (fun q_ w => q_ ≤ xs.length ∧ (∀ j, j < q_ → xs.getD j 0 ≠ x) ∧ St W F cs w) (fun q_ => xs.length - q_) (0) (⟨Nat.zero_le _, fun j hj => absurd hj (Nat.not_lt_zero _), h⟩) ?_
 rintro i w1 ⟨hi, hno, hL⟩
 try dsimp only at hi hno hL
 refine W2 [(0, .slice A xs.length cap), (1, Vi x), (7, .int .i64 (xs.length : Int)), (8, .int .i64 (i : Int))]<|Wi<|C0 1 rfl<|Wb<|Z0 rfl (fun c2 => ?_) (fun c2 => ?_)
 ·try simp only [DD] at c2
  refine U0<|H0<|N0<|M1<|Wi<|C0 2 rfl<|J0 (H0 (N0 ?_))
  obtain ⟨ad, rfl, hrd⟩ := hR.at1 (by omega)
  refine L0<|C0 3 rfl<|I0 (W0 underlying33 inf3 rfl rfl (n := i) rfl (by omega)) rfl<|I0 (K0 underlying3 rfl rfl (hrd _ hL i 0 (by omega))) rfl<|C0 1 rfl<|Wa<|Z0 rfl (fun c3 => ?_) (fun c3 => ?_)
  ·try simp only [DD] at c3
   refine Wi<|C0 2 rfl<|Wg<|ret1 rfl rfl ⟨⟨_, rfl, ?_⟩, hL⟩
   rw [dA (Int.natCast_nonneg i), eq_comm, decide_eq_true_eq, c3]
   exact mem_getD (by omega)
  try simp only [DD] at c3
  refine U0<|N1<|H0<|L0<|I0 (V0 rfl rfl (by omega)) rfl<|C0 1 rfl<|J0<|F1 (i + 1) (by omega) ⟨rfl, rfl, rfl, rfl, trivial⟩ ⟨by omega, fun j hj => (by
   by_cases e : j = i
   ·subst e; exact fun e2 => c3 e2.symm
   exact hno j (by omega)), hL⟩
 try simp only [DD] at c2
 refine U1<|B2<|WX.cut<|E2<|H0<|Wi<|C0 1 rfl<|Wg<|ret1 rfl rfl ⟨⟨_, rfl, ?_⟩, hL⟩
 rw [dN (by decide), eq_comm, decide_eq_false_iff_not]
 intro hm
 obtain ⟨j, hj, rfl⟩ := List.getElem_of_mem hm
 refine hno j (by omega) ?_
 rw [gD, gE hj]; rfl
theorem contains_c {cs : List Res} (w : World) {A : Option Addr} {cap : Nat} {xs : List Int} (x : Int) (h : St W F cs w) (hR : RdW W F cs Vi A xs) (hn : xs.length ≤ 100000) : Calls prog 40 #[.slice A xs.length cap, Vi x] w fun r w' => r = .returned (.bool (decide (x ∈ xs))) ∧ St W F cs w'  := by
 refine enter (args := [.slice A xs.length cap, Vi x]) func40 rfl rfl rfl<|Wi<|C0 1 rfl<|We<|C0 2 rfl<|V1 (cn func85) rfl rfl (index_c _ x h hR hn) ?_
 rintro _ w1 ⟨⟨k, rfl, hk⟩, h1⟩
 refine ⟨_, rfl,C0 2 rfl<|Wg<|ret1 rfl rfl ⟨by rw [← hk], h1⟩⟩
end Dg
section
variable {cs : List Res}
namespace Dg
theorem inf115 : Inf prog 115 (.agg #[.int .i64 0, .int .i64 0]) 2 16 := by unfold Inf; kernel_rfl
theorem fld68_0 : fldB prog 68 0 0 = true := by kernel_rfl
theorem fld68_1 : fldB prog 68 1 1 = true := by kernel_rfl
theorem fld68_2 : fldB prog 68 2 2 = true := by kernel_rfl
theorem fld68_3 : fldB prog 68 3 3 = true := by kernel_rfl
theorem fld68_4 : fldB prog 68 4 4 = true := by kernel_rfl
theorem five (a b c d : Bool) : a = false ∨ (a = true ∧ b = false) ∨ (a = true ∧ b = true ∧ c = false) ∨ (a = true ∧ b = true ∧ c = true ∧ d = false) ∨ (a = true ∧ b = true ∧ c = true ∧ d = true) := by
 cases a <;> cases b <;> cases c <;> cases d <;> simp
def okE (a : Int) (n : Nat) (af : List E) (k : Nat) : Prop := inB (af.getD k E0).st 0 ((n : Int) - 1) = true ∧ inB (af.getD k E0).kd 0 2 = true ∧ (af.getD k E0).st ∉ a :: (af.take k).map E.st
instance (a : Int) (n : Nat) (af : List E) (k : Nat) : Decidable (okE a n af k) := inferInstanceAs (Decidable (_ ∧ _ ∧ _))
def okS (s : S) (a : Int) (n : Nat) : Prop := (inB s.rk 1 32 = true ∧ inB s.per 1 256 = true ∧ inB s.ds 0 1 = true ∧ inB s.lim 1 1073741824 = true) ∧ ∀ k, k < s.af.length → okE a n s.af k
instance (s : S) (a : Int) (n : Nat) : Decidable (okS s a n) := inferInstanceAs (Decidable ((_ ∧ _ ∧ _ ∧ _) ∧ _))
theorem take_st {af : List E} {k : Nat} (a : Int) (h : k < af.length) : (a :: (af.take k).map E.st) ++ [(af.getD k E0).st] = a :: (af.take (k + 1)).map E.st := by
 have e : af.take (k + 1) = af.take k ++ [af.getD k E0] := by rw [List.take_add_one, gE h, gD, gE h]; rfl
 rw [e, List.map_append]; rfl
theorem len_sub {α : Type} [DecidableEq α] : ∀ {l m : List α}, l.Nodup → (∀ a ∈ l, a ∈ m) → l.length ≤ m.length
 |[], _, _, _ => Nat.zero_le _
 |a :: l, m, hn, hs => by
  have hn' := List.nodup_cons.1 hn
  have h1 := len_sub (l := l) (m := m.erase a) hn'.2 (fun b hb => (List.mem_erase_of_ne (fun (e : b = a) => hn'.1 (e ▸ hb))).2 (hs b (List.mem_cons_of_mem _ hb)))
  have h2 := List.length_erase_of_mem (hs a List.mem_cons_self)
  have h3 := List.length_pos_of_mem (hs a List.mem_cons_self)
  simp only [List.length_cons]
  omega
theorem okE_nd {a : Int} {n : Nat} {af : List E} : ∀ k, k ≤ af.length → (∀ j, j < k → okE a n af j) → ((af.take k).map E.st).Nodup ∧ ∀ x ∈ (af.take k).map E.st, x ∈ (List.range n).map Int.ofNat
 |0, _, _ => ⟨by simp, fun x hx => by simp at hx⟩
 |k + 1, hk, h => by
  have ih := okE_nd k (by omega) (fun j hj => h j (by omega))
  obtain ⟨h1, _, h3⟩ := h k (by omega)
  have e : (af.take (k + 1)).map E.st = (af.take k).map E.st ++ [(af.getD k E0).st] := by
   have := take_st a (af := af) (k := k) (by omega)
   rw [List.cons_append] at this
   exact (List.cons.inj this).2.symm
  have hb := of_decide_eq_true (show decide (0 ≤ (af.getD k E0).st ∧ (af.getD k E0).st ≤ (n : Int) - 1) = true from h1)
  rw [e]
  refine ⟨List.nodup_append.2 ⟨ih.1, by simp, fun x hx y hy e2 => h3 ?_⟩, fun x hx => ?_⟩
  ·have hy := List.mem_singleton.1 hy
   rw [← hy, ← e2]
   exact List.mem_cons_of_mem _ hx
  rcases List.mem_append.1 hx with hx | hx
  ·exact ih.2 x hx
  obtain rfl := List.mem_singleton.1 hx
  exact List.mem_map.2 ⟨(af.getD k E0).st.toNat, List.mem_range.2 (by omega), Int.toNat_of_nonneg hb.1⟩
theorem okE_few {a : Int} {n : Nat} {af : List E} {k : Nat} (hk : k ≤ af.length) (h : ∀ j, j < k → okE a n af j) : k ≤ n := by
 have h1 := okE_nd k hk h
 have h2 := len_sub h1.1 h1.2
 rw [List.length_map, List.length_map, List.length_range, List.length_take] at h2
 omega
theorem okS_few {s : S} {a : Int} {n : Nat} (h : okS s a n) : s.af.length ≤ n := okE_few (Nat.le_refl _) h.2
theorem three (a b : Bool) (P : Prop) : a = false ∨ (a = true ∧ b = false) ∨ (a = true ∧ b = true ∧ P) ∨ (a = true ∧ b = true ∧ ¬ P) := by
 by_cases h : P <;> cases a <;> cases b <;> simp [h]
theorem step_c (w : World) {A : Option Addr} {cap : Nat} (s : S) (a : Int) (n : Nat) (h : St W F cs w) (hR : RdS KE F A s.af) (hn : n ≤ 1000) (ha : s.af.length ≤ 9223372036854775807) : Calls prog 95 #[.agg #[Vi s.rk, Vi s.per, Vi s.ds, Vi s.lim, .slice A s.af.length cap], Vi a, Vi (n : Nat)] w fun r w' => r = .returned (.bool (decide (okS s a n))) ∧ St W F cs w'  := by
 refine enter (args := [.agg #[Vi s.rk, Vi s.per, Vi s.ds, Vi s.lim, .slice A s.af.length cap], Vi a, Vi (n : Nat)]) func95 rfl rfl rfl<|Wi<|J3 rfl h rfl fun b3 w1 h1=>C0 1 rfl<|J0 (H0 (N0 (N0 ?_)))
 rcases five (inB s.rk 1 32) (inB s.per 1 256) (inB s.ds 0 1) (inB s.lim 1 1073741824) with n0 | ⟨y0, n1⟩ | ⟨y0, y1, n2⟩ | ⟨y0, y1, y2, n3⟩ | ⟨y0, y1, y2, y3⟩
 ·refine L0<|H1 h1 [0] 2 rfl<|C1 (cn func94) rfl rfl (in_c _ s.rk 1 32 h1) fun w2 h2 =>I0 (Bt (R1 rfl) (by rw [n0]; rfl)) rfl<|C0 18 rfl<|Wa<|J1 rfl (rfl)<|Wi<|C0 1 rfl<|Wg<|ret1 rfl rfl ⟨?_, h2.drop 0⟩
  rw [dN]
  intro hh
  obtain ⟨⟨g0, g1, g2, g3⟩, _⟩ := hh
  rw [n0] at g0
  cases g0
 ·refine L0<|H1 h1 [0] 2 rfl<|C1 (cn func94) rfl rfl (in_c _ s.rk 1 32 h1) fun w3 h3 =>I0 (Bf (R1 rfl) (by rw [y0]; rfl)) rfl<|H1 h3 [0] 3 rfl<|Q0 rfl<|C1 (cn func94) rfl rfl (in_c _ s.per 1 256 h3) fun w4 h4 =>Q0 rfl<|I0 (Bt (R1 rfl) (by rw [n1]; rfl)) rfl<|C0 13 rfl<|Wa<|J1 rfl (rfl)<|Wi<|C0 1 rfl<|Wg<|ret1 rfl rfl ⟨?_, h4.drop 0⟩
  rw [dN]
  intro hh
  obtain ⟨⟨g0, g1, g2, g3⟩, _⟩ := hh
  rw [n1] at g1
  cases g1
 ·refine L0<|H1 h1 [0] 2 rfl<|C1 (cn func94) rfl rfl (in_c _ s.rk 1 32 h1) fun w5 h5 =>I0 (Bf (R1 rfl) (by rw [y0]; rfl)) rfl<|H1 h5 [0] 3 rfl<|Q0 rfl<|C1 (cn func94) rfl rfl (in_c _ s.per 1 256 h5) fun w6 h6 =>Q0 rfl<|I0 (Bf (R1 rfl) (by rw [y1]; rfl)) rfl<|H1 h6 [0] 4 rfl<|Q0 rfl<|C1 (cn func94) rfl rfl (in_c _ s.ds 0 1 h6) fun w7 h7 =>Q0 rfl<|I0 (Bt (R1 rfl) (by rw [n2]; rfl)) rfl<|C0 7 rfl<|Wa<|J1 rfl (rfl)<|Wi<|C0 1 rfl<|Wg<|ret1 rfl rfl ⟨?_, h7.drop 0⟩
  rw [dN]
  intro hh
  obtain ⟨⟨g0, g1, g2, g3⟩, _⟩ := hh
  rw [n2] at g2
  cases g2
 ·refine L0<|H1 h1 [0] 2 rfl<|C1 (cn func94) rfl rfl (in_c _ s.rk 1 32 h1) fun w8 h8 =>I0 (Bf (R1 rfl) (by rw [y0]; rfl)) rfl<|H1 h8 [0] 3 rfl<|Q0 rfl<|C1 (cn func94) rfl rfl (in_c _ s.per 1 256 h8) fun w9 h9 =>Q0 rfl<|I0 (Bf (R1 rfl) (by rw [y1]; rfl)) rfl<|H1 h9 [0] 4 rfl<|Q0 rfl<|C1 (cn func94) rfl rfl (in_c _ s.ds 0 1 h9) fun w10 h10 =>Q0 rfl<|I0 (Bf (R1 rfl) (by rw [y2]; rfl)) rfl<|H1 h10 [0] 4 rfl<|Q0 rfl<|C1 (cn func94) rfl rfl (in_c _ s.lim 1 1073741824 h10) fun w11 h11 =>Q0 rfl<|I0 (Bt (R1 rfl) (by rw [n3]; rfl)) rfl<|C0 1 rfl<|Wa<|J1 rfl (rfl)<|Wi<|C0 1 rfl<|Wg<|ret1 rfl rfl ⟨?_, h11.drop 0⟩
  rw [dN]
  intro hh
  obtain ⟨⟨g0, g1, g2, g3⟩, _⟩ := hh
  rw [n3] at g3
  cases g3
 refine L0<|H1 h1 [0] 2 rfl<|C1 (cn func94) rfl rfl (in_c _ s.rk 1 32 h1) fun w12 h12 =>I0 (Bf (R1 rfl) (by rw [y0]; rfl)) rfl<|H1 h12 [0] 3 rfl<|Q0 rfl<|C1 (cn func94) rfl rfl (in_c _ s.per 1 256 h12) fun w13 h13 =>Q0 rfl<|I0 (Bf (R1 rfl) (by rw [y1]; rfl)) rfl<|H1 h13 [0] 4 rfl<|Q0 rfl<|C1 (cn func94) rfl rfl (in_c _ s.ds 0 1 h13) fun w14 h14 =>Q0 rfl<|I0 (Bf (R1 rfl) (by rw [y2]; rfl)) rfl<|H1 h14 [0] 4 rfl<|Q0 rfl<|C1 (cn func94) rfl rfl (in_c _ s.lim 1 1073741824 h14) fun w15 h15 =>Q0 rfl<|I0 (Bf (R1 rfl) (by rw [y3]; rfl)) rfl<|C0 1 rfl<|Wa<|E1 rfl (rfl)<|Wk<|C0 1 rfl<|X2 (vs := (([a] : List Int)).map Vi) h15 rfl underlying33 inf3 rfl rfl rfl rfl rfl fun lit33 w16 h16=>C0 1 rfl<|Wh<|H1 h16 [1] 2 rfl<|I0 (R0 (n := (s.af.length : Int)) (Y0 underlying66 rfl rfl) rfl) rfl<|C0 1 rfl<|Wj<|B3 (σ := Nat × Res × Value) (fun q_ => [(1, Vi a), (2, Vi (n : Nat)), (3, pz b3), (7, q_.2.2), (35, .slice A s.af.length cap), (36, .int .i64 (s.af.length : Int)), (37, .int .i64 (q_.1 : Int))]) (fun q_ w => q_.1 ≤ s.af.length ∧ (∀ j, j < q_.1 → okE a n s.af j) ∧ Row 3 Vi q_.2.1 q_.2.2 (a :: (s.af.take q_.1).map E.st) ∧ St W F (q_.2.1 :: [(b3, .cells #[Vi s.rk, Vi s.per, Vi s.ds, Vi s.lim, .slice A s.af.length cap] 68 (0, 0))] :: cs) w) (fun q_ => s.af.length - q_.1) (⟨0, _, _⟩) (⟨Nat.zero_le _, fun j hj => absurd hj (Nat.not_lt_zero _), Row.lit (xs := [a]) rfl, h16⟩) ?_
 rintro ⟨k, r, v⟩ w17 ⟨hk, hok, hro, hL⟩
 try dsimp only at hk hok hro hL
 refine W2 [(1, Vi a), (2, Vi (n : Nat)), (3, pz b3), (7, v), (35, .slice A s.af.length cap), (36, .int .i64 (s.af.length : Int)), (37, .int .i64 (k : Int))] ?_
 obtain ⟨B, capr, rfl, hcap⟩ := hro.val
 have hkn := okE_few hk hok
 refine Wi<|C0 1 rfl<|Wb<|Z0 rfl (fun c18 => ?_) (fun c18 => ?_)
 ·try simp only [DD] at c18
  refine U0 (H0 (N0 (M1 (N0 ?_))))
  have hk2 : k < s.af.length := by omega
  obtain ⟨ae, rfl⟩ := rdA hR (by omega)
  refine L0<|I0 (N2 underlying66 inf115 rfl rfl (n := k) rfl (by omega)) rfl<|I0 (R5 hL hR rfl (by omega) underlying115 rfl inf115 rfl) rfl<|O2 rfl hL inf115 fun b9 w19 h19=>F4 h19 0 rfl rfl rfl inf115 rfl rfl rfl ?_
  intro  w20 h20
  try simp only [ZZ] at h20
  refine J0 (H0 (N0 (N0 ?_)))
  rcases three (inB (s.af.getD k E0).st 0 ((n : Int) - 1)) (inB (s.af.getD k E0).kd 0 2) ((s.af.getD k E0).st ∈ a :: (s.af.take k).map E.st) with n0 | ⟨z0, n1⟩ | ⟨z0, z1, n2⟩ | ⟨z0, z1, z2⟩
  ·refine L0<|H1 h20 [0] 3 rfl<|I0 (N3 rfl rfl (by omega)) rfl<|C1 (cn func94) rfl rfl (in_c _ (s.af.getD k E0).st 0 ((n : Int) - 1) h20) fun w21 h21 =>I0 (Bt (R1 rfl) (by rw [n0]; rfl)) rfl<|C0 12 rfl<|Wa<|J1 rfl (rfl)<|Wi<|C0 1 rfl<|Wg<|ret1 rfl rfl ⟨?_, ((h21.drop 0).drop 0).drop 0⟩
   rw [dN]
   intro hh
   obtain ⟨g0, g1, g2⟩ := hh.2 k hk2
   rw [n0] at g0; cases g0
  ·refine L0<|H1 h20 [0] 3 rfl<|I0 (N3 rfl rfl (by omega)) rfl<|C1 (cn func94) rfl rfl (in_c _ (s.af.getD k E0).st 0 ((n : Int) - 1) h20) fun w22 h22 =>I0 (Bf (R1 rfl) (by rw [z0]; rfl)) rfl<|H1 h22 [0] 3 rfl<|Q0 rfl<|C1 (cn func94) rfl rfl (in_c _ (s.af.getD k E0).kd 0 2 h22) fun w23 h23 =>Q0 rfl<|I0 (Bt (R1 rfl) (by rw [n1]; rfl)) rfl<|C0 7 rfl<|Wa<|J1 rfl (rfl)<|Wi<|C0 1 rfl<|Wg<|ret1 rfl rfl ⟨?_, ((h23.drop 0).drop 0).drop 0⟩
   rw [dN]
   intro hh
   obtain ⟨g0, g1, g2⟩ := hh.2 k hk2
   rw [n1] at g1; cases g1
  ·refine L0<|H1 h20 [0] 3 rfl<|I0 (N3 rfl rfl (by omega)) rfl<|C1 (cn func94) rfl rfl (in_c _ (s.af.getD k E0).st 0 ((n : Int) - 1) h20) fun w24 h24 =>I0 (Bf (R1 rfl) (by rw [z0]; rfl)) rfl<|H1 h24 [0] 3 rfl<|Q0 rfl<|C1 (cn func94) rfl rfl (in_c _ (s.af.getD k E0).kd 0 2 h24) fun w25 h25 =>Q0 rfl<|I0 (Bf (R1 rfl) (by rw [z1]; rfl)) rfl<|H1 h25 [0] 5 rfl<|Q0 rfl<|C1 (cn func40) rfl rfl (contains_c _ (s.af.getD k E0).st h25 (RdW.row hro (i := 1) rfl rfl h25) (by rw [List.length_cons, List.length_map, List.length_take]; omega)) fun w26 h26 =>C0 1 rfl<|Wa<|J1 rfl ((by rw [dA n2]))<|Wi<|C0 1 rfl<|Wg<|ret1 rfl rfl ⟨?_, ((h26.drop 0).drop 0).drop 0⟩
   rw [dN]
   intro hh
   obtain ⟨g0, g1, g2⟩ := hh.2 k hk2
   exact g2 n2
  refine L0<|H1 h20 [0] 3 rfl<|I0 (N3 rfl rfl (by omega)) rfl<|C1 (cn func94) rfl rfl (in_c _ (s.af.getD k E0).st 0 ((n : Int) - 1) h20) fun w27 h27 =>I0 (Bf (R1 rfl) (by rw [z0]; rfl)) rfl<|H1 h27 [0] 3 rfl<|Q0 rfl<|C1 (cn func94) rfl rfl (in_c _ (s.af.getD k E0).kd 0 2 h27) fun w28 h28 =>Q0 rfl<|I0 (Bf (R1 rfl) (by rw [z1]; rfl)) rfl<|H1 h28 [0] 5 rfl<|Q0 rfl<|C1 (cn func40) rfl rfl (contains_c _ (s.af.getD k E0).st h28 (RdW.row hro (i := 1) rfl rfl h28) (by rw [List.length_cons, List.length_map, List.length_take]; omega)) fun w29 h29 =>C0 1 rfl<|Wa<|E1 rfl ((by rw [dN z2]))<|U0<|H0<|L0<|H1 h29 [0] 3 rfl<|X2 (vs := (([(s.af.getD k E0).st] : List Int)).map Vi) h29 rfl underlying33 inf3 rfl rfl rfl rfl rfl fun lit62 w30 h30=>I3 (ys := ([(s.af.getD k E0).st] : List Int)) 2 h30 rfl rfl rfl rfl underlying33 underlying33 (.inr ⟨_, rfl⟩) inf3 rfl hro (Src.lit h30 0 rfl rfl rfl) rfl rfl (by first | omega | (simp []; done) | (simp []; omega)) (by first | omega | (simp []; done) | (simp []; omega)) ?_
  intro r31 v31 w32 hr31 h32
  simp only [lz, ls] at h32
  replace h32 := h32.drop 0
  simp only [ez, es'] at h32
  refine C0 1 rfl<|J0<|N1<|H0<|L0<|I0 (V0 rfl rfl (by omega)) rfl<|C0 1 rfl<|J0 ?_
  have h9_ := hr31
  rw [take_st a hk2] at h9_
  exact F1 (⟨k + 1, _, _⟩ : Nat × Res × Value) (by show s.af.length - (k + 1) < s.af.length - k; omega) ⟨rfl, rfl, rfl, rfl, rfl, rfl, rfl, trivial⟩ ⟨by show k + 1 ≤ _; omega, fun j hj => (by
   have hj : j < k + 1 := hj
   by_cases e : j = k
   ·subst e; exact ⟨z0, z1, z2⟩
   exact hok j (by omega)), h9_, h32.drop 0⟩
 try simp only [DD] at c18
 refine U1<|B2<|WX.cut<|E2<|H0<|Wi<|C0 1 rfl<|Wg<|ret1 rfl rfl ⟨?_, (hL.drop 0).drop 0⟩
 rw [dA]
 exact ⟨⟨y0, y1, y2, y3⟩, fun j hj => hok j (by omega)⟩
theorem WC.label {P : Program} {Z : Post} {ks : List Fr} {N : Nat} {D : List Deferred} {sl : Sl} {w : World} {l : Nat} (h : WN P Z ks N D sl w) : WC P Z ks N D sl (.label l) w := fun a ha => wp_label (h a ha)
def okAt (l : List S) (out : List Int) (i : Nat) : Prop := (i : Int) ∉ out ∧ ∀ k, k < (l.getD i S0).af.length → ((l.getD i S0).af.getD k E0).st ∈ out
instance (l : List S) (out : List Int) (i : Nat) : Decidable (okAt l out i) := inferInstanceAs (Decidable (_ ∧ _))
def nextM (l : List S) (out : List Int) : Option Nat := (List.range l.length).find? fun i => decide (okAt l out i)
theorem nextM_some {l : List S} {out : List Int} {i : Nat} (hi : i < l.length) (h : okAt l out i) (hb : ∀ j, j < i → ¬ okAt l out j) : nextM l out = some i := by
 unfold nextM
 rw [List.find?_range_eq_some]
 refine ⟨dA h, List.mem_range.2 hi, fun j hj => ?_⟩
 rw [dN (hb j hj)]; rfl
theorem nextM_none {l : List S} {out : List Int} (hb : ∀ j, j < l.length → ¬ okAt l out j) : nextM l out = none := by
 unfold nextM
 rw [List.find?_range_eq_none]
 intro j hj
 rw [dN (hb j hj)]; rfl
theorem nextM_spec {l : List S} {out : List Int} {i : Nat} (h : nextM l out = some i) : i < l.length ∧ okAt l out i := by
 unfold nextM at h
 rw [List.find?_range_eq_some] at h
 exact ⟨List.mem_range.1 h.2.1, of_decide_eq_true h.1⟩
def cnt (out : List Int) : Nat → Nat
 |0 => 0
 |n + 1 => cnt out n + if (n : Int) ∈ out then 0 else 1
theorem cnt_nil (n : Nat) : cnt [] n = n := by
 induction n with
 |zero => rfl
 |succ n ih => rw [cnt, ih]; simp
theorem cnt_add {out : List Int} {i : Nat} (hi : (i : Int) ∉ out) : ∀ n, cnt (out ++ [(i : Int)]) n + (if i < n then 1 else 0) = cnt out n := by
 intro n
 induction n with
 |zero => simp [cnt]
 |succ n ih =>
  rw [cnt, cnt]
  by_cases e : n = i
  ·subst e
   rw [if_neg (Nat.lt_irrefl _)] at ih
   rw [if_pos (by simp), if_neg hi, if_pos (by omega)]
   omega
  have h1 : ((n : Int) ∈ out ++ [(i : Int)]) ↔ (n : Int) ∈ out := by
   rw [List.mem_append, List.mem_singleton]
   constructor
   ·rintro (h | h)
    ·exact h
    exact absurd (Int.ofNat.inj h) e
   exact .inl
  have h2 : (if i < n + 1 then 1 else 0) = (if i < n then 1 else 0) := by
   by_cases h : i < n
   ·rw [if_pos h, if_pos (by omega)]
   rw [if_neg h, if_neg (by omega)]
  simp only [h1, h2]
  omega
theorem cnt_zero {out : List Int} : ∀ {n : Nat}, cnt out n = 0 → ∀ j, j < n → (j : Int) ∈ out := by
 intro n
 induction n with
 |zero => intro _ j hj; omega
 |succ n ih =>
  intro h j hj
  rw [cnt] at h
  by_cases e : (n : Int) ∈ out
  ·by_cases e2 : j = n
   ·subst e2; exact e
   exact ih (by omega) j (by omega)
  rw [if_neg e] at h; omega
def ordF (l : List S) : Nat → List Int → List Int
 |0, out => out
 |n + 1, out => match nextM l out with
  |none => out
  |some i => ordF l n (out ++ [(i : Int)])
def ordM (l : List S) : List Int := ordF l l.length []
theorem ordF_none {l : List S} {n : Nat} {out : List Int} (h : nextM l out = none) : ordF l n out = out := by
 cases n with
 |zero => rfl
 |succ n => rw [ordF, h]
theorem ordF_some {l : List S} {n i : Nat} {out : List Int} (hc : cnt out l.length = n) (h : nextM l out = some i) : 0 < n ∧ ordF l n out = ordF l (n - 1) (out ++ [(i : Int)]) ∧ cnt (out ++ [(i : Int)]) l.length = n - 1 := by
 have h1 := nextM_spec h
 have h2 := cnt_add h1.2.1 l.length
 rw [if_pos h1.1] at h2
 have h3 : 0 < n := by omega
 obtain ⟨m, rfl⟩ : ∃ m, n = m + 1 := ⟨n - 1, by omega⟩
 refine ⟨h3, ?_, by omega⟩
 rw [ordF, h]; rfl
theorem inf68 : Inf prog 68 (.agg #[.int .i64 0, .int .i64 0, .int .i64 0, .int .i64 0, .slice none 0 0]) 5 56 := by unfold Inf; kernel_rfl
theorem den_goto {P : Program} {Z : Post} {l : Nat} {a : Act} {w : World} : ∀ (ks : List Fr), den P Z ks (.goto l) a w → Z (.goto l) a w
 |[], h => h
 |.thn _ :: ks, h => den_goto ks h
 |.blk _ :: ks, h => den_goto ks h
 |.cut _ :: ks, h => den_goto ks h
theorem WC.scope {P : Program} {Z : Post} {ks : List Fr} {N : Nat} {D : List Deferred} {sl : Sl} {w : World} {c : Code} (hz : ∀ l a w, Z (.goto l) a w → False) (h : WC P Z ks N D sl c w) : WC P Z ks N D sl (.scope c) w := fun a ha => by
 refine wp_scope_straight (wp_mono (h a ha) ?_)
 intro e a' w' hq
 cases e with
 |goto l => exact hz _ _ _ (den_goto ks hq)
 |normal => exact hq
 |exit id => exact hq
 |ret => exact hq
 |panic ch => exact hq
 |outgrown => exact hq
theorem stepAt {F : Snap} {n : Nat} {A : Option Addr} {xs : List S} (hR : RdS KS F A xs) (hn : n < xs.length) : ∃ ad A' cap', A = some ad ∧ RdS KE F A' (xs.getD n S0).af ∧ ∀ j v, ((xs.getD n S0).cs A' cap')[j]? = some v → cellF F (ad.add (n * 5 + j)) = some v := by
 obtain ⟨ad, c, hA, ⟨A', cap', hc, hE⟩, hr⟩ := hR.at_ (i := n) (x := xs.getD n S0) (by rw [gD, gE hn]; rfl)
 subst hc
 exact ⟨ad, A', cap', hA, hE, hr⟩
def fewE (l : List S) : Prop := ∀ i, i < l.length → (l.getD i S0).af.length ≤ 100000
theorem order_c (w : World) {A : Option Addr} {cap : Nat} {l : List S} (h : St W F cs w) (hR : RdS KS F A l) (hl : l.length ≤ 100000) (hf : fewE l) : Calls prog 96 #[.slice A l.length cap] w fun r w' => Gives W F cs Vi (ordM l) r w'  := by
 refine enter (args := [.slice A l.length cap]) func96 rfl rfl rfl<|Wi<|C0 1 rfl<|Wa<|WC.scope (fun _ _ _ h_ => h_)<|Wi<|C0 1 rfl<|Wb<|WC.label<|H0<|N0<|M1<|B3 (σ := Nat × List Int × Res × Value) (fun q_ => [(0, .slice A l.length cap), (3, q_.2.2.2)]) (fun q_ w => ordM l = ordF l q_.1 q_.2.1 ∧ cnt q_.2.1 l.length = q_.1 ∧ q_.2.1.length + q_.1 = l.length ∧ Row 3 Vi q_.2.2.1 q_.2.2.2 q_.2.1 ∧ St W F (q_.2.2.1 :: cs) w) (fun q_ => q_.1) (⟨l.length, [], [], .slice none 0 0⟩) (⟨rfl, cnt_nil _, Nat.zero_add _, Row.nil _ _, h.nilRes⟩) ?_
 rintro ⟨n, out, r, v⟩ w1 ⟨hm, hc, hlen, hro, hL⟩
 try dsimp only at hm hc hlen hro hL
 refine W2 [(0, .slice A l.length cap), (3, v)] ?_
 obtain ⟨B, capr, rfl, hcap⟩ := hro.val
 refine M1<|WC.scope (fun _ _ _ h_ => h_)<|N0<|WC.label<|H0<|N0<|Wi<|C0 1 rfl<|I0 (Y0 underlying34 rfl rfl) rfl<|C0 1 rfl<|Wj<|B3 (σ := Nat) (fun q_ => [(0, .slice A l.length cap), (3, .slice B out.length capr), (8, .slice A l.length cap), (9, .int .i64 (l.length : Int)), (10, .int .i64 (q_ : Int))]) (fun q_ w => q_ ≤ l.length ∧ (∀ j, j < q_ → ¬ okAt l out j) ∧ St W F (r :: cs) w) (fun q_ => l.length - q_) (0) (⟨Nat.zero_le _, fun j hj => absurd hj (Nat.not_lt_zero _), hL⟩) ?_
 rintro i w2 ⟨hi, hno, hL⟩
 try dsimp only at hi hno hL
 refine W2 [(0, .slice A l.length cap), (3, .slice B out.length capr), (8, .slice A l.length cap), (9, .int .i64 (l.length : Int)), (10, .int .i64 (i : Int))]<|Wi<|C0 1 rfl<|Wb<|Z0 rfl (fun c3 => ?_) (fun c3 => ?_)
 ·try simp only [DD] at c3
  refine U0 (H0 (N0 (M1 (N0 ?_))))
  have hi2 : i < l.length := by omega
  obtain ⟨ad, A1, cap1, rfl, hE, hcell⟩ := stepAt hR hi2
  have hf2 := hf i hi2
  refine L0<|C0 1 rfl<|I0 (N2 underlying34 inf68 rfl rfl (n := i) rfl (by omega)) rfl<|I0 (Runs.stepA (s := (l.getD i S0)) hL hcell underlying68 rfl inf68 rfl) rfl<|O2 rfl hL inf68 fun b5 w4 h4=>C0 1 rfl<|F4 h4 0 rfl rfl rfl inf68 rfl rfl rfl ?_
  intro  w5 h5
  try simp only [ZZ] at h5
  refine Wh<|C0 2 rfl<|C1 (cn func40) rfl rfl (contains_c _ (i : Int) h5 (RdW.row hro (i := 1) rfl rfl h5) (by omega)) fun w6 h6 =>Wa<|Z0 rfl (fun c7 => ?_) (fun c7 => ?_)
  ·try simp only [DD] at c7
   refine U1<|B2<|E2<|H0<|L0<|I0 (V0 rfl rfl (by omega)) rfl<|C0 1 rfl<|J0<|F1 (i + 1) (by omega) ⟨rfl, rfl, rfl, rfl, rfl, trivial⟩ ⟨by omega, fun j hj => (by
    by_cases e : j = i
    ·subst e; exact fun hh => hh.1 c7
    exact hno j (by omega)), (h6.drop 0)⟩
  try simp only [DD] at c7
  refine U0<|H0<|N0<|Wi<|H1 h6 [0] 2 rfl<|I0 (R0 (n := ((l.getD i S0).af.length : Int)) (Y0 underlying66 rfl rfl) rfl) rfl<|C0 1 rfl<|Wj<|B3 (σ := Nat) (fun q_ => [(0, .slice (some ad) l.length cap), (3, .slice B out.length capr), (4, .int .i64 (i : Int)), (8, .slice (some ad) l.length cap), (9, .int .i64 (l.length : Int)), (10, .int .i64 (i : Int)), (19, .slice A1 (l.getD i S0).af.length cap1), (20, .int .i64 ((l.getD i S0).af.length : Int)), (21, .int .i64 (q_ : Int))]) (fun q_ w => q_ ≤ (l.getD i S0).af.length ∧ (∀ j, j < q_ → ((l.getD i S0).af.getD j E0).st ∈ out) ∧ St W F ([(b5, .cells #[Vi (l.getD i S0).rk, Vi (l.getD i S0).per, Vi (l.getD i S0).ds, Vi (l.getD i S0).lim, .slice A1 (l.getD i S0).af.length cap1] 68 (0, 0))] :: r :: cs) w) (fun q_ => (l.getD i S0).af.length - q_) (0) (⟨Nat.zero_le _, fun j hj => absurd hj (Nat.not_lt_zero _), h6⟩) ?_
  rintro k w8 ⟨hk, hin, hL⟩
  try dsimp only at hk hin hL
  refine W2 [(0, .slice (some ad) l.length cap), (3, .slice B out.length capr), (4, .int .i64 (i : Int)), (8, .slice (some ad) l.length cap), (9, .int .i64 (l.length : Int)), (10, .int .i64 (i : Int)), (19, .slice A1 (l.getD i S0).af.length cap1), (20, .int .i64 ((l.getD i S0).af.length : Int)), (21, .int .i64 (k : Int))]<|Wi<|C0 1 rfl<|Wb<|Z0 rfl (fun c9 => ?_) (fun c9 => ?_)
  ·try simp only [DD] at c9
   refine U0 (H0 (N0 (M1 (N0 ?_))))
   have hk2 : k < (l.getD i S0).af.length := by omega
   obtain ⟨ae, rfl⟩ := rdA hE (by omega)
   refine L0<|I0 (N2 underlying66 inf115 rfl rfl (n := k) rfl (by omega)) rfl<|I0 (R5 hL hE rfl (by omega) underlying115 rfl inf115 rfl) rfl<|O2 rfl hL inf115 fun b7 w10 h10=>F4 h10 0 rfl rfl rfl inf115 rfl rfl rfl ?_
   intro  w11 h11
   try simp only [ZZ] at h11
   refine We<|H1 h11 [0] 3 rfl<|C1 (cn func40) rfl rfl (contains_c _ ((l.getD i S0).af.getD k E0).st h11 (RdW.row hro (i := 2) rfl rfl h11) (by omega)) fun w12 h12 =>C0 1 rfl<|Wa<|Z0 rfl (fun c13 => ?_) (fun c13 => ?_)
   ·try simp only [DD] at c13
    refine U1<|C6 rfl<|B2<|WX.cut<|C6 rfl<|B2<|E2<|H0<|L0<|I0 (V0 rfl rfl (by omega)) rfl<|C0 1 rfl<|J0<|F1 (i + 1) (by omega) ⟨rfl, rfl, rfl, rfl, rfl, trivial⟩ ⟨by omega, fun j hj => (by
     by_cases e : j = i
     ·subst e; exact fun hh => c13 (hh.2 k hk2)
     exact hno j (by omega)), ((h12.drop 0).drop 0)⟩
   try simp only [DD] at c13
   refine U0<|N1<|H0<|L0<|I0 (V0 rfl rfl (by omega)) rfl<|C0 1 rfl<|J0<|F1 (k + 1) (by omega) ⟨rfl, rfl, rfl, rfl, rfl, rfl, rfl, rfl, rfl, trivial⟩ ⟨by omega, fun j hj => (by
    by_cases e : j = k
    ·subst e; exact c13
    exact hin j (by omega)), h12.drop 0⟩
  try simp only [DD] at c9
  refine U1<|B2<|WX.cut<|E2<|H0<|Wi<|C0 2 rfl<|X2 (vs := (([(i : Int)] : List Int)).map Vi) hL rfl underlying33 inf3 rfl rfl rfl rfl rfl fun lit33 w14 h14=>I3 (ys := ([(i : Int)] : List Int)) 2 h14 rfl rfl rfl rfl underlying33 underlying33 (.inr ⟨_, rfl⟩) inf3 rfl hro (Src.lit h14 0 rfl rfl rfl) rfl rfl (by first | omega | (simp []; done) | (simp []; omega)) (by first | omega | (simp []; done) | (simp []; omega)) ?_
  intro r15 v15 w16 hr15 h16
  simp only [lz, ls] at h16
  replace h16 := h16.drop 0
  simp only [ez, es'] at h16
  refine C0 1 rfl<|Wa<|U1<|C6 rfl<|B2<|WX.cut<|C6 rfl<|B2 (E2 ?_)
  obtain ⟨g0, g1, g2⟩ := ordF_some hc (nextM_some hi2 ⟨c7, fun j hj => hin j (by omega)⟩ hno)
  exact F1 (⟨n - 1, out ++ [(i : Int)], r15, v15⟩ : Nat × List Int × Res × Value) (by show n - 1 < n; omega) ⟨rfl, rfl, trivial⟩ ⟨hm.trans g1, g2, by show (out ++ [_]).length + (n - 1) = _; rw [lA]; show out.length + 1 + (n - 1) = _; omega, hr15, (h16.drop 0)⟩
 try simp only [DD] at c3
 refine U1<|B2<|WX.cut<|E2<|H0<|U1<|C6 rfl<|WX.cut<|E2<|H0<|Wi<|C0 2 rfl<|J0 (H0 (O1 ?_))
 have e1 := nextM_none (l := l) (out := out) (fun j hj => hno j (by omega))
 have e2 : ordM l = out := hm.trans (ordF_none e1)
 exact ret1 rfl rfl (by rw [e2]; exact Row.gives hro hL)
def okAll (l : List S) : Prop := ∀ i, i < l.length → okS (l.getD i S0) i l.length
instance (l : List S) : Decidable (okAll l) := inferInstanceAs (Decidable (∀ i, i < l.length → okS (l.getD i S0) i l.length))
def chkM (l : List S) : Int := if l.length < 1 ∨ 16 < l.length then 1 else if ¬ okAll l then 1 else if (ordM l).length < l.length then 15 else 0
theorem inB_t {n a b : Int} (h : a ≤ n ∧ n ≤ b) : inB n a b = true := dA h
theorem inB_f {n a b : Int} (h : ¬ (a ≤ n ∧ n ≤ b)) : inB n a b = false := dN h
theorem checkB_c (w : World) {A : Option Addr} {cap : Nat} {l : List S} (h : St W F cs w) (hR : RdS KS F A l) (hl : l.length ≤ 9223372036854775807) (hf : ∀ i, i < l.length → (l.getD i S0).af.length ≤ 9223372036854775807) : Calls prog 54 #[.slice A l.length cap] w fun r w' => r = .returned (Vi (chkM l)) ∧ St W F cs w'  := by
 refine enter (args := [.slice A l.length cap]) func54 rfl rfl rfl<|Wi<|C0 1 rfl<|J0 (H0 (N0 (N0 ?_)))
 have hcase : (l.length < 1 ∨ 16 < l.length) ∨ (1 ≤ (l.length : Int) ∧ (l.length : Int) ≤ 16) := by omega
 rcases hcase with hb | hb
 ·refine L0<|C0 1 rfl<|I0 (R0 (n := (l.length : Int)) (Y0 underlying34 rfl rfl) rfl) rfl<|C1 (cn func94) rfl rfl (in_c _ (l.length : Int) 1 16 h) fun w1 h1 =>I0 (Bt (R1 rfl) (by rw [inB_f (by omega)]; rfl)) rfl<|Wa<|J1 rfl (rfl)<|Wi<|C0 1 rfl<|Wg<|ret1 rfl rfl ⟨?_, h1⟩
  unfold chkM
  rw [if_pos hb]
 refine L0<|C0 1 rfl<|I0 (R0 (n := (l.length : Int)) (Y0 underlying34 rfl rfl) rfl) rfl<|C1 (cn func94) rfl rfl (in_c _ (l.length : Int) 1 16 h) fun w2 h2 =>I0 (Bf (R1 rfl) (by rw [inB_t hb]; rfl)) rfl<|Wa<|E1 rfl (rfl)<|U0<|H0<|N0<|Wi<|C0 1 rfl<|I0 (Y0 underlying34 rfl rfl) rfl<|C0 1 rfl<|Wj<|B3 (σ := Nat) (fun q_ => [(0, .slice A l.length cap), (9, .slice A l.length cap), (10, .int .i64 (l.length : Int)), (11, .int .i64 (q_ : Int))]) (fun q_ w => q_ ≤ l.length ∧ (∀ j, j < q_ → okS (l.getD j S0) j l.length) ∧ St W F cs w) (fun q_ => l.length - q_) (0) (⟨Nat.zero_le _, fun j hj => absurd hj (Nat.not_lt_zero _), h2⟩) ?_
 rintro i w3 ⟨hi, hok, hL⟩
 try dsimp only at hi hok hL
 refine W2 [(0, .slice A l.length cap), (9, .slice A l.length cap), (10, .int .i64 (l.length : Int)), (11, .int .i64 (i : Int))]<|Wi<|C0 1 rfl<|Wb<|Z0 rfl (fun c4 => ?_) (fun c4 => ?_)
 ·try simp only [DD] at c4
  refine U0 (H0 (N0 (M1 (N0 ?_))))
  have hi2 : i < l.length := by omega
  obtain ⟨ad, A1, cap1, rfl, hE, hcell⟩ := stepAt hR hi2
  have hf2 := hf i hi2
  refine L0<|C0 1 rfl<|I0 (N2 underlying34 inf68 rfl rfl (n := i) rfl (by omega)) rfl<|I0 (Runs.stepA (s := (l.getD i S0)) hL hcell underlying68 rfl inf68 rfl) rfl<|O2 rfl hL inf68 fun b4 w5 h5=>C0 1 rfl<|F4 h5 0 rfl rfl rfl inf68 rfl rfl rfl ?_
  intro  w6 h6
  try simp only [ZZ] at h6
  refine We<|I0 (U2 h6 0 rfl underlying68 rfl inf68 rfl rfl) rfl<|C0 2 rfl<|I0 (Y0 underlying34 rfl rfl) rfl<|C1 (cn func95) rfl rfl (step_c _ (l.getD i S0) (i : Int) l.length h6 hE (by omega) hf2) fun w7 h7 =>C0 1 rfl<|Wa<|Z0 rfl (fun c8 => ?_) (fun c8 => ?_)
  ·try simp only [DD] at c8
   refine Wi<|C0 1 rfl<|Wg<|ret1 rfl rfl ⟨?_, h7.drop 0⟩
   unfold chkM
   rw [if_neg (by omega), if_pos (fun hh => c8 (hh i hi2))]
  try simp only [DD] at c8
  refine U0<|N1<|H0<|L0<|I0 (V0 rfl rfl (by omega)) rfl<|C0 1 rfl<|J0<|F1 (i + 1) (by omega) ⟨rfl, rfl, rfl, rfl, trivial⟩ ⟨by omega, fun j hj => (by
   by_cases e : j = i
   ·subst e; exact c8
   exact hok j (by omega)), h7.drop 0⟩
 try simp only [DD] at c4
 refine U1<|B2<|WX.cut<|E2<|H0<|N0<|Wi<|C0 1 rfl<|V1 (cn func96) rfl rfl (order_c _ hL hR (by omega) (fun j hj => by have := okS_few (hok j (by omega)); omega)) ?_
 rintro _ w9 ⟨G, A2, cap2, hG, rfl, hc2, hR2, h9⟩
 refine ⟨_, rfl,I0 (R0 (n := ((ordM l).length : Int)) (Y0 underlying33 rfl rfl) rfl) rfl<|C0 1 rfl<|I0 (Y0 underlying34 rfl rfl) rfl<|C0 1 rfl<|Wa<|Z0 rfl (fun c10 => ?_) (fun c10 => ?_)⟩
 ·try simp only [DD] at c10
  refine Wi<|C0 1 rfl<|J0 (H0 (O1 ?_))
  have hall : okAll l := fun j hj => hok j (by omega)
  refine ret1 rfl rfl ⟨?_, h9.weak hG⟩
  unfold chkM
  rw [if_neg (by omega), if_neg (fun hh => hh hall), if_pos (by omega)]
 try simp only [DD] at c10
 refine Wk<|C0 1 rfl<|J0 (H0 (O1 ?_))
 have hall : okAll l := fun j hj => hok j (by omega)
 refine ret1 rfl rfl ⟨?_, h9.weak hG⟩
 unfold chkM
 rw [if_neg (by omega), if_neg (fun hh => hh hall), if_neg (by omega)]
theorem check_c (w : World) {A : Option Addr} {cap : Nat} {l : List S} (h : St W F cs w) (hR : RdS KS F A l) (hl : l.length ≤ 100000) (hf : fewE l) : Calls prog 54 #[.slice A l.length cap] w fun r w' => r = .returned (Vi (chkM l)) ∧ St W F cs w' := checkB_c w h hR (by omega) (fun i hi => Nat.le_trans (hf i hi) (by decide))
theorem first5 (P0 P1 P2 P3 P4 : Prop) : (P0) ∨ (¬ P0 ∧ P1) ∨ (¬ P0 ∧ ¬ P1 ∧ P2) ∨ (¬ P0 ∧ ¬ P1 ∧ ¬ P2 ∧ P3) ∨ (¬ P0 ∧ ¬ P1 ∧ ¬ P2 ∧ ¬ P3 ∧ P4) ∨ (¬ P0 ∧ ¬ P1 ∧ ¬ P2 ∧ ¬ P3 ∧ ¬ P4) := by
 by_cases h0 : P0
 ·exact .inl h0
 by_cases h1 : P1
 ·exact .inr (.inl ⟨h0, h1⟩)
 by_cases h2 : P2
 ·exact .inr (.inr (.inl ⟨h0, h1, h2⟩))
 by_cases h3 : P3
 ·exact .inr (.inr (.inr (.inl ⟨h0, h1, h2, h3⟩)))
 by_cases h4 : P4
 ·exact .inr (.inr (.inr (.inr (.inl ⟨h0, h1, h2, h3, h4⟩))))
 exact .inr (.inr (.inr (.inr (.inr (⟨h0, h1, h2, h3, h4⟩)))))
theorem first8 (P0 P1 P2 P3 P4 P5 P6 P7 : Prop) : (¬ P0) ∨ (P0 ∧ ¬ P1) ∨ (P0 ∧ P1 ∧ ¬ P2) ∨ (P0 ∧ P1 ∧ P2 ∧ ¬ P3) ∨ (P0 ∧ P1 ∧ P2 ∧ P3 ∧ ¬ P4) ∨ (P0 ∧ P1 ∧ P2 ∧ P3 ∧ P4 ∧ ¬ P5) ∨ (P0 ∧ P1 ∧ P2 ∧ P3 ∧ P4 ∧ P5 ∧ ¬ P6) ∨ (P0 ∧ P1 ∧ P2 ∧ P3 ∧ P4 ∧ P5 ∧ P6 ∧ ¬ P7) ∨ (P0 ∧ P1 ∧ P2 ∧ P3 ∧ P4 ∧ P5 ∧ P6 ∧ P7) := by
 by_cases h0 : P0
 ·by_cases h1 : P1
  ·by_cases h2 : P2
   ·by_cases h3 : P3
    ·by_cases h4 : P4
     ·by_cases h5 : P5
      ·by_cases h6 : P6
       ·by_cases h7 : P7
        ·exact .inr (.inr (.inr (.inr (.inr (.inr (.inr (.inr (⟨h0, h1, h2, h3, h4, h5, h6, h7⟩))))))))
        exact .inr (.inr (.inr (.inr (.inr (.inr (.inr (.inl ⟨h0, h1, h2, h3, h4, h5, h6, h7⟩)))))))
       exact .inr (.inr (.inr (.inr (.inr (.inr (.inl ⟨h0, h1, h2, h3, h4, h5, h6⟩))))))
      exact .inr (.inr (.inr (.inr (.inr (.inl ⟨h0, h1, h2, h3, h4, h5⟩)))))
     exact .inr (.inr (.inr (.inr (.inl ⟨h0, h1, h2, h3, h4⟩))))
    exact .inr (.inr (.inr (.inl ⟨h0, h1, h2, h3⟩)))
   exact .inr (.inr (.inl ⟨h0, h1, h2⟩))
  exact .inr (.inl ⟨h0, h1⟩)
 exact .inl h0
theorem edgeCell {W w : World} {F : Snap} {cs : List Res} {ad : Addr} {es : List E} {n : Nat} (h : St W F cs w) (hR : RdS KE F (some ad) es) (hn : n < es.length) : w.cell? ((ad.add (n * 2)).add 0) = some (Vi (es.getD n E0).st) ∧ w.cell? ((ad.add (n * 2)).add 1) = some (Vi (es.getD n E0).kd) := by
 obtain ⟨ad', c, hA', hc, hr⟩ := hR.at_ (i := n) (x := es.getD n E0) (by rw [gD, gE hn]; rfl)
 injection hA' with hA'
 subst hA'
 have hc' : c = E.cs (es.getD n E0) := hc
 subst hc'
 rw [add_add, add_add]
 exact ⟨h.cell (hr 0 _ rfl), h.cell (hr 1 _ rfl)⟩
theorem okE_iff {a : Int} {n : Nat} {af : List E} {k : Nat} (hk : k ≤ af.length) : okE a n af k ↔ (0 ≤ (af.getD k E0).st ∧ (af.getD k E0).st < n ∧ (af.getD k E0).st ≠ a ∧ 0 ≤ (af.getD k E0).kd ∧ (af.getD k E0).kd ≤ 2) ∧ ∀ j, j < k → (af.getD j E0).st ≠ (af.getD k E0).st := by
 unfold okE inB
 simp only [decide_eq_true_eq, List.mem_cons, not_or, List.mem_map, not_exists, not_and]
 constructor
 ·rintro ⟨h1, h2, h3, h4⟩
  refine ⟨by omega, fun j hj =>h4 _ (List.mem_take_iff_getElem.2 ⟨j, by omega, by rw [gD, gE (by omega)]; rfl⟩)⟩
 rintro ⟨h1, h2⟩
 refine ⟨by omega, by omega, by omega, fun x hx => ?_⟩
 obtain ⟨j, hj, rfl⟩ := List.mem_take_iff_getElem.1 hx
 have := h2 j (by omega)
 rwa [gD, gE (by omega)] at this
theorem qstep_c (w : World) {A : Option Addr} {cap : Nat} (s : S) (a : Int) (n : Nat) (h : St W F cs w) (hR : RdS KE F A s.af) (hn : n ≤ 100000) (ha : s.af.length ≤ 100000) : Calls prog 105 #[.agg #[Vi s.rk, Vi s.per, Vi s.ds, Vi s.lim, .slice A s.af.length cap], Vi a, Vi (n : Nat)] w fun r w' => r = .returned (.bool (decide (okS s a n))) ∧ St W F cs w'  := by
 refine enter (args := [.agg #[Vi s.rk, Vi s.per, Vi s.ds, Vi s.lim, .slice A s.af.length cap], Vi a, Vi (n : Nat)]) func105 rfl rfl rfl<|Wi<|J3 rfl h rfl fun b3 w1 h1=>C0 1 rfl<|Wh<|C0 1 rfl<|Wj<|B3 (σ := Nat) (fun q_ => [(1, Vi a), (2, Vi (n : Nat)), (3, pz b3), (7, .int .i64 (q_ : Int))]) (fun q_ w => q_ ≤ s.af.length ∧ (∀ j, j < q_ → okE a n s.af j) ∧ St W F ([(b3, .cells #[Vi s.rk, Vi s.per, Vi s.ds, Vi s.lim, .slice A s.af.length cap] 68 (0, 0))] :: cs) w) (fun q_ => s.af.length - q_) (0) (⟨Nat.zero_le _, fun j hj => absurd hj (Nat.not_lt_zero _), h1⟩) ?_
 rintro k w2 ⟨hk, hok, hL⟩
 try dsimp only at hk hok hL
 refine W2 [(1, Vi a), (2, Vi (n : Nat)), (3, pz b3), (7, .int .i64 (k : Int))]<|N0<|Wi<|H1 hL [0] 3 rfl<|I0 (R0 (n := (s.af.length : Int)) (Y0 underlying66 rfl rfl) rfl) rfl<|C0 1 rfl<|Wa<|Z0 rfl (fun c3 => ?_) (fun c3 => ?_)
 ·try simp only [DD] at c3
  refine U0 (H0 (N0 (M1 (N0 ?_))))
  have hk2 : k < s.af.length := by omega
  obtain ⟨ae, rfl⟩ := rdA hR (by omega)
  refine L0<|H1 hL [0] 3 rfl<|I0 (N2 underlying66 inf115 rfl rfl (n := k) rfl (by omega)) rfl<|I0 (R5 hL hR rfl (by omega) underlying115 rfl inf115 rfl) rfl<|O2 rfl hL inf115 fun b8 w4 h4=>F4 h4 0 rfl rfl rfl inf115 rfl rfl rfl ?_
  intro  w5 h5
  try simp only [ZZ] at h5
  refine J0 (H0 (N0 (N0 ?_)))
  rcases first5 ((s.af.getD k E0).st < 0) ((s.af.getD k E0).st ≥ (n : Int)) ((s.af.getD k E0).st = a) ((s.af.getD k E0).kd < 0) ((s.af.getD k E0).kd > 2) with q0 | ⟨q0, q1⟩ | ⟨q0, q1, q2⟩ | ⟨q0, q1, q2, q3⟩ | ⟨q0, q1, q2, q3, q4⟩ | ⟨q0, q1, q2, q3, q4⟩
  ·refine L0<|H1 h5 [0] 2 rfl<|I0 (Bt (Q1 rfl rfl) (dA (by omega))) rfl<|C0 22 rfl<|Wa<|J1 rfl (rfl)<|Wi<|C0 1 rfl<|Wg<|ret1 rfl rfl ⟨?_, (h5.drop 0).drop 0⟩
   rw [dN]
   intro hh
   have h9 := (okE_iff (Nat.le_of_lt hk2)).1 (hh.2 k hk2)
   omega
  ·refine L0<|H1 h5 [0] 2 rfl<|I0 (Bf (Q1 rfl rfl) (dN (by omega))) rfl<|H1 h5 [0] 4 rfl<|Q0 rfl<|I0 (Bt (T1 rfl rfl) (dA (by omega))) rfl<|C0 17 rfl<|Wa<|J1 rfl (rfl)<|Wi<|C0 1 rfl<|Wg<|ret1 rfl rfl ⟨?_, (h5.drop 0).drop 0⟩
   rw [dN]
   intro hh
   have h9 := (okE_iff (Nat.le_of_lt hk2)).1 (hh.2 k hk2)
   omega
  ·refine L0<|H1 h5 [0] 2 rfl<|I0 (Bf (Q1 rfl rfl) (dN (by omega))) rfl<|H1 h5 [0] 4 rfl<|Q0 rfl<|I0 (Bf (T1 rfl rfl) (dN (by omega))) rfl<|H1 h5 [0] 5 rfl<|Q0 rfl<|I0 (Bt (L1 rfl rfl) (dA (by omega))) rfl<|C0 11 rfl<|Wa<|J1 rfl (rfl)<|Wi<|C0 1 rfl<|Wg<|ret1 rfl rfl ⟨?_, (h5.drop 0).drop 0⟩
   rw [dN]
   intro hh
   have h9 := (okE_iff (Nat.le_of_lt hk2)).1 (hh.2 k hk2)
   omega
  ·refine L0<|H1 h5 [0] 2 rfl<|I0 (Bf (Q1 rfl rfl) (dN (by omega))) rfl<|H1 h5 [0] 4 rfl<|Q0 rfl<|I0 (Bf (T1 rfl rfl) (dN (by omega))) rfl<|H1 h5 [0] 5 rfl<|Q0 rfl<|I0 (Bf (L1 rfl rfl) (dN (by omega))) rfl<|H1 h5 [0] 4 rfl<|Q0 rfl<|I0 (Bt (Q1 rfl rfl) (dA (by omega))) rfl<|C0 6 rfl<|Wa<|J1 rfl (rfl)<|Wi<|C0 1 rfl<|Wg<|ret1 rfl rfl ⟨?_, (h5.drop 0).drop 0⟩
   rw [dN]
   intro hh
   have h9 := (okE_iff (Nat.le_of_lt hk2)).1 (hh.2 k hk2)
   omega
  ·refine L0<|H1 h5 [0] 2 rfl<|I0 (Bf (Q1 rfl rfl) (dN (by omega))) rfl<|H1 h5 [0] 4 rfl<|Q0 rfl<|I0 (Bf (T1 rfl rfl) (dN (by omega))) rfl<|H1 h5 [0] 5 rfl<|Q0 rfl<|I0 (Bf (L1 rfl rfl) (dN (by omega))) rfl<|H1 h5 [0] 4 rfl<|Q0 rfl<|I0 (Bf (Q1 rfl rfl) (dN (by omega))) rfl<|H1 h5 [0] 4 rfl<|Q0 rfl<|I0 (Bt (Y1 rfl rfl) (dA (by omega))) rfl<|C0 1 rfl<|Wa<|J1 rfl (rfl)<|Wi<|C0 1 rfl<|Wg<|ret1 rfl rfl ⟨?_, (h5.drop 0).drop 0⟩
   rw [dN]
   intro hh
   have h9 := (okE_iff (Nat.le_of_lt hk2)).1 (hh.2 k hk2)
   omega
  refine L0<|H1 h5 [0] 2 rfl<|I0 (Bf (Q1 rfl rfl) (dN (by omega))) rfl<|H1 h5 [0] 4 rfl<|Q0 rfl<|I0 (Bf (T1 rfl rfl) (dN (by omega))) rfl<|H1 h5 [0] 5 rfl<|Q0 rfl<|I0 (Bf (L1 rfl rfl) (dN (by omega))) rfl<|H1 h5 [0] 4 rfl<|Q0 rfl<|I0 (Bf (Q1 rfl rfl) (dN (by omega))) rfl<|H1 h5 [0] 4 rfl<|Q0 rfl<|I0 (Bf (Y1 rfl rfl) (dN (by omega))) rfl<|C0 1 rfl<|Wa<|E1 rfl (rfl)<|Wk<|C0 1 rfl<|Wj<|B3 (σ := Nat) (fun q_ => [(1, Vi a), (2, Vi (n : Nat)), (3, pz b3), (7, .int .i64 (k : Int)), (8, pz b8), (9, .int .i64 (q_ : Int))]) (fun q_ w => q_ ≤ k ∧ (∀ i, i < q_ → (s.af.getD i E0).st ≠ (s.af.getD k E0).st) ∧ St W F ([(b8, .cells #[Vi (s.af.getD k E0).st, Vi (s.af.getD k E0).kd] 115 (0, 0))] :: [(b3, .cells #[Vi s.rk, Vi s.per, Vi s.ds, Vi s.lim, .slice (some ae) s.af.length cap] 68 (0, 0))] :: cs) w) (fun q_ => k - q_) (0) (⟨Nat.zero_le _, fun j hj => absurd hj (Nat.not_lt_zero _), h5⟩) ?_
  rintro j w6 ⟨hj, hne, hL⟩
  try dsimp only at hj hne hL
  refine W2 [(1, Vi a), (2, Vi (n : Nat)), (3, pz b3), (7, .int .i64 (k : Int)), (8, pz b8), (9, .int .i64 (j : Int))]<|N0<|Wi<|C0 3 rfl<|Wa<|Z0 rfl (fun c7 => ?_) (fun c7 => ?_)
  ·try simp only [DD] at c7
   refine U0<|H0<|N0<|M1<|N0<|T2 (C := fun w_ => St W F _ w_) mixed (by kernel_rfl) (hL.drew)<|K5 [1] 3 rfl<|X0 (fun w_ hC_ => N2 underlying66 inf115 rfl rfl (n := j) rfl (by omega)) rfl<|M2 1 rfl<|X0 (fun w_ hC_ => K0 underlying3 rfl rfl (edgeCell hC_ hR (by omega)).1) rfl<|K5 [0] 3 rfl<|K3 fun w8 h8=>H0<|Z0 rfl (fun c9 => ?_) (fun c9 => ?_)
   ·try simp only [DD] at c9
    refine Wi<|C0 1 rfl<|Wg<|ret1 rfl rfl ⟨?_, (h8.drop 0).drop 0⟩
    rw [dN]
    intro hh
    have h9 := (okE_iff (Nat.le_of_lt hk2)).1 (hh.2 k hk2)
    exact h9.2 j (by omega) c9
   try simp only [DD] at c9
   refine U0<|N1<|H0<|L0<|C0 1 rfl<|I0 (V0 rfl rfl (by omega)) rfl<|C0 1 rfl<|J0<|F1 (j + 1) (by omega) ⟨rfl, rfl, rfl, rfl, rfl, rfl, trivial⟩ ⟨by omega, fun i2 hi2 => (by
    by_cases e : i2 = j
    ·subst e; exact c9
    exact hne i2 (by omega)), h8⟩
  try simp only [DD] at c7
  refine U1<|B2<|WX.cut<|E2<|N1<|H0<|L0<|C0 1 rfl<|I0 (V0 rfl rfl (by omega)) rfl<|C0 1 rfl<|J0<|F1 (k + 1) (by omega) ⟨rfl, rfl, rfl, rfl, trivial⟩ ⟨by omega, fun j2 hj2 => (by
   by_cases e : j2 = k
   ·subst e; exact (okE_iff (by omega)).2 ⟨by omega, fun i2 hi2 => hne i2 (by omega)⟩
   exact hok j2 (by omega)), hL.drop 0⟩
 try simp only [DD] at c3
 refine U1 (B2 (WX.cut (E2 (H0 (N0 ?_)))))
 rcases first8 (s.rk ≥ 1) (s.rk ≤ 32) (s.per ≥ 1) (s.per ≤ 256) (s.ds ≥ 0) (s.ds ≤ 1) (s.lim ≥ 1) (s.lim ≤ 1073741824) with q0 | ⟨q0, q1⟩ | ⟨q0, q1, q2⟩ | ⟨q0, q1, q2, q3⟩ | ⟨q0, q1, q2, q3, q4⟩ | ⟨q0, q1, q2, q3, q4, q5⟩ | ⟨q0, q1, q2, q3, q4, q5, q6⟩ | ⟨q0, q1, q2, q3, q4, q5, q6, q7⟩ | ⟨q0, q1, q2, q3, q4, q5, q6, q7⟩
 ·refine L0<|H1 hL [0] 2 rfl<|I0 (Bf (T1 rfl rfl) (dN (by omega))) rfl<|C0 36 rfl<|J0 (H0 (O1 ?_))
  have hz : ¬ okS s a n := by
   intro hh
   obtain ⟨⟨g0, g1, g2, g3⟩, _⟩ := hh
   have g0 := of_decide_eq_true g0
   have g1 := of_decide_eq_true g1
   have g2 := of_decide_eq_true g2
   have g3 := of_decide_eq_true g3
   omega
  refine ret1 rfl rfl ⟨?_, hL.drop 0⟩
  rw [dN hz]
  rfl
 ·refine L0<|H1 hL [0] 2 rfl<|I0 (Bt (T1 rfl rfl) (dA (by omega))) rfl<|H1 hL [0] 3 rfl<|Q0 rfl<|I0 (Bf (Z1 rfl rfl) (dN (by omega))) rfl<|C0 32 rfl<|J0 (H0 (O1 ?_))
  have hz : ¬ okS s a n := by
   intro hh
   obtain ⟨⟨g0, g1, g2, g3⟩, _⟩ := hh
   have g0 := of_decide_eq_true g0
   have g1 := of_decide_eq_true g1
   have g2 := of_decide_eq_true g2
   have g3 := of_decide_eq_true g3
   omega
  refine ret1 rfl rfl ⟨?_, hL.drop 0⟩
  rw [dN hz]
  rfl
 ·refine L0<|H1 hL [0] 2 rfl<|I0 (Bt (T1 rfl rfl) (dA (by omega))) rfl<|H1 hL [0] 3 rfl<|Q0 rfl<|I0 (Bt (Z1 rfl rfl) (dA (by omega))) rfl<|H1 hL [0] 4 rfl<|Q0 rfl<|I0 (Bf (T1 rfl rfl) (dN (by omega))) rfl<|C0 27 rfl<|J0 (H0 (O1 ?_))
  have hz : ¬ okS s a n := by
   intro hh
   obtain ⟨⟨g0, g1, g2, g3⟩, _⟩ := hh
   have g0 := of_decide_eq_true g0
   have g1 := of_decide_eq_true g1
   have g2 := of_decide_eq_true g2
   have g3 := of_decide_eq_true g3
   omega
  refine ret1 rfl rfl ⟨?_, hL.drop 0⟩
  rw [dN hz]
  rfl
 ·refine L0<|H1 hL [0] 2 rfl<|I0 (Bt (T1 rfl rfl) (dA (by omega))) rfl<|H1 hL [0] 3 rfl<|Q0 rfl<|I0 (Bt (Z1 rfl rfl) (dA (by omega))) rfl<|H1 hL [0] 4 rfl<|Q0 rfl<|I0 (Bt (T1 rfl rfl) (dA (by omega))) rfl<|H1 hL [0] 4 rfl<|Q0 rfl<|I0 (Bf (Z1 rfl rfl) (dN (by omega))) rfl<|C0 22 rfl<|J0 (H0 (O1 ?_))
  have hz : ¬ okS s a n := by
   intro hh
   obtain ⟨⟨g0, g1, g2, g3⟩, _⟩ := hh
   have g0 := of_decide_eq_true g0
   have g1 := of_decide_eq_true g1
   have g2 := of_decide_eq_true g2
   have g3 := of_decide_eq_true g3
   omega
  refine ret1 rfl rfl ⟨?_, hL.drop 0⟩
  rw [dN hz]
  rfl
 ·refine L0<|H1 hL [0] 2 rfl<|I0 (Bt (T1 rfl rfl) (dA (by omega))) rfl<|H1 hL [0] 3 rfl<|Q0 rfl<|I0 (Bt (Z1 rfl rfl) (dA (by omega))) rfl<|H1 hL [0] 4 rfl<|Q0 rfl<|I0 (Bt (T1 rfl rfl) (dA (by omega))) rfl<|H1 hL [0] 4 rfl<|Q0 rfl<|I0 (Bt (Z1 rfl rfl) (dA (by omega))) rfl<|H1 hL [0] 4 rfl<|Q0 rfl<|I0 (Bf (T1 rfl rfl) (dN (by omega))) rfl<|C0 17 rfl<|J0 (H0 (O1 ?_))
  have hz : ¬ okS s a n := by
   intro hh
   obtain ⟨⟨g0, g1, g2, g3⟩, _⟩ := hh
   have g0 := of_decide_eq_true g0
   have g1 := of_decide_eq_true g1
   have g2 := of_decide_eq_true g2
   have g3 := of_decide_eq_true g3
   omega
  refine ret1 rfl rfl ⟨?_, hL.drop 0⟩
  rw [dN hz]
  rfl
 ·refine L0<|H1 hL [0] 2 rfl<|I0 (Bt (T1 rfl rfl) (dA (by omega))) rfl<|H1 hL [0] 3 rfl<|Q0 rfl<|I0 (Bt (Z1 rfl rfl) (dA (by omega))) rfl<|H1 hL [0] 4 rfl<|Q0 rfl<|I0 (Bt (T1 rfl rfl) (dA (by omega))) rfl<|H1 hL [0] 4 rfl<|Q0 rfl<|I0 (Bt (Z1 rfl rfl) (dA (by omega))) rfl<|H1 hL [0] 4 rfl<|Q0 rfl<|I0 (Bt (T1 rfl rfl) (dA (by omega))) rfl<|H1 hL [0] 4 rfl<|Q0 rfl<|I0 (Bf (Z1 rfl rfl) (dN (by omega))) rfl<|C0 12 rfl<|J0 (H0 (O1 ?_))
  have hz : ¬ okS s a n := by
   intro hh
   obtain ⟨⟨g0, g1, g2, g3⟩, _⟩ := hh
   have g0 := of_decide_eq_true g0
   have g1 := of_decide_eq_true g1
   have g2 := of_decide_eq_true g2
   have g3 := of_decide_eq_true g3
   omega
  refine ret1 rfl rfl ⟨?_, hL.drop 0⟩
  rw [dN hz]
  rfl
 ·refine L0<|H1 hL [0] 2 rfl<|I0 (Bt (T1 rfl rfl) (dA (by omega))) rfl<|H1 hL [0] 3 rfl<|Q0 rfl<|I0 (Bt (Z1 rfl rfl) (dA (by omega))) rfl<|H1 hL [0] 4 rfl<|Q0 rfl<|I0 (Bt (T1 rfl rfl) (dA (by omega))) rfl<|H1 hL [0] 4 rfl<|Q0 rfl<|I0 (Bt (Z1 rfl rfl) (dA (by omega))) rfl<|H1 hL [0] 4 rfl<|Q0 rfl<|I0 (Bt (T1 rfl rfl) (dA (by omega))) rfl<|H1 hL [0] 4 rfl<|Q0 rfl<|I0 (Bt (Z1 rfl rfl) (dA (by omega))) rfl<|H1 hL [0] 4 rfl<|Q0 rfl<|I0 (Bf (T1 rfl rfl) (dN (by omega))) rfl<|C0 7 rfl<|J0 (H0 (O1 ?_))
  have hz : ¬ okS s a n := by
   intro hh
   obtain ⟨⟨g0, g1, g2, g3⟩, _⟩ := hh
   have g0 := of_decide_eq_true g0
   have g1 := of_decide_eq_true g1
   have g2 := of_decide_eq_true g2
   have g3 := of_decide_eq_true g3
   omega
  refine ret1 rfl rfl ⟨?_, hL.drop 0⟩
  rw [dN hz]
  rfl
 ·refine L0<|H1 hL [0] 2 rfl<|I0 (Bt (T1 rfl rfl) (dA (by omega))) rfl<|H1 hL [0] 3 rfl<|Q0 rfl<|I0 (Bt (Z1 rfl rfl) (dA (by omega))) rfl<|H1 hL [0] 4 rfl<|Q0 rfl<|I0 (Bt (T1 rfl rfl) (dA (by omega))) rfl<|H1 hL [0] 4 rfl<|Q0 rfl<|I0 (Bt (Z1 rfl rfl) (dA (by omega))) rfl<|H1 hL [0] 4 rfl<|Q0 rfl<|I0 (Bt (T1 rfl rfl) (dA (by omega))) rfl<|H1 hL [0] 4 rfl<|Q0 rfl<|I0 (Bt (Z1 rfl rfl) (dA (by omega))) rfl<|H1 hL [0] 4 rfl<|Q0 rfl<|I0 (Bt (T1 rfl rfl) (dA (by omega))) rfl<|H1 hL [0] 4 rfl<|Q0 rfl<|I0 (Bf (Z1 rfl rfl) (dN (by omega))) rfl<|C0 2 rfl<|J0 (H0 (O1 ?_))
  have hz : ¬ okS s a n := by
   intro hh
   obtain ⟨⟨g0, g1, g2, g3⟩, _⟩ := hh
   have g0 := of_decide_eq_true g0
   have g1 := of_decide_eq_true g1
   have g2 := of_decide_eq_true g2
   have g3 := of_decide_eq_true g3
   omega
  refine ret1 rfl rfl ⟨?_, hL.drop 0⟩
  rw [dN hz]
  rfl
 refine L0<|H1 hL [0] 2 rfl<|I0 (Bt (T1 rfl rfl) (dA (by omega))) rfl<|H1 hL [0] 3 rfl<|Q0 rfl<|I0 (Bt (Z1 rfl rfl) (dA (by omega))) rfl<|H1 hL [0] 4 rfl<|Q0 rfl<|I0 (Bt (T1 rfl rfl) (dA (by omega))) rfl<|H1 hL [0] 4 rfl<|Q0 rfl<|I0 (Bt (Z1 rfl rfl) (dA (by omega))) rfl<|H1 hL [0] 4 rfl<|Q0 rfl<|I0 (Bt (T1 rfl rfl) (dA (by omega))) rfl<|H1 hL [0] 4 rfl<|Q0 rfl<|I0 (Bt (Z1 rfl rfl) (dA (by omega))) rfl<|H1 hL [0] 4 rfl<|Q0 rfl<|I0 (Bt (T1 rfl rfl) (dA (by omega))) rfl<|H1 hL [0] 4 rfl<|Q0 rfl<|I0 (Bt (Z1 rfl rfl) (dA (by omega))) rfl<|C0 2 rfl<|Wg<|ret1 rfl rfl ⟨?_, hL.drop 0⟩
 rw [dA (p := okS s a n) ⟨⟨inB_t (by omega), inB_t (by omega), inB_t (by omega), inB_t (by omega)⟩, fun j2 hj2 => hok j2 (by omega)⟩]
 rfl
theorem inf4 : Inf prog 4 (.bool false) 1 1 := by unfold Inf; kernel_rfl
def dnL (n : Nat) (out : List Int) : List Bool := (List.range n).map fun (j : Nat) => decide ((j : Int) ∈ out)
theorem dnL_len (n : Nat) (out : List Int) : (dnL n out).length = n := by unfold dnL; simp
theorem dn_at {N n : Nat} {out : List Int} (h : n < N) : ((dnL N out).map Value.bool ++ []).toArray[n]? = some (.bool (decide ((n : Int) ∈ out))) := by
 simp [dnL, h]
theorem dn_0 (N : Nat) : (List.replicate N (Value.bool false)).toArray = ((dnL N []).map Value.bool ++ []).toArray := by
 congr 1
 simp [dnL, List.map_const']
theorem dn_set {N m : Nat} {out : List Int} (h : m < N) : (dnL N out).set m true = dnL N (out ++ [(m : Int)]) := by
 apply List.ext_getElem?
 intro j
 rw [List.getElem?_set]
 unfold dnL
 by_cases e : m = j
 ·subst e; simp [h]
 rw [if_neg e]
 by_cases hj : j < N
 ·have : ¬ ((j : Int) = (m : Int)) := by omega
  simp [hj, this]
 simp [hj]
def okUp (l : List S) (out : List Int) (i k : Nat) : Prop := (i : Int) ∉ out ∧ ∀ j, j < k → ((l.getD i S0).af.getD j E0).st ∈ out
instance (l : List S) (out : List Int) (i k : Nat) : Decidable (okUp l out i k) := inferInstanceAs (Decidable (_ ∧ _))
theorem okUp_0 (l : List S) (out : List Int) (i : Nat) : (!decide ((i : Int) ∈ out)) = decide (okUp l out i 0) := by
 by_cases h : (i : Int) ∈ out
 ·rw [dA h, dN (fun hh => hh.1 h)]; rfl
 rw [dN h, dA ⟨h, fun j hj => absurd hj (Nat.not_lt_zero _)⟩]; rfl
theorem okUp_s {l : List S} {out : List Int} {i k : Nat} (h : okUp l out i k) : decide (((l.getD i S0).af.getD k E0).st ∈ out) = decide (okUp l out i (k + 1)) := by
 by_cases h2 : ((l.getD i S0).af.getD k E0).st ∈ out
 ·rw [dA h2, dA]
  exact ⟨h.1, fun j hj => by
   by_cases e : j = k
   ·subst e; exact h2
   exact h.2 j (by omega)⟩
 rw [dN h2, dN]
 exact fun hh => h2 (hh.2 k (by omega))
theorem okUp_n {l : List S} {out : List Int} {i k : Nat} (h : ¬ okUp l out i k) : ¬ okUp l out i (k + 1) := fun hh => h ⟨hh.1, fun j hj => hh.2 j (by omega)⟩
theorem edge_in {l : List S} (hok : okAll l) {i k : Nat} (hi : i < l.length) (hk : k < (l.getD i S0).af.length) : 0 ≤ ((l.getD i S0).af.getD k E0).st ∧ ((l.getD i S0).af.getD k E0).st < l.length := by
 have := of_decide_eq_true ((hok i hi).2 k hk).1
 omega
theorem qorder_c (w : World) {A : Option Addr} {cap : Nat} {l : List S} (h : St W F cs w) (hR : RdS KS F A l) (hl : l.length ≤ 100000) (hf : fewE l) (hok : okAll l) : Calls prog 106 #[.slice A l.length cap] w fun r w' => Gives W F cs Vi (ordM l) r w'  := by
 refine enter (args := [.slice A l.length cap]) func106 rfl rfl rfl<|Wi<|C0 1 rfl<|We<|C0 1 rfl<|We<|C0 1 rfl<|I0 (R0 (n := (l.length : Int)) (Y0 underlying34 rfl rfl) rfl) rfl<|WL.make1 (l := l.length) (c := l.length) rfl h underlying184 inf4 rfl rfl rfl (Nat.le_refl _) (by omega) (by omega) ?_
 intro yb w1 h1
 try simp only [ZZ] at h1
 rw [dn_0] at h1
 refine C0 1 rfl<|Wb<|M1<|B3 (σ := Nat × List Int × Res × Value) (fun q_ => [(0, .slice A l.length cap), (3, q_.2.2.2), (4, .slice (some ⟨yb, 0, none⟩) l.length l.length)]) (fun q_ w => ordM l = ordF l q_.1 q_.2.1 ∧ cnt q_.2.1 l.length = q_.1 ∧ q_.2.1.length + q_.1 = l.length ∧ Row 3 Vi q_.2.2.1 q_.2.2.2 q_.2.1 ∧ St W F (q_.2.2.1 :: [(yb, .cells ((dnL l.length q_.2.1).map Value.bool ++ []).toArray 4 (0, 0))] :: cs) w) (fun q_ => q_.1) (⟨l.length, [], [], .slice none 0 0⟩) (⟨rfl, cnt_nil _, Nat.zero_add _, Row.nil _ _, h1.nilRes⟩) ?_
 rintro ⟨n, out, r, v⟩ w2 ⟨hm, hc, hlen, hro, hL⟩
 try dsimp only at hm hc hlen hro hL
 refine W2 [(0, .slice A l.length cap), (3, v), (4, .slice (some ⟨yb, 0, none⟩) l.length l.length)] ?_
 obtain ⟨B, capr, rfl, hcap⟩ := hro.val
 refine N0<|Wi<|C0 1 rfl<|I0 (R0 (n := (out.length : Int)) (Y0 underlying33 rfl rfl) rfl) rfl<|C0 1 rfl<|I0 (R0 (n := (l.length : Int)) (Y0 underlying34 rfl rfl) rfl) rfl<|C0 1 rfl<|Wa<|Z0 rfl (fun c3 => ?_) (fun c3 => ?_)
 ·try simp only [DD] at c3
  refine U0<|H0<|M1<|Wi<|C0 1 rfl<|Wh<|C0 1 rfl<|Wj<|B3 (σ := Nat × Int) (fun q_ => [(0, .slice A l.length cap), (3, .slice B out.length capr), (4, .slice (some ⟨yb, 0, none⟩) l.length l.length), (5, .int .i64 q_.2), (6, .int .i64 (q_.1 : Int))]) (fun q_ w => q_.1 ≤ l.length ∧ ((q_.2 = -1 ∧ ∀ j, j < q_.1 → ¬ okAt l out j) ∨ ∃ m : Nat, q_.2 = (m : Int) ∧ q_.1 = m + 1 ∧ okAt l out m ∧ ∀ j, j < m → ¬ okAt l out j) ∧ St W F (r :: [(yb, .cells ((dnL l.length out).map Value.bool ++ []).toArray 4 (0, 0))] :: cs) w) (fun q_ => l.length - q_.1) (⟨0, -1⟩) (⟨Nat.zero_le _, .inl ⟨rfl, fun j hj => absurd hj (Nat.not_lt_zero _)⟩, hL⟩) ?_
  rintro ⟨i, nx⟩ w4 ⟨hi, hinv, hL⟩
  try dsimp only at hi hinv hL
  refine W2 [(0, .slice A l.length cap), (3, .slice B out.length capr), (4, .slice (some ⟨yb, 0, none⟩) l.length l.length), (5, .int .i64 nx), (6, .int .i64 (i : Int))]<|N0 (N0 ?_)
  have hcase : i < l.length ∨ l.length ≤ i := by omega
  rcases hinv with ⟨rfl, hno⟩ | ⟨m, rfl, rfl, hat, hno⟩
  all_goals rcases hcase with hil | hil
  ·refine L0<|C0 2 rfl<|I0 (Y0 underlying34 rfl rfl) rfl<|I0 (Bt (Q1 rfl rfl) (dA (by omega))) rfl<|C0 2 rfl<|Q0 rfl<|I0 (Bt (Q1 rfl rfl) rfl) rfl<|C0 1 rfl<|Wa<|J1 rfl (rfl)<|U0<|H0<|N0<|M1<|Wi<|C0 2 rfl<|I0 (X1 (u := .pointer (some ⟨yb, i, none⟩)) (W0 underlying184 inf4 rfl rfl (n := i) rfl (by omega)) (by rw [add_mk, Nat.zero_add])) rfl<|I0 (K0 underlying4 rfl rfl (hL.ocell (i := 1) rfl (dn_at (n := i) (by omega)))) rfl<|I0 (D7 (c := decide (okUp l out i 0)) (R1 rfl) (okUp_0 l out i)) rfl<|C0 1 rfl<|J0 (H0 (N0 (N0 ?_)))
   obtain ⟨ad, A1, cap1, rfl, hE, hcell⟩ := stepAt hR hil
   have hf2 := hf i hil
   refine L0<|C0 1 rfl<|Wj<|B3 (σ := Nat) (fun q_ => [(0, .slice (some ad) l.length cap), (3, .slice B out.length capr), (4, .slice (some ⟨yb, 0, none⟩) l.length l.length), (5, .int .i64 (-1)), (6, .int .i64 (i : Int)), (7, .bool (decide (okUp l out i q_))), (8, .int .i64 (q_ : Int))]) (fun q_ w => q_ ≤ (l.getD i S0).af.length ∧ St W F (r :: [(yb, .cells ((dnL l.length out).map Value.bool ++ []).toArray 4 (0, 0))] :: cs) w) (fun q_ => (l.getD i S0).af.length - q_) (0) (⟨Nat.zero_le _, hL⟩) ?_
   rintro k w5 ⟨hk, hL⟩
   try dsimp only at hk hL
   refine W2 [(0, .slice (some ad) l.length cap), (3, .slice B out.length capr), (4, .slice (some ⟨yb, 0, none⟩) l.length l.length), (5, .int .i64 (-1)), (6, .int .i64 (i : Int)), (7, .bool (decide (okUp l out i k))), (8, .int .i64 (k : Int))]<|N0<|Wi<|C0 3 rfl<|I0 (N2 underlying34 inf68 rfl rfl (n := i) rfl (by omega)) rfl<|C0 1 rfl<|I0 (K0 underlying66 rfl rfl (by rw [add_add]; exact hL.cell (hcell 4 _ rfl))) rfl<|I0 (R0 (n := ((l.getD i S0).af.length : Int)) (Y0 underlying66 rfl rfl) rfl) rfl<|C0 1 rfl<|Wa<|Z0 rfl (fun c6 => ?_) (fun c6 => ?_)
   ·try simp only [DD] at c6
    refine U0 (H0 (N0 (M1 ?_)))
    have hk2 : k < (l.getD i S0).af.length := by omega
    have hst := edge_in hok hil hk2
    obtain ⟨ae, rfl⟩ := rdA hE (by omega)
    by_cases hu : okUp l out i k
    ·refine L0<|C0 1 rfl<|I0 (Bt (C3 rfl) (by rw [dA hu])) rfl<|C0 3 rfl<|Q0 rfl<|I0 (N2 underlying34 inf68 rfl rfl (n := i) rfl (by omega)) rfl<|C0 1 rfl<|Q0 rfl<|I0 (K0 underlying66 rfl rfl (by rw [add_add]; exact hL.cell (hcell 4 _ rfl))) rfl<|C0 1 rfl<|Q0 rfl<|I0 (N2 underlying66 inf115 rfl rfl (n := k) rfl (by omega)) rfl<|C0 1 rfl<|Q0 rfl<|I0 (K0 underlying3 rfl rfl (edgeCell hL hE (by omega)).1) rfl<|Q0 rfl<|I0 (X1 (u := .pointer (some ⟨yb, ((l.getD i S0).af.getD k E0).st.toNat, none⟩)) (W0 underlying184 inf4 rfl rfl (n := ((l.getD i S0).af.getD k E0).st.toNat) (by omega) (by omega)) (by rw [add_mk, Nat.zero_add])) rfl<|Q0 rfl<|I0 (K0 underlying4 rfl rfl (hL.ocell (i := 1) rfl ((dn_at (n := ((l.getD i S0).af.getD k E0).st.toNat) (by omega)).trans (by rw [Int.toNat_of_nonneg hst.1])))) rfl<|C0 2 rfl<|J0<|N1<|H0<|L0<|C0 1 rfl<|I0 (V0 rfl rfl (by omega)) rfl<|C0 1 rfl<|J0<|F1 (k + 1) (by omega) ⟨rfl, rfl, rfl, rfl, rfl, (by show some (Value.bool _) = some (Value.bool _); rw [okUp_s hu]), rfl, trivial⟩ ⟨by omega, hL⟩
    refine L0<|C0 1 rfl<|I0 (Bf (C3 rfl) (by rw [dN hu])) rfl<|C0 14 rfl<|J0<|N1<|H0<|L0<|C0 1 rfl<|I0 (V0 rfl rfl (by omega)) rfl<|C0 1 rfl<|J0<|F1 (k + 1) (by omega) ⟨rfl, rfl, rfl, rfl, rfl, (by show some (Value.bool _) = some (Value.bool _); rw [dN (okUp_n hu)]), rfl, trivial⟩ ⟨by omega, hL⟩
   try simp only [DD] at c6
   refine U1<|B2<|WX.cut<|E2<|H0<|Wi<|C0 1 rfl<|Wa<|Z0 rfl (fun c7 => ?_) (fun c7 => ?_)
   ·try simp only [DD] at c7
    refine L0<|C0 2 rfl<|J0<|N1<|H0<|L0<|C0 1 rfl<|I0 (V0 rfl rfl (by omega)) rfl<|C0 1 rfl<|J0 ?_
    have hkk : k = (l.getD i S0).af.length := by omega
    subst hkk
    exact F1 (⟨i + 1, (i : Int)⟩ : Nat × Int) (by show l.length - (i + 1) < l.length - i; omega) ⟨rfl, rfl, rfl, rfl, rfl, trivial⟩ ⟨by show i + 1 ≤ _; omega, .inr ⟨i, rfl, rfl, c7, hno⟩, hL⟩
   try simp only [DD] at c7
   refine U0<|N1<|H0<|L0<|C0 1 rfl<|I0 (V0 rfl rfl (by omega)) rfl<|C0 1 rfl<|J0 ?_
   have hkk : k = (l.getD i S0).af.length := by omega
   subst hkk
   exact F1 (⟨i + 1, -1⟩ : Nat × Int) (by show l.length - (i + 1) < l.length - i; omega) ⟨rfl, rfl, rfl, rfl, rfl, trivial⟩ ⟨by show i + 1 ≤ _; omega, .inl ⟨rfl, fun j hj => (by
    have hj : j < i + 1 := hj
    by_cases e : j = i
    ·subst e; exact c7
    exact hno j (by omega))⟩, hL⟩
  ·refine L0<|C0 2 rfl<|I0 (Y0 underlying34 rfl rfl) rfl<|I0 (Bf (Q1 rfl rfl) (dN (by omega))) rfl<|C0 4 rfl<|Wa<|E1 rfl (rfl)<|U1<|B2<|WX.cut<|E2<|H0<|N0<|Wi<|C0 1 rfl<|I0 (Bt (Q1 rfl rfl) rfl) rfl<|Wa<|J1 rfl (rfl)<|Wi<|C0 2 rfl<|J0 (H0 (O1 ?_))
   have e1 := nextM_none (l := l) (out := out) (fun j hj => hno j (by omega))
   have e2 : ordM l = out := hm.trans (ordF_none e1)
   exact ret1 rfl rfl (by rw [e2]; exact Row.gives hro (hL.drop 1))
  ·refine L0<|C0 2 rfl<|I0 (Y0 underlying34 rfl rfl) rfl<|I0 (Bt (Q1 rfl rfl) (dA (by omega))) rfl<|C0 2 rfl<|Q0 rfl<|I0 (Bf (Q1 rfl rfl) (dN (by omega))) rfl<|C0 1 rfl<|Wa<|E1 rfl (rfl)<|U1<|B2<|WX.cut<|E2<|H0<|N0<|Wi<|C0 1 rfl<|I0 (Bf (Q1 rfl rfl) (dN (by omega))) rfl<|Wa<|E1 rfl (rfl)<|Wk<|C0 2 rfl<|I0 (X1 (u := .pointer (some ⟨yb, m, none⟩)) (W0 underlying184 inf4 rfl rfl (n := m) rfl (by omega)) (by rw [add_mk, Nat.zero_add])) rfl<|E4 hL 1 (f := Value.bool) (xs := dnL l.length out) (u := true) (zs := []) rfl rfl rfl inf4 rfl (Free.zero _) (by rw [dnL_len]; omega) ?_
   intro  w8 h8
   try simp only [ZZ] at h8
   rw [dn_set (by omega)] at h8
   refine Wf<|C0 2 rfl<|X2 (vs := (([(m : Int)] : List Int)).map Vi) h8 rfl underlying33 inf3 rfl rfl rfl rfl rfl fun lit67 w9 h9=>I3 (ys := ([(m : Int)] : List Int)) 1 h9 rfl rfl rfl rfl underlying33 underlying33 (.inr ⟨_, rfl⟩) inf3 rfl hro (Src.lit h9 0 rfl rfl rfl) rfl rfl (by first | omega | (simp []; done) | (simp []; omega)) (by first | omega | (simp []; done) | (simp []; omega)) ?_
   intro r10 v10 w11 hr10 h11
   simp only [lz, ls] at h11
   replace h11 := h11.drop 0
   simp only [ez, es'] at h11
   refine C0 1 rfl<|J0 (N1 ?_)
   obtain ⟨g0, g1, g2⟩ := ordF_some hc (nextM_some (i := m) (by omega) hat hno)
   exact F1 (⟨n - 1, out ++ [(m : Int)], r10, v10⟩ : Nat × List Int × Res × Value) (by show n - 1 < n; omega) ⟨rfl, rfl, rfl, trivial⟩ ⟨hm.trans g1, g2, by show (out ++ [_]).length + (n - 1) = _; rw [lA]; show out.length + 1 + (n - 1) = _; omega, hr10, h11⟩
  refine L0<|C0 2 rfl<|I0 (Y0 underlying34 rfl rfl) rfl<|I0 (Bf (Q1 rfl rfl) (dN (by omega))) rfl<|C0 4 rfl<|Wa<|E1 rfl (rfl)<|U1<|B2<|WX.cut<|E2<|H0<|N0<|Wi<|C0 1 rfl<|I0 (Bf (Q1 rfl rfl) (dN (by omega))) rfl<|Wa<|E1 rfl (rfl)<|Wk<|C0 2 rfl<|I0 (X1 (u := .pointer (some ⟨yb, m, none⟩)) (W0 underlying184 inf4 rfl rfl (n := m) rfl (by omega)) (by rw [add_mk, Nat.zero_add])) rfl<|E4 hL 1 (f := Value.bool) (xs := dnL l.length out) (u := true) (zs := []) rfl rfl rfl inf4 rfl (Free.zero _) (by rw [dnL_len]; omega) ?_
  intro  w12 h12
  try simp only [ZZ] at h12
  rw [dn_set (by omega)] at h12
  refine Wf<|C0 2 rfl<|X2 (vs := (([(m : Int)] : List Int)).map Vi) h12 rfl underlying33 inf3 rfl rfl rfl rfl rfl fun lit67 w13 h13=>I3 (ys := ([(m : Int)] : List Int)) 1 h13 rfl rfl rfl rfl underlying33 underlying33 (.inr ⟨_, rfl⟩) inf3 rfl hro (Src.lit h13 0 rfl rfl rfl) rfl rfl (by first | omega | (simp []; done) | (simp []; omega)) (by first | omega | (simp []; done) | (simp []; omega)) ?_
  intro r14 v14 w15 hr14 h15
  simp only [lz, ls] at h15
  replace h15 := h15.drop 0
  simp only [ez, es'] at h15
  refine C0 1 rfl<|J0 (N1 ?_)
  obtain ⟨g0, g1, g2⟩ := ordF_some hc (nextM_some (i := m) (by omega) hat hno)
  exact F1 (⟨n - 1, out ++ [(m : Int)], r14, v14⟩ : Nat × List Int × Res × Value) (by show n - 1 < n; omega) ⟨rfl, rfl, rfl, trivial⟩ ⟨hm.trans g1, g2, by show (out ++ [_]).length + (n - 1) = _; rw [lA]; show out.length + 1 + (n - 1) = _; omega, hr14, h15⟩
 try simp only [DD] at c3
 refine U1<|B2<|WX.cut<|E2<|H0<|Wi<|C0 2 rfl<|J0 (H0 (O1 ?_))
 have e2 : ordM l = out := by rw [hm, show n = 0 by omega]; rfl
 exact ret1 rfl rfl (by rw [e2]; exact Row.gives hro (hL.drop 1))
theorem qcheck_c (w : World) {A : Option Addr} {cap : Nat} {l : List S} (h : St W F cs w) (hR : RdS KS F A l) (hl : l.length ≤ 100000) (hf : fewE l) : Calls prog 62 #[.slice A l.length cap] w fun r w' => r = .returned (Vi (chkM l)) ∧ St W F cs w'  := by
 refine enter (args := [.slice A l.length cap]) func62 rfl rfl rfl<|Wi<|C0 1 rfl<|J0 (H0 (N0 (N0 ?_)))
 have hcase : l.length < 1 ∨ 16 < l.length ∨ (1 ≤ l.length ∧ l.length ≤ 16) := by omega
 rcases hcase with hb | hb | hb
 ·refine L0<|C0 1 rfl<|I0 (R0 (n := (l.length : Int)) (Y0 underlying34 rfl rfl) rfl) rfl<|I0 (Bt (Q1 rfl rfl) (dA (by omega))) rfl<|C0 5 rfl<|Wa<|J1 rfl (rfl)<|Wi<|C0 1 rfl<|Wg<|ret1 rfl rfl ⟨?_, h⟩
  unfold chkM
  rw [if_pos (by omega)]
 ·refine L0<|C0 1 rfl<|I0 (R0 (n := (l.length : Int)) (Y0 underlying34 rfl rfl) rfl) rfl<|I0 (Bf (Q1 rfl rfl) (dN (by omega))) rfl<|C0 2 rfl<|Q0 rfl<|I0 (Y0 underlying34 rfl rfl) rfl<|Q0 rfl<|I0 (Bt (Y1 rfl rfl) (dA (by omega))) rfl<|C0 1 rfl<|Wa<|J1 rfl (rfl)<|Wi<|C0 1 rfl<|Wg<|ret1 rfl rfl ⟨?_, h⟩
  unfold chkM
  rw [if_pos (by omega)]
 refine L0<|C0 1 rfl<|I0 (R0 (n := (l.length : Int)) (Y0 underlying34 rfl rfl) rfl) rfl<|I0 (Bf (Q1 rfl rfl) (dN (by omega))) rfl<|C0 2 rfl<|Q0 rfl<|I0 (Y0 underlying34 rfl rfl) rfl<|Q0 rfl<|I0 (Bf (Y1 rfl rfl) (dN (by omega))) rfl<|C0 1 rfl<|Wa<|E1 rfl (rfl)<|U0<|H0<|N0<|Wi<|C0 1 rfl<|Wj<|B3 (σ := Nat) (fun q_ => [(0, .slice A l.length cap), (3, .int .i64 (q_ : Int))]) (fun q_ w => q_ ≤ l.length ∧ (∀ j, j < q_ → okS (l.getD j S0) j l.length) ∧ St W F cs w) (fun q_ => l.length - q_) (0) (⟨Nat.zero_le _, fun j hj => absurd hj (Nat.not_lt_zero _), h⟩) ?_
 rintro i w1 ⟨hi, hok, hL⟩
 try dsimp only at hi hok hL
 refine W2 [(0, .slice A l.length cap), (3, .int .i64 (i : Int))]<|N0<|Wi<|C0 2 rfl<|I0 (Y0 underlying34 rfl rfl) rfl<|C0 1 rfl<|Wa<|Z0 rfl (fun c2 => ?_) (fun c2 => ?_)
 ·try simp only [DD] at c2
  refine U0 (H0 (N0 (M1 (N0 ?_))))
  have hi2 : i < l.length := by omega
  obtain ⟨ad, A1, cap1, rfl, hE, hcell⟩ := stepAt hR hi2
  have hf2 := hf i hi2
  refine L0<|C0 2 rfl<|I0 (N2 underlying34 inf68 rfl rfl (n := i) rfl (by omega)) rfl<|I0 (Runs.stepA (s := (l.getD i S0)) hL hcell underlying68 rfl inf68 rfl) rfl<|C0 2 rfl<|I0 (Y0 underlying34 rfl rfl) rfl<|C1 (cn func105) rfl rfl (qstep_c _ (l.getD i S0) (i : Int) l.length hL hE hl hf2) fun w3 h3 =>C0 1 rfl<|Wa<|Z0 rfl (fun c4 => ?_) (fun c4 => ?_)
  ·try simp only [DD] at c4
   refine Wi<|C0 1 rfl<|Wg<|ret1 rfl rfl ⟨?_, h3⟩
   unfold chkM
   rw [if_neg (by omega), if_pos (fun hh => c4 (hh i hi2))]
  try simp only [DD] at c4
  refine U0<|N1<|H0<|L0<|C0 1 rfl<|I0 (V0 rfl rfl (by omega)) rfl<|C0 1 rfl<|J0<|F1 (i + 1) (by omega) ⟨rfl, rfl, trivial⟩ ⟨by omega, fun j hj => (by
   by_cases e : j = i
   ·subst e; exact c4
   exact hok j (by omega)), h3⟩
 try simp only [DD] at c2
 refine U1<|B2<|WX.cut<|E2<|H0<|N0<|N0 ?_
 have hall : okAll l := fun j hj => hok j (by omega)
 refine L0<|C0 1 rfl<|V1 (cn func106) rfl rfl (qorder_c _ hL hR hl hf hall) ?_
 rintro _ w5 ⟨G, A2, cap2, hG, rfl, hc2, hR2, h5⟩
 refine ⟨_, rfl,I0 (R0 (n := ((ordM l).length : Int)) (Y0 underlying33 rfl rfl) rfl) rfl<|C0 1 rfl<|I0 (Y0 underlying34 rfl rfl) rfl<|C0 1 rfl<|Wa<|Z0 rfl (fun c6 => ?_) (fun c6 => ?_)⟩
 ·try simp only [DD] at c6
  refine Wi<|C0 1 rfl<|Wg<|ret1 rfl rfl ⟨?_, h5.weak hG⟩
  unfold chkM
  rw [if_neg (by omega), if_neg (fun hh => hh hall), if_pos (by omega)]
 try simp only [DD] at c6
 refine Wk<|C0 1 rfl<|Wg<|ret1 rfl rfl ⟨?_, h5.weak hG⟩
 unfold chkM
 rw [if_neg (by omega), if_neg (fun hh => hh hall), if_neg (by omega)]
theorem chk_ok {l : List S} (h : chkM l = 0) : okAll l ∧ (1 ≤ l.length ∧ l.length ≤ 16) ∧ l.length ≤ (ordM l).length := by
 unfold chkM at h
 split at h
 ·cases h
 split at h
 ·cases h
 rename_i h1 h2
 split at h
 ·cases h
 exact ⟨Classical.byContradiction fun hh => h2 hh, by omega, by omega⟩
def smallL (l : List S) : Prop := l.length ≤ 30 ∧ ∀ i, i < l.length → (l.getD i S0).af.length ≤ 30
instance (l : List S) : Decidable (smallL l) := inferInstanceAs (Decidable (_ ∧ _))
theorem smallL.few {l : List S} (h : smallL l) : fewE l ∧ l.length ≤ 100000 := ⟨fun i hi => by have := h.2 i hi; omega, by have := h.1; omega⟩
theorem small_c (w : World) {A : Option Addr} {cap : Nat} {l : List S} (h : St W F cs w) (hR : RdS KS F A l) (hl : l.length ≤ 9223372036854775807) : Calls prog 23 #[.slice A l.length cap] w fun r w' => r = .returned (.bool (decide (smallL l))) ∧ St W F cs w'  := by
 refine enter (args := [.slice A l.length cap]) func23 rfl rfl rfl<|Wi<|C0 1 rfl<|Wh<|C0 1 rfl<|Wj<|B3 (σ := Nat) (fun q_ => [(0, .slice A l.length cap), (3, .int .i64 (q_ : Int))]) (fun q_ w => q_ ≤ l.length ∧ (∀ j, j < q_ → (l.getD j S0).af.length ≤ 30) ∧ St W F cs w) (fun q_ => l.length - q_) (0) (⟨Nat.zero_le _, fun j hj => absurd hj (Nat.not_lt_zero _), h⟩) ?_
 rintro i w1 ⟨hi, hok, hL⟩
 try dsimp only at hi hok hL
 refine W2 [(0, .slice A l.length cap), (3, .int .i64 (i : Int))]<|N0<|Wi<|C0 2 rfl<|I0 (Y0 underlying34 rfl rfl) rfl<|C0 1 rfl<|Wa<|Z0 rfl (fun c2 => ?_) (fun c2 => ?_)
 ·try simp only [DD] at c2
  refine U0 (H0 (N0 (M1 (N0 ?_))))
  have hi2 : i < l.length := by omega
  obtain ⟨ad, A1, cap1, rfl, hE, hcell⟩ := stepAt hR hi2
  refine L0<|C0 2 rfl<|I0 (N2 underlying34 inf68 rfl rfl (n := i) rfl (by omega)) rfl<|C0 1 rfl<|I0 (K0 underlying66 rfl rfl (by rw [add_add]; exact hL.cell (hcell 4 _ rfl))) rfl<|I0 (R0 (n := ((l.getD i S0).af.length : Int)) (Y0 underlying66 rfl rfl) rfl) rfl<|C0 1 rfl<|Wa<|Z0 rfl (fun c3 => ?_) (fun c3 => ?_)
  ·try simp only [DD] at c3
   refine Wi<|C0 1 rfl<|J0 (H0 (O1 ?_))
   have hz : ¬ smallL l := fun hh => by have := hh.2 i hi2; omega
   refine ret1 rfl rfl ⟨?_, hL⟩
   rw [dN hz]
  try simp only [DD] at c3
  refine U0<|N1<|H0<|L0<|C0 1 rfl<|I0 (V0 rfl rfl (by omega)) rfl<|C0 1 rfl<|J0<|F1 (i + 1) (by omega) ⟨rfl, rfl, trivial⟩ ⟨by omega, fun j hj => (by
   by_cases e : j = i
   ·subst e; omega
   exact hok j (by omega)), hL⟩
 try simp only [DD] at c2
 refine U1<|B2<|WX.cut<|E2<|H0<|Wi<|C0 1 rfl<|I0 (Y0 underlying34 rfl rfl) rfl<|C0 2 rfl<|J0 (H0 (O1 ?_))
 have he : decide (smallL l) = decide ((l.length : Int) ≤ 30) := decide_eq_decide.2 ⟨fun hh => by have := hh.1; omega, fun hh => ⟨by omega, fun j hj => hok j (by omega)⟩⟩
 refine ret1 rfl rfl ⟨?_, hL⟩
 rw [he]
theorem same_c (w : World) {A B : Option Addr} {cap cap2 : Nat} {xs : List Int} (h : St W F cs w) (hA : RdS (Kd.one Vi) F A xs) (hB : RdS (Kd.one Vi) F B xs) (hn : xs.length ≤ 100000) : Calls prog 51 #[.slice A xs.length cap, .slice B xs.length cap2] w fun e w' => e = .returned (.bool true) ∧ St W F cs w'  := by
 refine enter (args := [.slice A xs.length cap, .slice B xs.length cap2]) func51 rfl rfl rfl<|Wi<|C0 1 rfl<|Wh<|C0 1 rfl<|I0 (Y0 underlying33 rfl rfl) rfl<|C0 1 rfl<|I0 (Y0 underlying33 rfl rfl) rfl<|I0 (Bf (J2 rfl rfl) (by simp)) rfl<|Wa<|E1 rfl (rfl)<|U0<|H0<|N0<|Wi<|C0 1 rfl<|Wj<|B3 (σ := Nat) (fun q_ => [(0, .slice A xs.length cap), (1, .slice B xs.length cap2), (5, .int .i64 (q_ : Int))]) (fun q_ w => q_ ≤ xs.length ∧ St W F cs w) (fun q_ => xs.length - q_) (0) (⟨by omega, h⟩) ?_
 rintro i w1 ⟨hi, hL⟩
 try dsimp only at hi hL
 refine W2 [(0, .slice A xs.length cap), (1, .slice B xs.length cap2), (5, .int .i64 (i : Int))]<|N0<|Wi<|C0 2 rfl<|I0 (Y0 underlying33 rfl rfl) rfl<|C0 1 rfl<|Wa<|Z0 rfl (fun c2 => ?_) (fun c2 => ?_)
 ·try simp only [DD] at c2
  refine U0 (H0 (N0 (M1 (N0 ?_))))
  obtain ⟨a1, rfl, hra⟩ := rd1 hA (by omega)
  obtain ⟨b1, rfl, hrb⟩ := rd1 hB (by omega)
  refine T2 (C := fun w_ => St W F _ w_) mixed (by kernel_rfl) (hL.drew)<|M2 2 rfl<|X0 (fun w_ hC_ => W0 underlying33 inf3 rfl rfl (n := i) rfl (by omega)) rfl<|X0 (fun w_ hC_ => I1 (f := Vi) (0 : Int) hC_ hra (n := i) (by omega) underlying3 rfl rfl) rfl<|M2 2 rfl<|X0 (fun w_ hC_ => W0 underlying33 inf3 rfl rfl (n := i) rfl (by omega)) rfl<|X0 (fun w_ hC_ => I1 (f := Vi) (0 : Int) hC_ hrb (n := i) (by omega) underlying3 rfl rfl) rfl<|X0 (fun w_ hC_ => Bf (J2 rfl rfl) (by simp)) rfl<|K3 fun w3 h3=>H0<|E1 rfl (rfl)<|U0<|N1<|H0<|L0<|C0 1 rfl<|I0 (V0 rfl rfl (by omega)) rfl<|C0 1 rfl<|J0<|F1 (i + 1) (by omega) ⟨rfl, rfl, rfl, trivial⟩ ⟨by omega, h3⟩
 try simp only [DD] at c2
 refine U1<|B2<|WX.cut<|E2<|H0<|Wi<|C0 1 rfl<|Wg<|ret1 rfl rfl ⟨rfl, hL⟩
theorem any_f {α : Type} {xs : List α} {p : α → Bool} {d : α} (h : ∀ j, j < xs.length → p (xs.getD j d) = false) : xs.any p = false := by
 rw [List.any_eq_false]
 intro x hx
 obtain ⟨j, hj, rfl⟩ := List.getElem_of_mem hx
 have := h j hj
 rw [gD, gE hj] at this
 simpa using this
theorem any_t {α : Type} {xs : List α} {p : α → Bool} {d : α} {i : Nat} (hi : i < xs.length) (h : p (xs.getD i d) = true) : xs.any p = true := by
 rw [List.any_eq_true]
 rw [gD, gE hi] at h
 exact ⟨_, List.getElem_mem hi, h⟩
theorem memD {α : Type} {xs : List α} {i : Nat} (d : α) (h : i < xs.length) : xs.getD i d ∈ xs := by
 rw [gD, gE h]; exact List.getElem_mem h
def holdsM (e : E) (codes : List Int) : Bool := if e.kd = 0 then decide (codes.getD e.st.toNat 0 = 0) else if e.kd = 1 then !decide (codes.getD e.st.toNat 0 = -1) else inB (codes.getD e.st.toNat 0) 1 255
def withM (l : List S) (codes : List Int) : Int := if chkM l ≠ 0 then chkM l else if codes.length ≠ l.length ∨ (codes.any fun c => !inB c (-1) 256) = true then 5 else 0
theorem two (P Q : Prop) : ¬ P ∨ (P ∧ ¬ Q) ∨ (P ∧ Q) := by
 by_cases h : P <;> by_cases h2 : Q <;> simp [h, h2]
theorem holds_c (w : World) {A2 : Option Addr} {cap2 : Nat} {codes : List Int} (e : E) (h : St W F cs w) (hR : RdW W F cs Vi A2 codes) (h0 : 0 ≤ e.st ∧ e.st < codes.length) : Calls prog 143 #[.agg #[Vi e.st, Vi e.kd], .slice A2 codes.length cap2] w fun r w' => r = .returned (.bool (holdsM e codes)) ∧ St W F cs w'  := by
 refine enter (args := [.agg #[Vi e.st, Vi e.kd], .slice A2 codes.length cap2]) func143 rfl rfl rfl ?_
 obtain ⟨ad, rfl, hrd⟩ := hR.at1 (by omega)
 refine Wi<|J3 rfl h rfl fun b2 w1 h1=>C0 1 rfl<|We<|H1 h1 [0] 3 rfl<|I0 (W0 underlying33 inf3 rfl rfl (n := e.st.toNat) (by omega) (by omega)) rfl<|I0 (K0 underlying3 rfl rfl (hrd _ (h1.drop 0) e.st.toNat 0 (by omega))) rfl<|C0 1 rfl<|Wh<|H1 h1 [0] 2 rfl<|Wj<|Wi<|C0 2 rfl<|Wa<|Z0 rfl (fun c2 => ?_) (fun c2 => ?_)
 ·try simp only [DD] at c2
  refine Wi<|C0 3 rfl<|Wg<|ret1 rfl rfl ⟨?_, h1.drop 0⟩
  unfold holdsM
  rw [if_pos c2]
 try simp only [DD] at c2
 refine Wi<|C0 2 rfl<|Wa<|Z0 rfl (fun c3 => ?_) (fun c3 => ?_)
 ·try simp only [DD] at c3
  refine Wi<|C0 3 rfl<|Wg<|ret1 rfl rfl ⟨?_, h1.drop 0⟩
  unfold holdsM
  rw [if_neg c2, if_pos c3]
 try simp only [DD] at c3
 refine U0<|N1<|H0<|Wi<|C0 1 rfl<|C1 (cn func94) rfl rfl (in_c _ (codes.getD e.st.toNat 0) 1 255 h1) fun w4 h4 =>C0 1 rfl<|Wg<|ret1 rfl rfl ⟨?_, h4.drop 0⟩
 unfold holdsM
 rw [if_neg c2, if_neg c3]
theorem qholds_c (w : World) {A2 : Option Addr} {cap2 : Nat} {codes : List Int} (e : E) (h : St W F cs w) (hR : RdW W F cs Vi A2 codes) (h0 : 0 ≤ e.st ∧ e.st < codes.length) : Calls prog 148 #[.agg #[Vi e.st, Vi e.kd], .slice A2 codes.length cap2] w fun r w' => r = .returned (.bool (holdsM e codes)) ∧ St W F cs w'  := by
 refine enter (args := [.agg #[Vi e.st, Vi e.kd], .slice A2 codes.length cap2]) func148 rfl rfl rfl ?_
 obtain ⟨ad, rfl, hrd⟩ := hR.at1 (by omega)
 refine Wi<|J3 rfl h rfl fun b2 w1 h1=>C0 1 rfl<|We<|H1 h1 [0] 3 rfl<|I0 (W0 underlying33 inf3 rfl rfl (n := e.st.toNat) (by omega) (by omega)) rfl<|I0 (K0 underlying3 rfl rfl (hrd _ (h1.drop 0) e.st.toNat 0 (by omega))) rfl<|C0 1 rfl<|Wh<|H1 h1 [0] 2 rfl<|Wj<|Wi<|C0 2 rfl<|Wa<|Z0 rfl (fun c2 => ?_) (fun c2 => ?_)
 ·try simp only [DD] at c2
  refine Wi<|C0 3 rfl<|Wg<|ret1 rfl rfl ⟨?_, h1.drop 0⟩
  unfold holdsM
  rw [if_pos c2]
 try simp only [DD] at c2
 refine Wi<|C0 2 rfl<|Wa<|Z0 rfl (fun c3 => ?_) (fun c3 => ?_)
 ·try simp only [DD] at c3
  refine Wi<|C0 3 rfl<|Wg<|ret1 rfl rfl ⟨?_, h1.drop 0⟩
  unfold holdsM
  rw [if_neg c2, if_pos c3]
 try simp only [DD] at c3
 refine U0 (N1 (H0 (N0 ?_)))
 rcases two ((codes.getD e.st.toNat 0) ≥ 1) ((codes.getD e.st.toNat 0) ≤ 255) with n0 | ⟨y0, n1⟩ | ⟨y0, y1⟩
 ·refine L0<|C0 1 rfl<|I0 (Bf (T1 rfl rfl) (dN n0)) rfl<|C0 5 rfl<|Wg<|ret1 rfl rfl ⟨?_, h1.drop 0⟩
  unfold holdsM
  rw [if_neg c2, if_neg c3, inB_f (by omega)]; rfl
 ·refine L0<|C0 1 rfl<|I0 (Bt (T1 rfl rfl) (dA y0)) rfl<|C0 2 rfl<|Q0 rfl<|I0 (Bf (Z1 rfl rfl) (dN n1)) rfl<|C0 2 rfl<|Wg<|ret1 rfl rfl ⟨?_, h1.drop 0⟩
  unfold holdsM
  rw [if_neg c2, if_neg c3, inB_f (by omega)]; rfl
 refine L0<|C0 1 rfl<|I0 (Bt (T1 rfl rfl) (dA y0)) rfl<|C0 2 rfl<|Q0 rfl<|I0 (Bt (Z1 rfl rfl) (dA y1)) rfl<|C0 2 rfl<|Wg<|ret1 rfl rfl ⟨?_, h1.drop 0⟩
 unfold holdsM
 rw [if_neg c2, if_neg c3, inB_t ⟨y0, y1⟩]; rfl
theorem with1_c (w : World) (n : Int) (h : St W F cs w) : Calls prog 164 #[Vi n] w fun r w' => r = .returned (.bool (!inB n (-1) 256)) ∧ St W F cs w'  := by
 refine enter (args := [Vi n]) func164 rfl rfl rfl<|Wi<|C0 1 rfl<|We<|C0 1 rfl<|C1 (cn func94) rfl rfl (in_c _ n (-1) 256 h) fun w1 h1 =>C0 2 rfl<|Wg<|ret1 rfl rfl ⟨rfl, h1⟩
theorem idxI_c (w : World) {A2 : Option Addr} {cap2 : Nat} {codes : List Int} (g : FuncId) (pr : Int → Bool) (hg : B.Can prog g) (h : St W F cs w) (hR : RdS (Kd.one Vi) F A2 codes) (hn : codes.length ≤ 100000) (hcl : ∀ w n, n ∈ codes → St W F cs w → Calls prog g #[Vi n] w fun e w' => e = .returned (.bool (pr n)) ∧ St W F cs w') : Calls prog 156 #[.slice A2 codes.length cap2, .func (.func g) #[] #[]] w fun e w' => (∃ z : Int, e = .returned (Vi z) ∧ decide (0 ≤ z) = codes.any pr) ∧ St W F cs w'  := by
 refine enter (args := [.slice A2 codes.length cap2, .func (.func g) #[] #[]]) func156 rfl rfl rfl<|Wi<|C0 1 rfl<|Wh<|C0 1 rfl<|I0 (Y0 underlying33 rfl rfl) rfl<|C0 1 rfl<|Wj<|B3 (σ := Nat) (fun q_ => [(0, .slice A2 codes.length cap2), (1, .func (.func g) #[] #[]), (7, .int .i64 (codes.length : Int)), (8, .int .i64 (q_ : Int))]) (fun q_ w => q_ ≤ codes.length ∧ (∀ j, j < q_ → pr (codes.getD j 0) = false) ∧ St W F cs w) (fun q_ => codes.length - q_) (0) (⟨Nat.zero_le _, fun j hj => absurd hj (Nat.not_lt_zero _), h⟩) ?_
 rintro i w1 ⟨hi, hno, hL⟩
 try dsimp only at hi hno hL
 refine W2 [(0, .slice A2 codes.length cap2), (1, .func (.func g) #[] #[]), (7, .int .i64 (codes.length : Int)), (8, .int .i64 (i : Int))]<|Wi<|C0 1 rfl<|Wb<|Z0 rfl (fun c2 => ?_) (fun c2 => ?_)
 ·try simp only [DD] at c2
  refine U0<|H0<|N0<|M1<|Wi<|C0 2 rfl<|J0 (H0 (N0 ?_))
  obtain ⟨ad, rfl, hrd⟩ := rd1 hR (by omega)
  refine L0<|C0 3 rfl<|I0 (W0 underlying33 inf3 rfl rfl (n := i) rfl (by omega)) rfl<|I0 (I1 (f := Vi) (0 : Int) hL hrd (n := i) (by omega) underlying3 rfl rfl) rfl<|S3 hg rfl rfl rfl (hcl _ _ (memD 0 (by omega)) hL) ?_
  rintro _ w3 ⟨rfl, h3⟩
  refine ⟨_, rfl,Wa<|Z0 rfl (fun c4 => ?_) (fun c4 => ?_)⟩
  ·try simp only [DD] at c4
   refine Wi<|C0 2 rfl<|Wg<|ret1 rfl rfl ⟨⟨_, rfl, by rw [dA (Int.natCast_nonneg i), any_t (d := 0) (by omega) c4]⟩, h3⟩
  try simp only [DD] at c4
  refine U0<|N1<|H0<|L0<|I0 (V0 rfl rfl (by omega)) rfl<|C0 1 rfl<|J0<|F1 (i + 1) (by omega) ⟨rfl, rfl, rfl, rfl, trivial⟩ ⟨by omega, fun j hj => (by
   by_cases e : j = i
   ·subst e; exact c4
   exact hno j (by omega)), h3⟩
 try simp only [DD] at c2
 refine U1<|B2<|WX.cut<|E2<|H0<|Wi<|C0 1 rfl<|Wg<|ret1 rfl rfl ⟨⟨_, rfl, by rw [any_f (d := 0) (fun j hj => hno j (by omega))]; rfl⟩, hL⟩
theorem cfI_c (w : World) {A2 : Option Addr} {cap2 : Nat} {codes : List Int} (g : FuncId) (pr : Int → Bool) (hg : B.Can prog g) (h : St W F cs w) (hR : RdS (Kd.one Vi) F A2 codes) (hn : codes.length ≤ 100000) (hcl : ∀ w n, n ∈ codes → St W F cs w → Calls prog g #[Vi n] w fun e w' => e = .returned (.bool (pr n)) ∧ St W F cs w') : Calls prog 163 #[.slice A2 codes.length cap2, .func (.func g) #[] #[]] w fun e w' => e = .returned (.bool (codes.any pr)) ∧ St W F cs w'  := by
 refine enter (args := [.slice A2 codes.length cap2, .func (.func g) #[] #[]]) func163 rfl rfl rfl<|Wi<|C0 1 rfl<|We<|C0 2 rfl<|V1 (cn func156) rfl rfl (idxI_c _ g pr hg h hR hn hcl) ?_
 rintro _ w1 ⟨⟨k, rfl, hk⟩, h1⟩
 refine ⟨_, rfl,C0 2 rfl<|Wg<|ret1 rfl rfl ⟨by rw [← hk], h1⟩⟩
theorem idxE_c (w : World) {A : Option Addr} {cap : Nat} {es : List E} (g : FuncId) (cp : Value) (pr : E → Bool) (hg : B.Can prog g) (h : St W F cs w) (hR : RdS KE F A es) (hn : es.length ≤ 100000) (hcl : ∀ w e, e ∈ es → St W F cs w → Calls prog g #[.agg #[Vi e.st, Vi e.kd], cp] w fun r w' => r = .returned (.bool (pr e)) ∧ St W F cs w') : Calls prog 165 #[.slice A es.length cap, .func (.func g) #[] #[cp]] w fun e w' => (∃ z : Int, e = .returned (Vi z) ∧ decide (0 ≤ z) = es.any pr) ∧ St W F cs w'  := by
 refine enter (args := [.slice A es.length cap, .func (.func g) #[] #[cp]]) func165 rfl rfl rfl<|Wi<|C0 1 rfl<|Wh<|C0 1 rfl<|I0 (Y0 underlying66 rfl rfl) rfl<|C0 1 rfl<|Wj<|B3 (σ := Nat) (fun q_ => [(0, .slice A es.length cap), (1, .func (.func g) #[] #[cp]), (7, .int .i64 (es.length : Int)), (8, .int .i64 (q_ : Int))]) (fun q_ w => q_ ≤ es.length ∧ (∀ j, j < q_ → pr (es.getD j E0) = false) ∧ St W F cs w) (fun q_ => es.length - q_) (0) (⟨Nat.zero_le _, fun j hj => absurd hj (Nat.not_lt_zero _), h⟩) ?_
 rintro i w1 ⟨hi, hno, hL⟩
 try dsimp only at hi hno hL
 refine W2 [(0, .slice A es.length cap), (1, .func (.func g) #[] #[cp]), (7, .int .i64 (es.length : Int)), (8, .int .i64 (i : Int))]<|Wi<|C0 1 rfl<|Wb<|Z0 rfl (fun c2 => ?_) (fun c2 => ?_)
 ·try simp only [DD] at c2
  refine U0<|H0<|N0<|M1<|Wi<|C0 2 rfl<|J0 (H0 (N0 ?_))
  obtain ⟨ad, rfl⟩ := rdA hR (by omega)
  refine L0<|C0 3 rfl<|I0 (N2 underlying66 inf115 rfl rfl (n := i) rfl (by omega)) rfl<|I0 (R5 hL hR rfl (by omega) underlying115 rfl inf115 rfl) rfl<|S3 hg rfl rfl rfl (hcl _ (es.getD i E0) (memD E0 (by omega)) hL) ?_
  rintro _ w3 ⟨rfl, h3⟩
  refine ⟨_, rfl,Wa<|Z0 rfl (fun c4 => ?_) (fun c4 => ?_)⟩
  ·try simp only [DD] at c4
   refine Wi<|C0 2 rfl<|Wg<|ret1 rfl rfl ⟨⟨_, rfl, by rw [dA (Int.natCast_nonneg i), any_t (d := E0) (by omega) c4]⟩, h3⟩
  try simp only [DD] at c4
  refine U0<|N1<|H0<|L0<|I0 (V0 rfl rfl (by omega)) rfl<|C0 1 rfl<|J0<|F1 (i + 1) (by omega) ⟨rfl, rfl, rfl, rfl, trivial⟩ ⟨by omega, fun j hj => (by
   by_cases e : j = i
   ·subst e; exact c4
   exact hno j (by omega)), h3⟩
 try simp only [DD] at c2
 refine U1<|B2<|WX.cut<|E2<|H0<|Wi<|C0 1 rfl<|Wg<|ret1 rfl rfl ⟨⟨_, rfl, by rw [any_f (d := E0) (fun j hj => hno j (by omega))]; rfl⟩, hL⟩
theorem cfE_c (w : World) {A : Option Addr} {cap : Nat} {es : List E} (g : FuncId) (cp : Value) (pr : E → Bool) (hg : B.Can prog g) (h : St W F cs w) (hR : RdS KE F A es) (hn : es.length ≤ 100000) (hcl : ∀ w e, e ∈ es → St W F cs w → Calls prog g #[.agg #[Vi e.st, Vi e.kd], cp] w fun r w' => r = .returned (.bool (pr e)) ∧ St W F cs w') : Calls prog 144 #[.slice A es.length cap, .func (.func g) #[] #[cp]] w fun e w' => e = .returned (.bool (es.any pr)) ∧ St W F cs w'  := by
 refine enter (args := [.slice A es.length cap, .func (.func g) #[] #[cp]]) func144 rfl rfl rfl<|Wi<|C0 1 rfl<|We<|C0 2 rfl<|V1 (cn func165) rfl rfl (idxE_c _ g cp pr hg h hR hn hcl) ?_
 rintro _ w1 ⟨⟨k, rfl, hk⟩, h1⟩
 refine ⟨_, rfl,C0 2 rfl<|Wg<|ret1 rfl rfl ⟨by rw [← hk], h1⟩⟩
theorem with_c (w : World) {A : Option Addr} {cap : Nat} {l : List S} {A2 : Option Addr} {cap2 : Nat} {codes : List Int} (h : St W F cs w) (hR : RdS KS F A l) (hl : l.length ≤ 100000) (hf : fewE l) (hRc : RdS (Kd.one Vi) F A2 codes) (hc : codes.length ≤ 100000) : Calls prog 141 #[.slice A l.length cap, .slice A2 codes.length cap2] w fun r w' => r = .returned (Vi (withM l codes)) ∧ St W F cs w'  := by
 refine enter (args := [.slice A l.length cap, .slice A2 codes.length cap2]) func141 rfl rfl rfl<|Wi<|C0 1 rfl<|Wh<|C0 1 rfl<|C1 (cn func54) rfl rfl (check_c _ h hR hl hf) fun w1 h1 =>C0 1 rfl<|We<|C0 2 rfl<|Wa<|Z0 rfl (fun c2 => ?_) (fun c2 => ?_)
 ·try simp only [DD] at c2
  refine Wi<|C0 2 rfl<|Wg<|ret1 rfl rfl ⟨?_, h1⟩
  unfold withM
  rw [if_pos (by simpa using c2)]
 try simp only [DD] at c2
 refine U0 (H0 (N0 (N0 ?_)))
 have hcase : codes.length ≠ l.length ∨ codes.length = l.length := by omega
 rcases hcase with hx | hx
 ·refine L0<|C0 1 rfl<|I0 (R0 (n := (codes.length : Int)) (Y0 underlying33 rfl rfl) rfl) rfl<|C0 1 rfl<|I0 (R0 (n := (l.length : Int)) (Y0 underlying34 rfl rfl) rfl) rfl<|I0 (Bt (J2 rfl rfl) (by simp; omega)) rfl<|C0 4 rfl<|Wa<|J1 rfl (rfl)<|Wi<|C0 1 rfl<|Wg<|ret1 rfl rfl ⟨?_, h1⟩
  unfold withM
  rw [if_neg (by simpa using c2), if_pos (.inl hx)]
 refine L0<|C0 1 rfl<|I0 (R0 (n := (codes.length : Int)) (Y0 underlying33 rfl rfl) rfl) rfl<|C0 1 rfl<|I0 (R0 (n := (l.length : Int)) (Y0 underlying34 rfl rfl) rfl) rfl<|I0 (Bf (J2 rfl rfl) (by simp; omega)) rfl<|C0 2 rfl<|Q0 rfl<|C1 (cn func163) rfl rfl (cfI_c _ 164 (fun c => !inB c (-1) 256) (cn func164) h1 hRc hc (fun w n _ h => with1_c w n h)) fun w3 h3 =>C0 1 rfl<|Wa<|Z0 rfl (fun c4 => ?_) (fun c4 => ?_)
 ·try simp only [DD] at c4
  refine Wi<|C0 1 rfl<|Wg<|ret1 rfl rfl ⟨?_, h3⟩
  unfold withM
  rw [if_neg (by simpa using c2), if_pos (.inr c4)]
 try simp only [DD] at c4
 refine Wk<|C0 1 rfl<|Wg<|ret1 rfl rfl ⟨?_, h3⟩
 unfold withM
 rw [if_neg (by simpa using c2), if_neg (by rintro (h1 | h1); exact h1 hx; rw [c4] at h1; cases h1)]
theorem qwith_c (w : World) {A : Option Addr} {cap : Nat} {l : List S} {A2 : Option Addr} {cap2 : Nat} {codes : List Int} (h : St W F cs w) (hR : RdS KS F A l) (hl : l.length ≤ 100000) (hf : fewE l) (hRc : RdS (Kd.one Vi) F A2 codes) (hc : codes.length ≤ 100000) : Calls prog 146 #[.slice A l.length cap, .slice A2 codes.length cap2] w fun r w' => r = .returned (Vi (withM l codes)) ∧ St W F cs w'  := by
 refine enter (args := [.slice A l.length cap, .slice A2 codes.length cap2]) func146 rfl rfl rfl<|Wi<|C0 1 rfl<|We<|C0 1 rfl<|C1 (cn func62) rfl rfl (qcheck_c _ h hR hl hf) fun w1 h1 =>C0 1 rfl<|Wh<|C0 2 rfl<|Wa<|Z0 rfl (fun c2 => ?_) (fun c2 => ?_)
 ·try simp only [DD] at c2
  refine Wi<|C0 2 rfl<|Wg<|ret1 rfl rfl ⟨?_, h1⟩
  unfold withM
  rw [if_pos (by simpa using c2)]
 try simp only [DD] at c2
 refine U0<|H0<|N0<|Wi<|C0 1 rfl<|I0 (R0 (n := (codes.length : Int)) (Y0 underlying33 rfl rfl) rfl) rfl<|C0 1 rfl<|I0 (R0 (n := (l.length : Int)) (Y0 underlying34 rfl rfl) rfl) rfl<|C0 1 rfl<|Wa<|Z0 rfl (fun c3 => ?_) (fun c3 => ?_)
 ·try simp only [DD] at c3
  refine Wi<|C0 1 rfl<|Wg<|ret1 rfl rfl ⟨?_, h1⟩
  unfold withM
  rw [if_neg (by simpa using c2), if_pos (.inl (by omega))]
 try simp only [DD] at c3
 refine U0<|H0<|N0<|Wi<|C0 1 rfl<|Wj<|B3 (σ := Nat) (fun q_ => [(1, .slice A2 codes.length cap2), (6, .int .i64 (q_ : Int))]) (fun q_ w => q_ ≤ codes.length ∧ (∀ j, j < q_ → (!inB (codes.getD j 0) (-1) 256) = false) ∧ St W F cs w) (fun q_ => codes.length - q_) (0) (⟨Nat.zero_le _, fun j hj => absurd hj (Nat.not_lt_zero _), h1⟩) ?_
 rintro i w4 ⟨hi, hok, hL⟩
 try dsimp only at hi hok hL
 refine W2 [(1, .slice A2 codes.length cap2), (6, .int .i64 (i : Int))]<|N0<|Wi<|C0 2 rfl<|I0 (Y0 underlying33 rfl rfl) rfl<|C0 1 rfl<|Wa<|Z0 rfl (fun c5 => ?_) (fun c5 => ?_)
 ·try simp only [DD] at c5
  refine U0 (H0 (N0 (M1 (N0 ?_))))
  obtain ⟨ad, rfl, hrd⟩ := rd1 hRc (by omega)
  have hi2 : i < codes.length := by omega
  have hcase : (codes.getD i 0) < -1 ∨ (-1 ≤ (codes.getD i 0) ∧ 256 < (codes.getD i 0)) ∨ (-1 ≤ (codes.getD i 0) ∧ (codes.getD i 0) ≤ 256) := by omega
  rcases hcase with hx | hx | hx
  ·refine L0<|C0 2 rfl<|I0 (W0 underlying33 inf3 rfl rfl (n := i) rfl (by omega)) rfl<|I0 (I1 (f := Vi) (0 : Int) hL hrd (n := i) (by omega) underlying3 rfl rfl) rfl<|I0 (Bt (Q1 rfl rfl) (dA (by omega))) rfl<|C0 7 rfl<|Wa<|J1 rfl (rfl)<|Wi<|C0 1 rfl<|Wg<|ret1 rfl rfl ⟨?_, hL⟩
   unfold withM
   rw [if_neg (by simpa using c2), if_pos (.inr (any_t (d := 0) hi2 (by rw [inB_f (by omega)]; rfl)))]
  ·refine L0<|C0 2 rfl<|I0 (W0 underlying33 inf3 rfl rfl (n := i) rfl (by omega)) rfl<|I0 (I1 (f := Vi) (0 : Int) hL hrd (n := i) (by omega) underlying3 rfl rfl) rfl<|I0 (Bf (Q1 rfl rfl) (dN (by omega))) rfl<|C0 3 rfl<|Q0 rfl<|I0 (W0 underlying33 inf3 rfl rfl (n := i) rfl (by omega)) rfl<|Q0 rfl<|I0 (I1 (f := Vi) (0 : Int) hL hrd (n := i) (by omega) underlying3 rfl rfl) rfl<|Q0 rfl<|I0 (Bt (Y1 rfl rfl) (dA (by omega))) rfl<|C0 1 rfl<|Wa<|J1 rfl (rfl)<|Wi<|C0 1 rfl<|Wg<|ret1 rfl rfl ⟨?_, hL⟩
   unfold withM
   rw [if_neg (by simpa using c2), if_pos (.inr (any_t (d := 0) hi2 (by rw [inB_f (by omega)]; rfl)))]
  refine L0<|C0 2 rfl<|I0 (W0 underlying33 inf3 rfl rfl (n := i) rfl (by omega)) rfl<|I0 (I1 (f := Vi) (0 : Int) hL hrd (n := i) (by omega) underlying3 rfl rfl) rfl<|I0 (Bf (Q1 rfl rfl) (dN (by omega))) rfl<|C0 3 rfl<|Q0 rfl<|I0 (W0 underlying33 inf3 rfl rfl (n := i) rfl (by omega)) rfl<|Q0 rfl<|I0 (I1 (f := Vi) (0 : Int) hL hrd (n := i) (by omega) underlying3 rfl rfl) rfl<|Q0 rfl<|I0 (Bf (Y1 rfl rfl) (dN (by omega))) rfl<|C0 1 rfl<|Wa<|E1 rfl (rfl)<|U0<|N1<|H0<|L0<|C0 1 rfl<|I0 (V0 rfl rfl (by omega)) rfl<|C0 1 rfl<|J0<|F1 (i + 1) (by omega) ⟨rfl, rfl, trivial⟩ ⟨by omega, fun j hj => (by
   by_cases e : j = i
   ·subst e; rw [inB_t hx]; rfl
   exact hok j (by omega)), hL⟩
 try simp only [DD] at c5
 refine U1<|B2<|WX.cut<|E2<|H0<|Wi<|C0 1 rfl<|Wg<|ret1 rfl rfl ⟨?_, hL⟩
 unfold withM
 rw [if_neg (by simpa using c2), if_neg (by rintro (h1 | h1); omega; rw [any_f (d := 0) (fun j hj => hok j (by omega))] at h1; cases h1)]
def rdyAt (l : List S) (codes : List Int) (i : Nat) : Prop := codes.getD i 0 = -1 ∧ ∀ k, k < (l.getD i S0).af.length → holdsM ((l.getD i S0).af.getD k E0) codes = true
instance (l : List S) (codes : List Int) (i : Nat) : Decidable (rdyAt l codes i) := inferInstanceAs (Decidable (_ ∧ _))
def rdyL (l : List S) (codes : List Int) : Nat → List Int
 |0 => []
 |n + 1 => if rdyAt l codes n then rdyL l codes n ++ [(n : Int)] else rdyL l codes n
theorem rdyL_len (l : List S) (codes : List Int) : ∀ n, (rdyL l codes n).length ≤ n
 |0 => Nat.le_refl _
 |n + 1 => by
  have := rdyL_len l codes n
  rw [rdyL]
  split
  ·rw [lA]; show _ + 1 ≤ _; omega
  omega
theorem rdyL_y {l : List S} {codes : List Int} {n : Nat} (h : rdyAt l codes n) : rdyL l codes (n + 1) = rdyL l codes n ++ [(n : Int)] := by rw [rdyL, if_pos h]
theorem rdyL_n {l : List S} {codes : List Int} {n : Nat} (h : ¬ rdyAt l codes n) : rdyL l codes (n + 1) = rdyL l codes n := by rw [rdyL, if_neg h]
def readyM (l : List S) (codes : List Int) : List Int := if withM l codes = 0 then rdyL l codes l.length else []
def Gives2 (W : World) (F : Snap) (cs : List Res) (xs : List Int) (e : Int) (r : Ending) (w : World) : Prop :=
 ∃ G A cap, Le F G ∧ r = .returned (.tuple #[.slice A xs.length cap, Vi e]) ∧ xs.length ≤ cap ∧ RdS (Kd.one Vi) G A xs ∧ St W G cs w
theorem I5 {W w : World} {F : Snap} {cs : List Res} {T : TypeId} {r : Res} {v : Value} {xs : List Int} (e : Int) (hr : Row T Vi r v xs) (h : St W F (r :: cs) w) : Gives2 W F cs xs e (.returned (.tuple #[v, Vi e])) w := by
 obtain ⟨G, A, cap, h1, h2, h3, h4, h5⟩ := Row.gives hr h
 injection h2 with h2
 subst h2
 exact ⟨G, A, cap, h1, rfl, h3, h4, h5⟩
theorem with_ok {l : List S} {codes : List Int} (h : withM l codes = 0) : chkM l = 0 ∧ codes.length = l.length ∧ ∀ c ∈ codes, -1 ≤ c ∧ c ≤ 256 := by
 unfold withM at h
 split at h
 ·rename_i h1; exact absurd h h1
 rename_i h1
 have h1 : chkM l = 0 := Classical.byContradiction fun hh => h1 hh
 split at h
 ·cases h
 rename_i h2
 refine ⟨h1, Classical.byContradiction fun hh => h2 (.inl hh), fun c hc => ?_⟩
 have h3 : ¬ (codes.any fun c => !inB c (-1) 256) = true := fun hh => h2 (.inr hh)
 rw [List.any_eq_true] at h3
 have h4 : inB c (-1) 256 = true := by
  cases hb : inB c (-1) 256 with
  |true => rfl
  |false => exact absurd ⟨c, hc, by rw [hb]; rfl⟩ h3
 exact of_decide_eq_true h4
def rdyUp (l : List S) (codes : List Int) (i k : Nat) : Prop := codes.getD i 0 = -1 ∧ ∀ j, j < k → holdsM ((l.getD i S0).af.getD j E0) codes = true
instance (l : List S) (codes : List Int) (i k : Nat) : Decidable (rdyUp l codes i k) := inferInstanceAs (Decidable (_ ∧ _))
theorem rdyUp_0 (l : List S) (codes : List Int) (i : Nat) : decide (codes.getD i 0 = -1) = decide (rdyUp l codes i 0) :=
 decide_eq_decide.2 ⟨fun h => ⟨h, fun j hj => absurd hj (Nat.not_lt_zero _)⟩, fun h => h.1⟩
theorem rdyUp_s {l : List S} {codes : List Int} {i k : Nat} (h : rdyUp l codes i k) : holdsM ((l.getD i S0).af.getD k E0) codes = decide (rdyUp l codes i (k + 1)) := by
 cases hh : holdsM ((l.getD i S0).af.getD k E0) codes with
 |true =>
  rw [dA]
  exact ⟨h.1, fun j hj => by
   by_cases e : j = k
   ·subst e; exact hh
   exact h.2 j (by omega)⟩
 |false =>
  rw [dN]
  intro h2
  have := h2.2 k (by omega)
  rw [hh] at this
  cases this
theorem rdyUp_n {l : List S} {codes : List Int} {i k : Nat} (h : ¬ rdyUp l codes i k) : ¬ rdyUp l codes i (k + 1) := fun hh => h ⟨hh.1, fun j hj => hh.2 j (by omega)⟩
theorem qready_c (w : World) {A : Option Addr} {cap : Nat} {l : List S} {A2 : Option Addr} {cap2 : Nat} {codes : List Int} (h : St W F cs w) (hR : RdS KS F A l) (hl : l.length ≤ 100000) (hf : fewE l) (hRc : RdS (Kd.one Vi) F A2 codes) (hc : codes.length ≤ 100000) : Calls prog 109 #[.slice A l.length cap, .slice A2 codes.length cap2] w fun r w' => Gives2 W F cs (readyM l codes) (withM l codes) r w'  := by
 refine enter (args := [.slice A l.length cap, .slice A2 codes.length cap2]) func109 rfl rfl rfl<|Wi<|C0 2 rfl<|We<|C0 2 rfl<|C1 (cn func146) rfl rfl (qwith_c _ h hR hl hf hRc hc) fun w1 h1 =>C0 1 rfl<|Wh<|C0 2 rfl<|Wa<|Z0 rfl (fun c2 => ?_) (fun c2 => ?_)
 ·try simp only [DD] at c2
  refine Wi<|C0 3 rfl<|Wg<|ret2 rfl rfl rfl (by unfold readyM; rw [if_neg (by simpa using c2)]; exact I5 _ (Row.nil 3 Vi) h1.nilRes)
 try simp only [DD] at c2
 refine U0 (H0 (N0 ?_))
 have hw0 : withM l codes = 0 := by simpa using c2
 have hw := with_ok hw0
 have hall := (chk_ok hw.1).1
 refine L0<|C0 1 rfl<|Wh<|C0 1 rfl<|Wj<|B3 (σ := Nat × Res × Value) (fun q_ => [(0, .slice A l.length cap), (1, .slice A2 codes.length cap2), (7, q_.2.2), (8, .int .i64 (q_.1 : Int))]) (fun q_ w => q_.1 ≤ l.length ∧ Row 3 Vi q_.2.1 q_.2.2 (rdyL l codes q_.1) ∧ St W F (q_.2.1 :: cs) w) (fun q_ => l.length - q_.1) (⟨0, [], .slice none 0 0⟩) (⟨Nat.zero_le _, Row.nil _ _, h1.nilRes⟩) ?_
 rintro ⟨i, r, v⟩ w3 ⟨hi, hro, hL⟩
 try dsimp only at hi hro hL
 refine W2 [(0, .slice A l.length cap), (1, .slice A2 codes.length cap2), (7, v), (8, .int .i64 (i : Int))] ?_
 obtain ⟨B, capr, rfl, hcap⟩ := hro.val
 have hln := rdyL_len l codes i
 refine N0<|Wi<|C0 2 rfl<|I0 (Y0 underlying34 rfl rfl) rfl<|C0 1 rfl<|Wa<|Z0 rfl (fun c4 => ?_) (fun c4 => ?_)
 ·try simp only [DD] at c4
  refine U0 (H0 (N0 (M1 (N0 ?_))))
  have hi2 : i < l.length := by omega
  obtain ⟨ad, A1, cap1, rfl, hE, hcell⟩ := stepAt hR hi2
  have hf2 := hf i hi2
  obtain ⟨ac, rfl, hrc⟩ := rd1 hRc (by omega)
  refine L0<|C0 2 rfl<|I0 (W0 underlying33 inf3 rfl rfl (n := i) rfl (by omega)) rfl<|I0 (I1 (f := Vi) (0 : Int) hL hrc (n := i) (by omega) underlying3 rfl rfl) rfl<|I0 (D7 (c := decide (rdyUp l codes i 0)) (L1 rfl rfl) (rdyUp_0 l codes i)) rfl<|C0 1 rfl<|Wh<|C0 1 rfl<|Wj<|B3 (σ := Nat) (fun q_ => [(0, .slice (some ad) l.length cap), (1, .slice (some ac) codes.length cap2), (7, .slice B (rdyL l codes i).length capr), (8, .int .i64 (i : Int)), (9, .bool (decide (rdyUp l codes i q_))), (10, .int .i64 (q_ : Int))]) (fun q_ w => q_ ≤ (l.getD i S0).af.length ∧ St W F (r :: cs) w) (fun q_ => (l.getD i S0).af.length - q_) (0) (⟨Nat.zero_le _, hL⟩) ?_
  rintro k w5 ⟨hk, hL⟩
  try dsimp only at hk hL
  refine W2 [(0, .slice (some ad) l.length cap), (1, .slice (some ac) codes.length cap2), (7, .slice B (rdyL l codes i).length capr), (8, .int .i64 (i : Int)), (9, .bool (decide (rdyUp l codes i k))), (10, .int .i64 (k : Int))]<|N0<|Wi<|C0 3 rfl<|I0 (N2 underlying34 inf68 rfl rfl (n := i) rfl (by omega)) rfl<|C0 1 rfl<|I0 (K0 underlying66 rfl rfl (by rw [add_add]; exact hL.cell (hcell 4 _ rfl))) rfl<|I0 (R0 (n := ((l.getD i S0).af.length : Int)) (Y0 underlying66 rfl rfl) rfl) rfl<|C0 1 rfl<|Wa<|Z0 rfl (fun c6 => ?_) (fun c6 => ?_)
  ·try simp only [DD] at c6
   refine U0 (H0 (N0 (M1 ?_)))
   have hk2 : k < (l.getD i S0).af.length := by omega
   obtain ⟨ae, rfl⟩ := rdA hE (by omega)
   by_cases hu : rdyUp l codes i k
   ·refine L0<|C0 1 rfl<|I0 (Bt (C3 rfl) (by rw [dA hu])) rfl<|C0 2 rfl<|Q0 rfl<|I0 (N2 underlying34 inf68 rfl rfl (n := i) rfl (by omega)) rfl<|C0 1 rfl<|Q0 rfl<|I0 (K0 underlying66 rfl rfl (by rw [add_add]; exact hL.cell (hcell 4 _ rfl))) rfl<|C0 1 rfl<|Q0 rfl<|I0 (N2 underlying66 inf115 rfl rfl (n := k) rfl (by omega)) rfl<|Q0 rfl<|I0 (R5 hL hE rfl (by omega) underlying115 rfl inf115 rfl) rfl<|C0 1 rfl<|Q0 rfl<|C1 (cn func148) rfl rfl (qholds_c _ ((l.getD i S0).af.getD k E0) hL (RdW.of hRc) (by have := edge_in hall hi2 hk2; omega)) fun w7 h7 =>C0 2 rfl<|J0<|N1<|H0<|L0<|C0 1 rfl<|I0 (V0 rfl rfl (by omega)) rfl<|C0 1 rfl<|J0<|F1 (k + 1) (by omega) ⟨rfl, rfl, rfl, rfl, (by show some (Value.bool _) = some (Value.bool _); rw [rdyUp_s hu]), rfl, trivial⟩ ⟨by omega, h7⟩
   refine L0<|C0 1 rfl<|I0 (Bf (C3 rfl) (by rw [dN hu])) rfl<|C0 12 rfl<|J0<|N1<|H0<|L0<|C0 1 rfl<|I0 (V0 rfl rfl (by omega)) rfl<|C0 1 rfl<|J0<|F1 (k + 1) (by omega) ⟨rfl, rfl, rfl, rfl, (by show some (Value.bool _) = some (Value.bool _); rw [dN (rdyUp_n hu)]), rfl, trivial⟩ ⟨by omega, hL⟩
  try simp only [DD] at c6
  refine U1<|B2<|WX.cut<|E2<|H0<|Wi<|C0 1 rfl<|Wa<|Z0 rfl (fun c8 => ?_) (fun c8 => ?_)
  ·try simp only [DD] at c8
   refine L0<|C0 2 rfl<|X2 (vs := (([(i : Int)] : List Int)).map Vi) hL rfl underlying33 inf3 rfl rfl rfl rfl rfl fun lit54 w9 h9=>I3 (ys := ([(i : Int)] : List Int)) 1 h9 rfl rfl rfl rfl underlying33 underlying33 (.inr ⟨_, rfl⟩) inf3 rfl hro (Src.lit h9 0 rfl rfl rfl) rfl rfl (by first | omega | (simp []; done) | (simp []; omega)) (by first | omega | (simp []; done) | (simp []; omega)) ?_
   intro r10 v10 w11 hr10 h11
   simp only [lz, ls] at h11
   replace h11 := h11.drop 0
   simp only [ez, es'] at h11
   refine C0 1 rfl<|J0<|N1<|H0<|L0<|C0 1 rfl<|I0 (V0 rfl rfl (by omega)) rfl<|C0 1 rfl<|J0 ?_
   have hkk : k = (l.getD i S0).af.length := by omega
   subst hkk
   exact F1 (⟨i + 1, r10, v10⟩ : Nat × Res × Value) (by show l.length - (i + 1) < l.length - i; omega) ⟨rfl, rfl, rfl, rfl, trivial⟩ ⟨by show i + 1 ≤ _; omega, (by
    show Row 3 Vi r10 v10 (rdyL l codes (i + 1))
    rw [rdyL_y c8]
    exact hr10), h11⟩
  try simp only [DD] at c8
  refine U0<|N1<|H0<|L0<|C0 1 rfl<|I0 (V0 rfl rfl (by omega)) rfl<|C0 1 rfl<|J0 ?_
  have hkk : k = (l.getD i S0).af.length := by omega
  subst hkk
  exact F1 (⟨i + 1, r, _⟩ : Nat × Res × Value) (by show l.length - (i + 1) < l.length - i; omega) ⟨rfl, rfl, rfl, rfl, trivial⟩ ⟨by show i + 1 ≤ _; omega, (by
   show Row 3 Vi r (.slice B (rdyL l codes i).length capr) (rdyL l codes (i + 1))
   rw [rdyL_n (fun hh => c8 hh)]
   exact hro), hL⟩
 try simp only [DD] at c4
 refine U1<|B2<|WX.cut<|E2<|H0<|Wi<|C0 3 rfl<|J0 (H0 (O1 ?_))
 obtain rfl : i = l.length := by omega
 exact ret2 rfl rfl rfl (by unfold readyM; rw [if_pos hw0, hw0]; exact I5 _ hro hL)
def failM (e : E) (codes : List Int) : Bool := !decide (codes.getD e.st.toNat 0 = -1) && !holdsM e codes
theorem K6 {α : Type} {f : α → Value} {A : Option Addr} {xs : List α} {r : Res} (h : RdW W F cs f A xs) : RdW W F (r :: cs) f A xs := by
 rcases h with h | ⟨ad, hA, h⟩
 ·exact .inl h
 exact .inr ⟨ad, hA, fun w hs => h w (hs.drop 0)⟩
theorem settle1_c (w : World) {A2 : Option Addr} {cap2 : Nat} {codes : List Int} {i cb : Nat} (e : E) (h : St W F cs w) (hi : cs[i]? = some [(cb, .cells #[.slice A2 codes.length cap2] 33 (0, 0))]) (hR : RdW W F cs Vi A2 codes) (h0 : 0 ≤ e.st ∧ e.st < codes.length) : Calls prog 142 #[.agg #[Vi e.st, Vi e.kd], pz cb] w fun r w' => r = .returned (.bool (failM e codes)) ∧ St W F cs w'  := by
 refine enter (args := [.agg #[Vi e.st, Vi e.kd], pz cb]) func142 rfl rfl rfl ?_
 obtain ⟨ad, rfl, hrd⟩ := hR.at1 (by omega)
 refine Wi<|J3 rfl h rfl fun b2 w1 h1=>C0 1 rfl<|J0 (H0 (N0 ?_))
 by_cases hx : (codes.getD e.st.toNat 0) = -1
 ·refine L0<|I0 (K0 underlying33 rfl rfl (h1.ocell (i := i + 1) hi rfl)) rfl<|H1 h1 [0] 2 rfl<|I0 (W0 underlying33 inf3 rfl rfl (n := e.st.toNat) (by omega) (by omega)) rfl<|I0 (K0 underlying3 rfl rfl (hrd _ (h1.drop 0) e.st.toNat 0 (by omega))) rfl<|I0 (Bf (J2 rfl rfl) (by rw [dA hx]; rfl)) rfl<|C0 7 rfl<|Wg<|ret1 rfl rfl ⟨?_, h1.drop 0⟩
  unfold failM
  rw [dA hx]
  rfl
 refine L0<|I0 (K0 underlying33 rfl rfl (h1.ocell (i := i + 1) hi rfl)) rfl<|H1 h1 [0] 2 rfl<|I0 (W0 underlying33 inf3 rfl rfl (n := e.st.toNat) (by omega) (by omega)) rfl<|I0 (K0 underlying3 rfl rfl (hrd _ (h1.drop 0) e.st.toNat 0 (by omega))) rfl<|I0 (Bt (J2 rfl rfl) (by rw [dN hx]; rfl)) rfl<|C0 1 rfl<|Q0 rfl<|I0 (U2 h1 0 rfl underlying115 rfl inf115 rfl rfl) rfl<|Q0 rfl<|I0 (K0 underlying33 rfl rfl (h1.ocell (i := i + 1) hi rfl)) rfl<|Q0 rfl<|C1 (cn func143) rfl rfl (holds_c _ e h1 (K6 hR) h0) fun w2 h2 =>C0 3 rfl<|Wg<|ret1 rfl rfl ⟨?_, h2.drop 0⟩
 unfold failM
 rw [dN hx]
 rfl
theorem clone_c (w : World) {A2 : Option Addr} {cap2 : Nat} {codes : List Int} (h : St W F cs w) (hR : RdS (Kd.one Vi) F A2 codes) (h0 : 0 < codes.length) (hn : codes.length ≤ 100000) : Calls prog 44 #[.slice A2 codes.length cap2] w fun e w' => ∃ r v, e = .returned v ∧ Row 3 Vi r v codes ∧ St W F (r :: cs) w'  := by
 refine enter (args := [.slice A2 codes.length cap2]) func44 rfl rfl rfl ?_
 obtain ⟨ad, rfl, hrd⟩ := rd1 hR h0
 refine Wi<|C0 1 rfl<|Wh<|C0 1 rfl<|I0 (H6 underlying33 rfl rfl) rfl<|Wa<|E1 rfl (rfl)<|Wk<|X2 (vs := (([] : List Int)).map Vi) h rfl underlying33 inf3 rfl rfl rfl rfl rfl fun lit5 w1 h1=>C0 1 rfl<|I3 (ys := codes) 0 h1 rfl rfl rfl rfl underlying33 underlying33 (.inr ⟨_, rfl⟩) inf3 rfl (Row.lit (xs := ([] : List Int)) rfl) (Src.rd hR h1 rfl (fun _ => rfl)) rfl rfl (by first | omega | (simp []; done) | (simp []; omega)) (by first | omega | (simp []; done) | (simp []; omega)) ?_
 intro r2 v2 w3 hr2 h3
 simp only [lz, ls] at h3
 refine C0 1 rfl<|Wg<|ret1 rfl rfl ⟨_, _, rfl, hr2, h3⟩
theorem inf33 : Inf prog 33 (.slice none 0 0) 1 24 := by unfold Inf; kernel_rfl
theorem ordF_in {l : List S} : ∀ {n : Nat} {out : List Int}, (∀ x ∈ out, 0 ≤ x ∧ x < l.length) → ∀ x ∈ ordF l n out, 0 ≤ x ∧ x < l.length
 |0, out, h, x, hx => h x hx
 |n + 1, out, h, x, hx => by
  rw [ordF] at hx
  split at hx
  ·exact h x hx
  rename_i i hi
  refine ordF_in (fun y hy => ?_) x hx
  rcases List.mem_append.1 hy with hy | hy
  ·exact h y hy
  have := (nextM_spec hi).1
  rw [List.mem_singleton] at hy
  omega
theorem ordM_in {l : List S} : ∀ x ∈ ordM l, 0 ≤ x ∧ x < l.length := ordF_in (fun x hx => by cases hx)
theorem ordF_len {l : List S} : ∀ {n : Nat} {out : List Int}, (ordF l n out).length ≤ out.length + n
 |0, out => Nat.le_refl _
 |n + 1, out => by
  rw [ordF]
  split
  ·omega
  rename_i i hi
  have := ordF_len (l := l) (n := n) (out := out ++ [(i : Int)])
  rw [lA] at this
  exact Nat.le_trans this (by show out.length + 1 + n ≤ _; omega)
theorem ordM_len (l : List S) : (ordM l).length ≤ l.length := by
 have := ordF_len (l := l) (n := l.length) (out := [])
 simpa [ordM] using this
theorem edge_mem {l : List S} {c : List Int} (hok : okAll l) {i : Nat} (hi : i < l.length) {e : E} (he : e ∈ (l.getD i S0).af) (hc : c.length = l.length) : 0 ≤ e.st ∧ e.st < c.length := by
 obtain ⟨k, hk, rfl⟩ := List.getElem_of_mem he
 have := edge_in hok hi hk
 rw [gD, gE hk] at this
 have h1 : ((l.getD i S0).af[k]).st < l.length := this.2
 have h0 : 0 ≤ ((l.getD i S0).af[k]).st := this.1
 omega
def stlS (l : List S) (c : List Int) (x : Int) : List Int := if c.getD x.toNat 0 = -1 ∧ ((l.getD x.toNat S0).af.any fun e => failM e c) = true then c.set x.toNat 256 else c
theorem stlS_len (l : List S) (c : List Int) (x : Int) : (stlS l c x).length = c.length := by
 unfold stlS
 split
 ·exact List.length_set
 rfl
def stlF (l : List S) (xs : List Int) (c : List Int) : List Int := xs.foldl (stlS l) c
theorem stlF_s {l : List S} {xs c : List Int} {k : Nat} (h : k < xs.length) : stlF l (xs.take (k + 1)) c = stlS l (stlF l (xs.take k) c) (xs.getD k 0) := by
 have e : xs.take (k + 1) = xs.take k ++ [xs.getD k 0] := by rw [List.take_add_one, gE h, gD, gE h]; rfl
 unfold stlF
 rw [e, List.foldl_append]; rfl
def settleM (l : List S) (codes : List Int) : List Int := if withM l codes = 0 then stlF l (ordM l) codes else []
theorem settle_c (w : World) {A : Option Addr} {cap : Nat} {l : List S} {A2 : Option Addr} {cap2 : Nat} {codes : List Int} (h : St W F cs w) (hR : RdS KS F A l) (hl : l.length ≤ 100000) (hf : fewE l) (hRc : RdS (Kd.one Vi) F A2 codes) (hc : codes.length ≤ 100000) : Calls prog 101 #[.slice A l.length cap, .slice A2 codes.length cap2] w fun r w' => Gives2 W F cs (settleM l codes) (withM l codes) r w'  := by
 refine enter (args := [.slice A l.length cap, .slice A2 codes.length cap2]) func101 rfl rfl rfl<|Wi<|J3 rfl h rfl fun b3 w1 h1=>C0 2 rfl<|Wh<|H1 h1 [0] 2 rfl<|C1 (cn func141) rfl rfl (with_c _ h1 hR hl hf hRc hc) fun w2 h2 =>C0 1 rfl<|We<|C0 2 rfl<|Wa<|Z0 rfl (fun c3 => ?_) (fun c3 => ?_)
 ·try simp only [DD] at c3
  refine Wi<|C0 3 rfl<|Wg<|ret2 rfl rfl rfl (by unfold settleM; rw [if_neg (by simpa using c3)]; exact I5 _ (Row.nil 3 Vi) (h2.drop 0).nilRes)
 try simp only [DD] at c3
 refine U0 (H0 (N0 ?_))
 have hw0 : withM l codes = 0 := by simpa using c3
 have hw := with_ok hw0
 have hall := (chk_ok hw.1).1
 refine L0<|H1 h2 [0] 1 rfl<|V1 (cn func44) rfl rfl (clone_c _ h2 hRc (by have := (chk_ok hw.1).2; omega) hc) ?_
 rintro _ w4 ⟨r0, v0, rfl, hr0, h4⟩
 refine ⟨_, rfl, ?_⟩
 obtain ⟨B0, capr0, rfl, hcap0⟩ := hr0.val
 refine O3 h4 1 rfl rfl rfl inf33 rfl rfl ?_
 intro  w5 h5
 try simp only [ZZ] at h5
 refine Wh<|C0 1 rfl<|V1 (cn func96) rfl rfl (order_c _ h5 hR hl hf) ?_
 rintro _ w6 ⟨G, A3, cap3, hG, rfl, hc3, hR3, h6⟩
 refine ⟨_, rfl,I0 (R0 (n := ((ordM l).length : Int)) (Y0 underlying33 rfl rfl) rfl) rfl<|C0 1 rfl<|Wj<|B3 (σ := Nat × List Int × Res × Value) (fun q_ => [(0, .slice A l.length cap), (3, pz b3), (19, .slice A3 (ordM l).length cap3), (20, .int .i64 ((ordM l).length : Int)), (21, .int .i64 (q_.1 : Int))]) (fun q_ w => q_.1 ≤ (ordM l).length ∧ q_.2.1 = stlF l ((ordM l).take q_.1) codes ∧ q_.2.1.length = l.length ∧ Row 3 Vi q_.2.2.1 q_.2.2.2 q_.2.1 ∧ St W G (q_.2.2.1 :: [(b3, .cells #[q_.2.2.2] 33 (0, 0))] :: cs) w) (fun q_ => (ordM l).length - q_.1) (⟨0, codes, r0, _⟩) (⟨Nat.zero_le _, rfl, hw.2.1, hr0, h6⟩) ?_⟩
 rintro ⟨k, c, r, v⟩ w7 ⟨hk, hcM, hcl, hro, hL⟩
 try dsimp only at hk hcM hcl hro hL
 refine W2 [(0, .slice A l.length cap), (3, pz b3), (19, .slice A3 (ordM l).length cap3), (20, .int .i64 ((ordM l).length : Int)), (21, .int .i64 (k : Int))] ?_
 obtain ⟨B, capr, rfl, hcap⟩ := hro.val
 refine Wi<|C0 1 rfl<|Wb<|Z0 rfl (fun c8 => ?_) (fun c8 => ?_)
 ·try simp only [DD] at c8
  refine U0 (H0 (N0 (M1 (N0 ?_))))
  have hk2 : k < (ordM l).length := by omega
  obtain ⟨a3, rfl, hrd⟩ := rd1 hR3 (by omega)
  have hxi := ordM_in _ (memD 0 hk2)
  have hx2 : ((ordM l).getD k 0).toNat < l.length := by omega
  obtain ⟨ad, A1, cap1, rfl, hE, hcell⟩ := stepAt (hR.mono hG) hx2
  have hf2 := hf _ hx2
  have hlo := ordM_len l
  obtain ⟨bb, zs, fz, rfl, hBv, hfr⟩ := Row.blk hro (by omega)
  injection hBv with e1 e2 e3
  subst e1
  subst e3
  refine L0<|I0 (W0 underlying33 inf3 rfl rfl (n := k) rfl (by omega)) rfl<|I0 (I1 (f := Vi) (0 : Int) hL hrd (n := k) (by omega) underlying3 rfl rfl) rfl<|C0 1 rfl<|We<|I0 (Runs.makeFunc (us := []) (vs := [pz b3]) rfl rfl) rfl<|C0 1 rfl<|J0 (H0 (N0 ?_))
  by_cases hx : c.getD ((ordM l).getD k 0).toNat 0 = -1
  ·refine L0<|H1 hL [1] 2 rfl<|I0 (W0 underlying33 inf3 rfl rfl (n := ((ordM l).getD k 0).toNat) (by omega) (by omega)) rfl<|I0 (I2 (0 : Int) hL 0 rfl hro (n := ((ordM l).getD k 0).toNat) (by omega) underlying3 rfl rfl) rfl<|I0 (Bt (L1 rfl rfl) (dA hx)) rfl<|C0 3 rfl<|Q0 rfl<|I0 (N2 underlying34 inf68 rfl rfl (n := ((ordM l).getD k 0).toNat) (by omega) (by omega)) rfl<|C0 1 rfl<|Q0 rfl<|I0 (K0 underlying66 rfl rfl (by rw [add_add]; exact hL.cell (hcell 4 _ rfl))) rfl<|C0 1 rfl<|Q0 rfl<|C1 (cn func144) rfl rfl (cfE_c _ 142 _ (fun e => failM e c) (cn func142) hL hE hf2 (fun w e he h => settle1_c w e h (i := 1) rfl (RdW.row hro (i := 0) rfl rfl h) (edge_mem hall hx2 he hcl))) fun w9 h9 =>C0 1 rfl<|Wa<|Z0 rfl (fun c10 => ?_) (fun c10 => ?_)
   ·try simp only [DD] at c10
    refine L0<|H1 h9 [1] 2 rfl<|I0 (X1 (u := .pointer (some ⟨bb, ((ordM l).getD k 0).toNat, none⟩)) (W0 underlying33 inf3 rfl rfl (n := ((ordM l).getD k 0).toNat) (by omega) (by omega)) (by rw [add_mk, Nat.zero_add])) rfl<|E4 (n := ((ordM l).getD k 0).toNat) (u := (256 : Int)) h9 0 rfl rfl rfl inf3 rfl hfr (by omega) ?_
    intro  w11 h11
    try simp only [ZZ] at h11
    refine J0<|N1<|H0<|L0<|I0 (V0 rfl rfl (by omega)) rfl<|C0 1 rfl<|J0 ?_
    have e9 : stlS l c ((ordM l).getD k 0) = c.set ((ordM l).getD k 0).toNat 256 := by unfold stlS; rw [if_pos ⟨hx, c10⟩]
    have hr9 := T3 (E := 3) (f := Vi) (b := bb) (fz := fz) (xs := c.set ((ordM l).getD k 0).toNat 256) (zs := zs) (cap := c.length + zs.length) (by rw [List.length_set]) (by rw [List.length_set]; exact hfr)
    rw [List.length_set] at hr9
    exact F1 (⟨k + 1, c.set ((ordM l).getD k 0).toNat 256, _, _⟩ : Nat × List Int × Res × Value) (by show (ordM l).length - (k + 1) < (ordM l).length - k; omega) ⟨rfl, rfl, rfl, rfl, rfl, trivial⟩ ⟨by show k + 1 ≤ _; omega, (by show _ = stlF l ((ordM l).take (k + 1)) codes; rw [stlF_s hk2, ← hcM, e9]), (by show (c.set _ _).length = _; rw [List.length_set]; exact hcl), hr9, h11⟩
   try simp only [DD] at c10
   refine U0<|N1<|H0<|L0<|I0 (V0 rfl rfl (by omega)) rfl<|C0 1 rfl<|J0 ?_
   have e9 : stlS l c ((ordM l).getD k 0) = c := by unfold stlS; rw [if_neg (fun hh => absurd hh.2 (by rw [c10]; simp))]
   exact F1 (⟨k + 1, c, _, _⟩ : Nat × List Int × Res × Value) (by show (ordM l).length - (k + 1) < (ordM l).length - k; omega) ⟨rfl, rfl, rfl, rfl, rfl, trivial⟩ ⟨by show k + 1 ≤ _; omega, (by show _ = stlF l ((ordM l).take (k + 1)) codes; rw [stlF_s hk2, ← hcM, e9]), hcl, hro, h9⟩
  refine L0<|H1 hL [1] 2 rfl<|I0 (W0 underlying33 inf3 rfl rfl (n := ((ordM l).getD k 0).toNat) (by omega) (by omega)) rfl<|I0 (I2 (0 : Int) hL 0 rfl hro (n := ((ordM l).getD k 0).toNat) (by omega) underlying3 rfl rfl) rfl<|I0 (Bf (L1 rfl rfl) (dN hx)) rfl<|C0 9 rfl<|Wa<|E1 rfl (rfl)<|U0<|N1<|H0<|L0<|I0 (V0 rfl rfl (by omega)) rfl<|C0 1 rfl<|J0 ?_
  have e9 : stlS l c ((ordM l).getD k 0) = c := by unfold stlS; rw [if_neg (fun hh => hx hh.1)]
  exact F1 (⟨k + 1, c, _, _⟩ : Nat × List Int × Res × Value) (by show (ordM l).length - (k + 1) < (ordM l).length - k; omega) ⟨rfl, rfl, rfl, rfl, rfl, trivial⟩ ⟨by show k + 1 ≤ _; omega, (by show _ = stlF l ((ordM l).take (k + 1)) codes; rw [stlF_s hk2, ← hcM, e9]), hcl, hro, hL⟩
 try simp only [DD] at c8
 refine U1<|B2<|WX.cut<|E2<|H0<|Wi<|H1 hL [1] 3 rfl<|J0 (H0 (O1 ?_))
 have hkk : k = (ordM l).length := by omega
 subst hkk
 rw [List.take_of_length_le (Nat.le_refl _)] at hcM
 refine ret2 rfl rfl rfl ?_
 unfold settleM
 rw [if_pos hw0, hw0, ← hcM]
 obtain ⟨G2, A4, cap4, h91, h92, h93, h94, h95⟩ := I5 0 hro (hL.drop 1)
 exact ⟨G2, A4, cap4, Le.trans hG h91, h92, h93, h94, h95⟩
def mxS (m c : Int) : Int := if c ≠ 256 then (if m < c then c else m) else m
theorem mxS_y {m c : Int} (h : ¬ c = 256) : (if m < c then c else m) = mxS m c := (if_pos h).symm
theorem mxS_n {m c : Int} (h : c = 256) : m = mxS m c := (if_neg (fun h2 => h2 h)).symm
def overM (l : List S) (codes : List Int) : Int × Bool := if withM l codes ≠ 0 ∨ (-1 : Int) ∈ settleM l codes then (0, false) else ((settleM l codes).foldl mxS 0, true)
theorem settle_len (l : List S) (codes : List Int) (h : withM l codes = 0) : (settleM l codes).length = codes.length := by
 unfold settleM
 rw [if_pos h]
 unfold stlF
 generalize ordM l = xs
 induction xs generalizing codes with
 |nil => rfl
 |cons x xs ih =>
  rw [List.foldl_cons]
  have : ∀ (ys c : List Int), (ys.foldl (stlS l) c).length = c.length := by
   intro ys
   induction ys with
   |nil => intro c; rfl
   |cons y ys ih2 => intro c; rw [List.foldl_cons, ih2, stlS_len]
  rw [this, stlS_len]
theorem take_fold {xs : List Int} {k : Nat} {a : Int} (h : k < xs.length) : (xs.take (k + 1)).foldl mxS a = mxS ((xs.take k).foldl mxS a) (xs.getD k 0) := by
 have e : xs.take (k + 1) = xs.take k ++ [xs.getD k 0] := by rw [List.take_add_one, gE h, gD, gE h]; rfl
 rw [e, List.foldl_append]; rfl
theorem over_c (w : World) {A : Option Addr} {cap : Nat} {l : List S} {A2 : Option Addr} {cap2 : Nat} {codes : List Int} (h : St W F cs w) (hR : RdS KS F A l) (hl : l.length ≤ 100000) (hf : fewE l) (hRc : RdS (Kd.one Vi) F A2 codes) (hc : codes.length ≤ 100000) : Calls prog 103 #[.slice A l.length cap, .slice A2 codes.length cap2] w fun r w' => r = .returned (.tuple #[Vi (overM l codes).1, .bool (overM l codes).2]) ∧ St W F cs w'  := by
 refine enter (args := [.slice A l.length cap, .slice A2 codes.length cap2]) func103 rfl rfl rfl<|Wi<|C0 2 rfl<|We<|C0 2 rfl<|V1 (cn func101) rfl rfl (settle_c _ h hR hl hf hRc hc) ?_
 rintro _ w1 ⟨G, A4, cap4, hG, rfl, hc4, hR4, h1⟩
 refine ⟨_, rfl,C0 5 rfl<|J0 (H0 (N0 (N0 ?_)))⟩
 by_cases hx : withM l codes = 0
 ·have hcl := settle_len _ _ hx
  refine L0<|C0 1 rfl<|I0 (Bf (J2 rfl rfl) (by rw [dA hx]; rfl)) rfl<|C0 2 rfl<|Q0 rfl<|C1 (cn func40) rfl rfl (contains_c _ (-1) h1 (RdW.of hR4) (by rw [settle_len _ _ hx]; exact hc)) fun w2 h2 =>C0 1 rfl<|Wa<|Z0 rfl (fun c3 => ?_) (fun c3 => ?_)
  ·try simp only [DD] at c3
   refine Wi<|C0 2 rfl<|Wg<|ret2 rfl rfl rfl ⟨?_, h2.weak hG⟩
   unfold overM
   rw [if_pos (.inr c3)]
  try simp only [DD] at c3
  refine Wk<|C0 1 rfl<|Wh<|C0 1 rfl<|I0 (R0 (n := ((settleM l codes).length : Int)) (Y0 underlying33 rfl rfl) rfl) rfl<|C0 1 rfl<|Wj<|B3 (σ := Nat) (fun q_ => [(7, Vi (((settleM l codes).take q_).foldl mxS 0)), (22, .slice A4 (settleM l codes).length cap4), (23, .int .i64 ((settleM l codes).length : Int)), (24, .int .i64 (q_ : Int))]) (fun q_ w => q_ ≤ (settleM l codes).length ∧ St W G cs w) (fun q_ => (settleM l codes).length - q_) (0) (⟨Nat.zero_le _, h2⟩) ?_
  rintro k w4 ⟨hk, hL⟩
  try dsimp only at hk hL
  refine W2 [(7, Vi (((settleM l codes).take k).foldl mxS 0)), (22, .slice A4 (settleM l codes).length cap4), (23, .int .i64 ((settleM l codes).length : Int)), (24, .int .i64 (k : Int))]<|Wi<|C0 1 rfl<|Wb<|Z0 rfl (fun c5 => ?_) (fun c5 => ?_)
  ·try simp only [DD] at c5
   refine U0 (H0 (N0 (M1 (N0 ?_))))
   obtain ⟨a4, rfl, hrd⟩ := rd1 hR4 (by omega)
   have hk2 : k < (settleM l codes).length := by omega
   refine L0<|I0 (W0 underlying33 inf3 rfl rfl (n := k) rfl (by omega)) rfl<|I0 (I1 (f := Vi) (0 : Int) hL hrd (n := k) (by omega) underlying3 rfl rfl) rfl<|C0 1 rfl<|We<|C0 2 rfl<|Wa<|Z0 rfl (fun c6 => ?_) (fun c6 => ?_)
   ·try simp only [DD] at c6
    refine L0<|C0 2 rfl<|I0 (Runs.max rfl rfl) rfl<|C0 1 rfl<|J0<|N1<|H0<|L0<|I0 (V0 rfl rfl (by omega)) rfl<|C0 1 rfl<|J0<|F1 (k + 1) (by omega) ⟨(by show some (Value.int .i64 _) = some (Value.int .i64 _); rw [take_fold hk2, ← mxS_y (by simpa using c6)]), rfl, rfl, rfl, trivial⟩ ⟨by omega, hL⟩
   try simp only [DD] at c6
   refine U0<|N1<|H0<|L0<|I0 (V0 rfl rfl (by omega)) rfl<|C0 1 rfl<|J0<|F1 (k + 1) (by omega) ⟨(by show some (Value.int .i64 _) = some (Value.int .i64 _); rw [take_fold hk2, ← mxS_n (by simpa using c6)]), rfl, rfl, rfl, trivial⟩ ⟨by omega, hL⟩
  try simp only [DD] at c5
  refine U1<|B2<|WX.cut<|E2<|H0<|Wi<|C0 3 rfl<|J0 (H0 (O1 ?_))
  have hkk : k = (settleM l codes).length := by omega
  refine ret2 rfl rfl rfl ⟨?_, hL.weak hG⟩
  unfold overM
  rw [if_neg (by rintro (h1 | h1); exact h1 hx; exact c3 h1), hkk, List.take_of_length_le (Nat.le_refl _)]
 refine L0<|C0 1 rfl<|I0 (Bt (J2 rfl rfl) (by rw [dN hx]; rfl)) rfl<|C0 4 rfl<|Wa<|J1 rfl (rfl)<|Wi<|C0 2 rfl<|Wg<|ret2 rfl rfl rfl ⟨?_, h1.weak hG⟩
 unfold overM
 rw [if_pos (.inl hx)]
def doomM (l : List S) (codes : List Int) (i : Nat) : Prop := codes.getD i 0 = -1 ∧ ((l.getD i S0).af.any fun e => failM e codes) = true
instance (l : List S) (codes : List Int) (i : Nat) : Decidable (doomM l codes i) := inferInstanceAs (Decidable (_ ∧ _))
theorem doomed_c (w : World) {A : Option Addr} {cap : Nat} {l : List S} {A2 : Option Addr} {cap2 : Nat} {codes : List Int} (i : Nat) (h : St W F cs w) (hR : RdS KS F A l) (hl : l.length ≤ 100000) (hf : fewE l) (hRc : RdW W F cs Vi A2 codes) (hc : codes.length ≤ 100000) (hi : i < l.length) (hic : i < codes.length) (hed : ∀ k, k < (l.getD i S0).af.length → 0 ≤ ((l.getD i S0).af.getD k E0).st ∧ ((l.getD i S0).af.getD k E0).st < codes.length) : Calls prog 147 #[.slice A l.length cap, .slice A2 codes.length cap2, Vi (i : Nat)] w fun r w' => r = .returned (.bool (decide (doomM l codes i))) ∧ St W F cs w'  := by
 refine enter (args := [.slice A l.length cap, .slice A2 codes.length cap2, Vi (i : Nat)]) func147 rfl rfl rfl ?_
 obtain ⟨ad, A1, cap1, rfl, hE, hcell⟩ := stepAt hR hi
 have hf2 := hf i hi
 obtain ⟨ac, rfl, hrc⟩ := hRc.at1 (by omega)
 refine Wi<|C0 1 rfl<|Wh<|C0 1 rfl<|Wj<|B3 (σ := Nat) (fun q_ => [(0, .slice (some ad) l.length cap), (1, .slice (some ac) codes.length cap2), (2, .int .i64 (i : Int)), (7, .int .i64 (q_ : Int))]) (fun q_ w => q_ ≤ (l.getD i S0).af.length ∧ (∀ j, j < q_ → codes.getD i 0 = -1 → failM ((l.getD i S0).af.getD j E0) codes = false) ∧ St W F cs w) (fun q_ => (l.getD i S0).af.length - q_) (0) (⟨Nat.zero_le _, fun j hj => absurd hj (Nat.not_lt_zero _), h⟩) ?_
 rintro k w1 ⟨hk, hno, hL⟩
 try dsimp only at hk hno hL
 refine W2 [(0, .slice (some ad) l.length cap), (1, .slice (some ac) codes.length cap2), (2, .int .i64 (i : Int)), (7, .int .i64 (k : Int))]<|N0<|Wi<|C0 3 rfl<|I0 (N2 underlying34 inf68 rfl rfl (n := i) rfl (by omega)) rfl<|C0 1 rfl<|I0 (K0 underlying66 rfl rfl (by rw [add_add]; exact hL.cell (hcell 4 _ rfl))) rfl<|I0 (R0 (n := ((l.getD i S0).af.length : Int)) (Y0 underlying66 rfl rfl) rfl) rfl<|C0 1 rfl<|Wa<|Z0 rfl (fun c2 => ?_) (fun c2 => ?_)
 ·try simp only [DD] at c2
  refine U0 (H0 (N0 (M1 (N0 ?_))))
  have hk2 : k < (l.getD i S0).af.length := by omega
  have hke := hed k hk2
  obtain ⟨ae, rfl⟩ := rdA hE (by omega)
  refine L0<|C0 2 rfl<|I0 (N2 underlying34 inf68 rfl rfl (n := i) rfl (by omega)) rfl<|C0 1 rfl<|I0 (K0 underlying66 rfl rfl (by rw [add_add]; exact hL.cell (hcell 4 _ rfl))) rfl<|C0 1 rfl<|I0 (N2 underlying66 inf115 rfl rfl (n := k) rfl (by omega)) rfl<|I0 (R5 hL hE rfl (by omega) underlying115 rfl inf115 rfl) rfl<|O2 rfl hL inf115 fun b8 w3 h3=>F4 h3 0 rfl rfl rfl inf115 rfl rfl rfl ?_
  intro  w4 h4
  try simp only [ZZ] at h4
  refine J0 (H0 (N0 ?_))
  rcases two ((codes.getD i 0) = -1) ((codes.getD ((l.getD i S0).af.getD k E0).st.toNat 0) ≠ -1) with n0 | ⟨y0, n1⟩ | ⟨y0, y1⟩
  ·refine L0<|C0 2 rfl<|I0 (W0 underlying33 inf3 rfl rfl (n := i) rfl (by omega)) rfl<|I0 (K0 underlying3 rfl rfl (hrc _ (h4.drop 0) i 0 (by omega))) rfl<|I0 (Bf (L1 rfl rfl) (dN n0)) rfl<|C0 14 rfl<|Wa<|E1 rfl (rfl)<|U0<|N1<|H0<|L0<|C0 1 rfl<|I0 (V0 rfl rfl (by omega)) rfl<|C0 1 rfl<|J0<|F1 (k + 1) (by omega) ⟨rfl, rfl, rfl, rfl, trivial⟩ ⟨by omega, fun j hj hm => (by
    by_cases e : j = k
    ·subst e; exact absurd hm n0
    exact hno j (by omega) hm), h4.drop 0⟩
  ·refine L0<|C0 2 rfl<|I0 (W0 underlying33 inf3 rfl rfl (n := i) rfl (by omega)) rfl<|I0 (K0 underlying3 rfl rfl (hrc _ (h4.drop 0) i 0 (by omega))) rfl<|I0 (Bt (L1 rfl rfl) (dA y0)) rfl<|H1 h4 [0] 4 rfl<|Q0 rfl<|I0 (W0 underlying33 inf3 rfl rfl (n := ((l.getD i S0).af.getD k E0).st.toNat) (by omega) (by omega)) rfl<|Q0 rfl<|I0 (K0 underlying3 rfl rfl (hrc _ (h4.drop 0) ((l.getD i S0).af.getD k E0).st.toNat 0 (by omega))) rfl<|Q0 rfl<|I0 (Bf (J2 rfl rfl) (by rw [dA (Classical.byContradiction n1)]; rfl)) rfl<|C0 7 rfl<|Wa<|E1 rfl (rfl)<|U0<|N1<|H0<|L0<|C0 1 rfl<|I0 (V0 rfl rfl (by omega)) rfl<|C0 1 rfl<|J0<|F1 (k + 1) (by omega) ⟨rfl, rfl, rfl, rfl, trivial⟩ ⟨by omega, fun j hj hm => (by
    by_cases e : j = k
    ·subst e; unfold failM; rw [dA (Classical.byContradiction n1)]; rfl
    exact hno j (by omega) hm), h4.drop 0⟩
  refine L0<|C0 2 rfl<|I0 (W0 underlying33 inf3 rfl rfl (n := i) rfl (by omega)) rfl<|I0 (K0 underlying3 rfl rfl (hrc _ (h4.drop 0) i 0 (by omega))) rfl<|I0 (Bt (L1 rfl rfl) (dA y0)) rfl<|H1 h4 [0] 4 rfl<|Q0 rfl<|I0 (W0 underlying33 inf3 rfl rfl (n := ((l.getD i S0).af.getD k E0).st.toNat) (by omega) (by omega)) rfl<|Q0 rfl<|I0 (K0 underlying3 rfl rfl (hrc _ (h4.drop 0) ((l.getD i S0).af.getD k E0).st.toNat 0 (by omega))) rfl<|Q0 rfl<|I0 (Bt (J2 rfl rfl) (by rw [dN y1]; rfl)) rfl<|C0 2 rfl<|Q0 rfl<|I0 (U2 h4 0 rfl underlying115 rfl inf115 rfl rfl) rfl<|C0 1 rfl<|Q0 rfl<|C1 (cn func148) rfl rfl (qholds_c _ ((l.getD i S0).af.getD k E0) h4 (K6 hRc) hke) fun w5 h5 =>C0 2 rfl<|Wa<|Z0 rfl (fun c6 => ?_) (fun c6 => ?_)
  ·try simp only [DD] at c6
   refine Wi<|C0 1 rfl<|J0 (H0 (O1 ?_))
   have hz : doomM l codes i := ⟨y0, any_t (d := E0) hk2 (by unfold failM; rw [dN y1]; simpa using c6)⟩
   exact ret1 rfl rfl ⟨by rw [dA hz], h5.drop 0⟩
  try simp only [DD] at c6
  refine U0<|N1<|H0<|L0<|C0 1 rfl<|I0 (V0 rfl rfl (by omega)) rfl<|C0 1 rfl<|J0<|F1 (k + 1) (by omega) ⟨rfl, rfl, rfl, rfl, trivial⟩ ⟨by omega, fun j hj hm => (by
   by_cases e : j = k
   ·subst e; unfold failM; rw [dN y1]; simpa using c6
   exact hno j (by omega) hm), h5.drop 0⟩
 try simp only [DD] at c2
 refine U1<|B2<|WX.cut<|E2<|H0<|Wi<|C0 1 rfl<|J0 (H0 (O1 ?_))
 have hz : ¬ doomM l codes i := fun hh => by
  have h9 := any_f (xs := (l.getD i S0).af) (p := fun e => failM e codes) (d := E0) (fun j hj => hno j (by omega) hh.1)
  have h8 := hh.2
  rw [h9] at h8
  cases h8
 exact ret1 rfl rfl ⟨by rw [dN hz], hL⟩
def rnd (l : List S) (c : List Int) : Nat → List Int
 |0 => c
 |i + 1 => stlS l (rnd l c i) (i : Int)
def rndN (l : List S) (c : List Int) : Nat → List Int
 |0 => c
 |n + 1 => rnd l (rndN l c n) l.length
def qsettleM (l : List S) (codes : List Int) : List Int := if withM l codes = 0 then rndN l codes l.length else []
theorem qsettle_c (w : World) {A : Option Addr} {cap : Nat} {l : List S} {A2 : Option Addr} {cap2 : Nat} {codes : List Int} (h : St W F cs w) (hR : RdS KS F A l) (hl : l.length ≤ 100000) (hf : fewE l) (hRc : RdS (Kd.one Vi) F A2 codes) (hc : codes.length ≤ 100000) : Calls prog 108 #[.slice A l.length cap, .slice A2 codes.length cap2] w fun r w' => Gives2 W F cs (qsettleM l codes) (withM l codes) r w'  := by
 refine enter (args := [.slice A l.length cap, .slice A2 codes.length cap2]) func108 rfl rfl rfl<|Wi<|C0 2 rfl<|We<|C0 2 rfl<|C1 (cn func146) rfl rfl (qwith_c _ h hR hl hf hRc hc) fun w1 h1 =>C0 1 rfl<|Wh<|C0 2 rfl<|Wa<|Z0 rfl (fun c2 => ?_) (fun c2 => ?_)
 ·try simp only [DD] at c2
  refine Wi<|C0 3 rfl<|Wg<|ret2 rfl rfl rfl (by unfold qsettleM; rw [if_neg (by simpa using c2)]; exact I5 _ (Row.nil 3 Vi) h1.nilRes)
 try simp only [DD] at c2
 refine U0 (H0 (N0 ?_))
 have hw0 : withM l codes = 0 := by simpa using c2
 have hw := with_ok hw0
 have hall := (chk_ok hw.1).1
 refine L0<|C0 1 rfl<|J0 (H0 (N0 ?_))
 have hN0 := h1.nilRes
 refine L0<|C0 2 rfl<|I3 (ys := codes) 0 hN0 rfl rfl rfl rfl underlying33 underlying33 (.inr ⟨_, rfl⟩) inf3 rfl (Row.nil 3 Vi) (Src.rd hRc hN0 rfl (fun _ => rfl)) rfl rfl (by first | omega | (simp []; done) | (simp []; omega)) (by first | omega | (simp []; done) | (simp []; omega)) ?_
 intro r3 v3 w4 hr3 h4
 simp only [lz, ls] at h4
 refine C0 1 rfl<|Wh<|C0 1 rfl<|Wj<|B3 (σ := Nat × List Int × Res × Value) (fun q_ => [(0, .slice A l.length cap), (7, q_.2.2.2), (8, .int .i64 (q_.1 : Int))]) (fun q_ w => q_.1 ≤ l.length ∧ q_.2.1 = rndN l codes q_.1 ∧ q_.2.1.length = l.length ∧ Row 3 Vi q_.2.2.1 q_.2.2.2 q_.2.1 ∧ St W F (q_.2.2.1 :: cs) w) (fun q_ => l.length - q_.1) (⟨0, codes, r3, v3⟩) (⟨Nat.zero_le _, rfl, hw.2.1, hr3, h4⟩) ?_
 rintro ⟨m, c, r, v⟩ w5 ⟨hm, hcM, hcl, hro, hL⟩
 try dsimp only at hm hcM hcl hro hL
 refine W2 [(0, .slice A l.length cap), (7, v), (8, .int .i64 (m : Int))]<|N0<|Wi<|C0 2 rfl<|I0 (R0 (n := (l.length : Int)) (Y0 underlying34 rfl rfl) rfl) rfl<|C0 1 rfl<|Wa<|Z0 rfl (fun c6 => ?_) (fun c6 => ?_)
 ·try simp only [DD] at c6
  refine U0<|H0<|N0<|M1<|Wi<|C0 1 rfl<|Wj<|B3 (σ := Nat × List Int × Res × Value) (fun q_ => [(0, .slice A l.length cap), (7, q_.2.2.2), (8, .int .i64 (m : Int)), (9, .int .i64 (q_.1 : Int))]) (fun q_ w => q_.1 ≤ l.length ∧ q_.2.1 = rnd l c q_.1 ∧ q_.2.1.length = l.length ∧ Row 3 Vi q_.2.2.1 q_.2.2.2 q_.2.1 ∧ St W F (q_.2.2.1 :: cs) w) (fun q_ => l.length - q_.1) (⟨0, c, r, v⟩) (⟨Nat.zero_le _, rfl, hcl, hro, hL⟩) ?_
  rintro ⟨i, c2, r2, v2⟩ w7 ⟨hi, h2M, h2l, hro2, hL⟩
  try dsimp only at hi h2M h2l hro2 hL
  refine W2 [(0, .slice A l.length cap), (7, v2), (8, .int .i64 (m : Int)), (9, .int .i64 (i : Int))] ?_
  obtain ⟨B, capr, rfl, hcap⟩ := hro2.val
  refine N0<|Wi<|C0 2 rfl<|I0 (R0 (n := (l.length : Int)) (Y0 underlying34 rfl rfl) rfl) rfl<|C0 1 rfl<|Wa<|Z0 rfl (fun c8 => ?_) (fun c8 => ?_)
  ·try simp only [DD] at c8
   refine U0 (H0 (N0 (M1 (N0 ?_))))
   have hi2 : i < l.length := by omega
   refine L0<|C0 3 rfl<|C1 (cn func147) rfl rfl (doomed_c _ i hL hR hl hf (RdW.row hro2 (i := 0) rfl rfl hL) (by omega) hi2 (by omega) (fun k hk => by rw [h2l]; exact edge_in hall hi2 hk)) fun w9 h9 =>Wa<|Z0 rfl (fun c10 => ?_) (fun c10 => ?_)
   ·try simp only [DD] at c10
    obtain ⟨bb, zs, fz, rfl, hBv, hfr⟩ := Row.blk hro2 (by omega)
    injection hBv with e1 e2 e3
    subst e1
    subst e3
    refine L0<|C0 2 rfl<|I0 (X1 (u := .pointer (some ⟨bb, i, none⟩)) (W0 underlying33 inf3 rfl rfl (n := i) rfl (by omega)) (by rw [add_mk, Nat.zero_add])) rfl<|E4 (n := i) (u := (256 : Int)) h9 0 rfl rfl rfl inf3 rfl hfr (by omega) ?_
    intro  w11 h11
    try simp only [ZZ] at h11
    refine J0<|N1<|H0<|L0<|C0 1 rfl<|I0 (V0 rfl rfl (by omega)) rfl<|C0 1 rfl<|J0 ?_
    have e9 : stlS l c2 (i : Int) = c2.set i 256 := by unfold stlS; exact if_pos c10
    have hr9 := T3 (E := 3) (f := Vi) (b := bb) (fz := fz) (xs := c2.set i 256) (zs := zs) (cap := c2.length + zs.length) (by rw [List.length_set]) (by rw [List.length_set]; exact hfr)
    rw [List.length_set] at hr9
    exact F1 (⟨i + 1, c2.set i 256, _, _⟩ : Nat × List Int × Res × Value) (by show l.length - (i + 1) < l.length - i; omega) ⟨rfl, rfl, rfl, rfl, trivial⟩ ⟨by show i + 1 ≤ _; omega, (by show _ = rnd l c (i + 1); rw [rnd, ← h2M, e9]), (by show (c2.set _ _).length = _; rw [List.length_set]; exact h2l), hr9, h11⟩
   try simp only [DD] at c10
   refine U0<|N1<|H0<|L0<|C0 1 rfl<|I0 (V0 rfl rfl (by omega)) rfl<|C0 1 rfl<|J0 ?_
   have e9 : stlS l c2 (i : Int) = c2 := by unfold stlS; exact if_neg c10
   exact F1 (⟨i + 1, c2, _, _⟩ : Nat × List Int × Res × Value) (by show l.length - (i + 1) < l.length - i; omega) ⟨rfl, rfl, rfl, rfl, trivial⟩ ⟨by show i + 1 ≤ _; omega, (by show _ = rnd l c (i + 1); rw [rnd, ← h2M, e9]), h2l, hro2, h9⟩
  try simp only [DD] at c8
  refine U1<|B2<|WX.cut<|E2<|N1<|H0<|L0<|C0 1 rfl<|I0 (V0 rfl rfl (by omega)) rfl<|C0 1 rfl<|J0 ?_
  have hii : i = l.length := by omega
  exact F1 (⟨m + 1, c2, _, _⟩ : Nat × List Int × Res × Value) (by show l.length - (m + 1) < l.length - m; omega) ⟨rfl, rfl, rfl, trivial⟩ ⟨by show m + 1 ≤ _; omega, (by show c2 = rndN l codes (m + 1); rw [rndN, ← hcM, h2M, hii]), h2l, hro2, hL⟩
 try simp only [DD] at c6
 refine U1<|B2<|WX.cut<|E2<|H0<|Wi<|C0 3 rfl<|J0 (H0 (O1 ?_))
 have hkk : m = l.length := by omega
 refine ret2 rfl rfl rfl ?_
 unfold qsettleM
 rw [if_pos hw0, hw0, ← hkk, ← hcM]
 exact I5 0 hro hL
theorem getD_set (c : List Int) (m j : Nat) (v : Int) : (c.set m v).getD j 0 = if m = j ∧ j < c.length then v else c.getD j 0 := by
 rw [gD, gD, List.getElem?_set]
 by_cases h : m = j
 ·subst h
  by_cases h2 : m < c.length
  ·simp [h2]
  simp [h2]
 rw [if_neg h, if_neg (fun hh => h hh.1)]
theorem getD_lt {c : List Int} {j : Nat} (h : c.getD j 0 = -1) : j < c.length := Classical.byContradiction fun hh => by
 rw [gD, List.getElem?_eq_none (by omega)] at h
 cases h
def leC (c d : List Int) : Prop := c.length = d.length ∧ ∀ j, c.getD j 0 = d.getD j 0 ∨ (c.getD j 0 = -1 ∧ d.getD j 0 = 256)
theorem leC.refl (c : List Int) : leC c c := ⟨rfl, fun _ => .inl rfl⟩
theorem leC.trans {a b c : List Int} (h : leC a b) (h2 : leC b c) : leC a c := ⟨h.1.trans h2.1, fun j => by
 have := h.2 j
 have := h2.2 j
 omega⟩
theorem leC.anti {c d : List Int} (h : leC c d) (h2 : leC d c) : c = d := by
 apply List.ext_getElem h.1
 intro j hj hj2
 have a := h.2 j
 have b := h2.2 j
 have ec : c.getD j 0 = c[j] := by simp [hj]
 have ed : d.getD j 0 = d[j] := by simp [hj2]
 omega
theorem stlS_y {l : List S} {c : List Int} {x : Int} (h : doomM l c x.toNat) : stlS l c x = c.set x.toNat 256 := if_pos h
theorem stlS_n {l : List S} {c : List Int} {x : Int} (h : ¬ doomM l c x.toNat) : stlS l c x = c := if_neg h
theorem stlS_le (l : List S) (c : List Int) (x : Int) : leC c (stlS l c x) := by
 by_cases h : doomM l c x.toNat
 ·rw [stlS_y h]
  refine ⟨by rw [List.length_set], fun j => ?_⟩
  rw [getD_set]
  split
  ·rename_i h2
   exact .inr ⟨by rw [← h2.1]; exact h.1, rfl⟩
  exact .inl rfl
 rw [stlS_n h]; exact leC.refl c
theorem fail_congr {e : E} {c d : List Int} (h : c.getD e.st.toNat 0 = d.getD e.st.toNat 0) : failM e c = failM e d := by
 unfold failM holdsM
 rw [h]
theorem fail_open {e : E} {c : List Int} (h : failM e c = true) : c.getD e.st.toNat 0 ≠ -1 := by
 intro h2
 unfold failM at h
 rw [dA h2] at h
 cases h
def fixC (l : List S) (d : List Int) : Prop := ∀ i, i < l.length → ¬ doomM l d i
theorem stlS_fix {l : List S} {c d : List Int} {x : Int} (h : leC c d) (hd : fixC l d) (hx : x.toNat < l.length) : leC (stlS l c x) d := by
 by_cases h1 : doomM l c x.toNat
 ·rw [stlS_y h1]
  refine ⟨by rw [List.length_set]; exact h.1, fun j => ?_⟩
  rw [getD_set]
  split
  ·rename_i h2
   rw [← h2.1]
   have h3 := h1.1
   have h4 := h.2 x.toNat
   have h5 : d.getD x.toNat 0 ≠ -1 := fun h5 => hd _ hx ⟨h5, by
    have h6 := h1.2
    rw [List.any_eq_true] at h6 ⊢
    obtain ⟨e, he, hf⟩ := h6
    refine ⟨e, he, ?_⟩
    have h7 := fail_open hf
    have h8 := h.2 e.st.toNat
    rw [← fail_congr (c := c) (by omega)]
    exact hf⟩
   exact .inl (by omega)
  exact h.2 j
 rw [stlS_n h1]; exact h
theorem stlF_app (l : List S) (xs ys c : List Int) : stlF l (xs ++ ys) c = stlF l ys (stlF l xs c) := List.foldl_append
theorem stlF_cons (l : List S) (x : Int) (xs c : List Int) : stlF l (x :: xs) c = stlF l xs (stlS l c x) := rfl
theorem stlF_len (l : List S) : ∀ (xs c : List Int), (stlF l xs c).length = c.length
 |[], _ => rfl
 |x :: xs, c => by rw [stlF_cons, stlF_len l xs, stlS_len]
theorem stlF_le (l : List S) : ∀ (xs c : List Int), leC c (stlF l xs c)
 |[], c => leC.refl c
 |x :: xs, c => by rw [stlF_cons]; exact (stlS_le l c x).trans (stlF_le l xs _)
theorem stlF_fix {l : List S} {d : List Int} (hd : fixC l d) : ∀ {xs c : List Int}, (∀ x ∈ xs, 0 ≤ x ∧ x < l.length) → leC c d → leC (stlF l xs c) d
 |[], c, _, h => h
 |x :: xs, c, hx, h => by
  rw [stlF_cons]
  have := hx x (List.mem_cons_self ..)
  exact stlF_fix hd (fun y hy => hx y (List.mem_cons_of_mem _ hy)) (stlS_fix h hd (by omega))
theorem stlF_id {l : List S} {d : List Int} (hd : fixC l d) : ∀ {xs : List Int}, (∀ x ∈ xs, 0 ≤ x ∧ x < l.length) → stlF l xs d = d
 |[], _ => rfl
 |x :: xs, hx => by
  have := hx x (List.mem_cons_self ..)
  rw [stlF_cons, stlS_n (hd _ (by omega))]
  exact stlF_id hd (fun y hy => hx y (List.mem_cons_of_mem _ hy))
theorem stlF_off {l : List S} {j : Nat} : ∀ {xs c : List Int}, (∀ x ∈ xs, x.toNat ≠ j) → (stlF l xs c).getD j 0 = c.getD j 0
 |[], c, _ => rfl
 |x :: xs, c, h => by
  rw [stlF_cons, stlF_off (fun y hy => h y (List.mem_cons_of_mem _ hy))]
  have hx := h x (List.mem_cons_self ..)
  by_cases h1 : doomM l c x.toNat
  ·rw [stlS_y h1, getD_set, if_neg (fun hh => hx hh.1)]
  rw [stlS_n h1]
def goodO (l : List S) (out : List Int) : Prop := ∀ ys x zs, out = ys ++ x :: zs → x ∉ ys ∧ ∀ k, k < (l.getD x.toNat S0).af.length → ((l.getD x.toNat S0).af.getD k E0).st ∈ ys
theorem goodO.snoc {l : List S} {out : List Int} {i : Nat} (h : goodO l out) (h2 : okAt l out i) : goodO l (out ++ [(i : Int)]) := by
 intro ys x zs e
 rcases List.eq_nil_or_concat zs with rfl | ⟨zs', z, rfl⟩
 ·obtain ⟨rfl, e2⟩ := List.append_inj' e rfl
  injection e2 with e2
  subst e2
  exact h2
 rw [List.concat_eq_append, ← List.cons_append, ← List.append_assoc] at e
 obtain ⟨e1, _⟩ := List.append_inj' e rfl
 exact h ys x zs' e1
theorem ordF_good {l : List S} : ∀ {n : Nat} {out : List Int}, goodO l out → goodO l (ordF l n out)
 |0, out, h => h
 |n + 1, out, h => by
  rw [ordF]
  split
  ·exact h
  rename_i i hi
  exact ordF_good (h.snoc (nextM_spec hi).2)
theorem ordM_good (l : List S) : goodO l (ordM l) := ordF_good (fun ys x zs e => by cases ys <;> cases e)
theorem ordF_cnt {l : List S} : ∀ {n : Nat} {out : List Int}, cnt out l.length + out.length = l.length → cnt (ordF l n out) l.length + (ordF l n out).length = l.length
 |0, out, h => h
 |n + 1, out, h => by
  rw [ordF]
  split
  ·exact h
  rename_i i hi
  refine ordF_cnt ?_
  have h1 := nextM_spec hi
  have h2 := cnt_add h1.2.1 l.length
  rw [if_pos h1.1] at h2
  rw [lA]
  show _ + (out.length + 1) = _
  omega
theorem ordM_all {l : List S} (h : l.length ≤ (ordM l).length) {i : Nat} (hi : i < l.length) : (i : Int) ∈ ordM l := by
 have h1 : cnt (ordM l) l.length + (ordM l).length = l.length := ordF_cnt (by rw [cnt_nil]; rfl)
 exact cnt_zero (by omega) i hi
theorem pass_fix {l : List S} {codes : List Int} (h : l.length ≤ (ordM l).length) (hc : codes.length = l.length) : fixC l (stlF l (ordM l) codes) := by
 intro i hi hd
 obtain ⟨ys, zs, e⟩ := List.append_of_mem (ordM_all h hi)
 have hg := ordM_good l
 have hin := ordM_in (l := l)
 have h1 := hg ys i zs e
 have hz : ∀ y ∈ zs, y ∉ ys ∧ y ≠ (i : Int) := fun y hy => by
  obtain ⟨z1, z2, e2⟩ := List.append_of_mem hy
  have := (hg (ys ++ (i : Int) :: z1) y z2 (by rw [e, e2]; simp)).1
  rw [List.mem_append, List.mem_cons] at this
  exact ⟨fun hh => this (.inl hh), fun hh => this (.inr (.inl hh))⟩
 have hp : ∀ y ∈ ordM l, 0 ≤ y := fun y hy => (hin y hy).1
 have hpz : ∀ y ∈ zs, 0 ≤ y := fun y hy => hp y (by rw [e]; exact List.mem_append_right _ (List.mem_cons_of_mem _ hy))
 have hpy : ∀ y ∈ ys, 0 ≤ y := fun y hy => hp y (by rw [e]; exact List.mem_append_left _ hy)
 have ep : stlF l (ordM l) codes = stlF l zs (stlS l (stlF l ys codes) (i : Int)) := by rw [e, stlF_app, stlF_cons]
 rw [ep] at hd
 have e1 : (stlF l zs (stlS l (stlF l ys codes) (i : Int))).getD i 0 = (stlS l (stlF l ys codes) (i : Int)).getD i 0 := stlF_off (fun y hy => by
  have := (hz y hy).2
  have := hpz y hy
  omega)
 have hd1 := hd.1
 rw [e1] at hd1
 by_cases h2 : doomM l (stlF l ys codes) i
 ·rw [stlS_y (x := (i : Int)) h2, getD_set, if_pos ⟨rfl, by rw [stlF_len]; omega⟩] at hd1
  cases hd1
 have e2 := stlS_n (x := (i : Int)) h2
 rw [e2] at hd1 hd
 refine h2 ⟨hd1, ?_⟩
 have h6 := hd.2
 rw [List.any_eq_true] at h6 ⊢
 obtain ⟨x, hx, hf⟩ := h6
 refine ⟨x, hx, ?_⟩
 obtain ⟨k, hk, rfl⟩ := List.getElem_of_mem hx
 have hm : ((l.getD i S0).af.getD k E0).st ∈ ys := h1.2 k hk
 rw [gD, gE hk] at hm
 have hm : ((l.getD i S0).af[k]).st ∈ ys := hm
 rw [fail_congr (d := stlF l zs (stlF l ys codes)) (stlF_off (fun y hy hh => ?_)).symm]
 ·exact hf
 have h7 := (hz y hy).1
 have h8 := hpz y hy
 have h9 := hpy _ hm
 rw [show y = ((l.getD i S0).af[k]).st by omega] at h7
 exact h7 hm
def cntO : List Int → Nat
 |[] => 0
 |x :: xs => (if x = -1 then 1 else 0) + cntO xs
theorem cntO_set : ∀ {c : List Int} {m : Nat}, c.getD m 0 = -1 → cntO (c.set m 256) + 1 = cntO c
 |[], m, h => by cases m <;> cases h
 |x :: xs, 0, h => by
  have h : x = -1 := h
  rw [List.set_cons_zero, cntO, cntO, if_pos h, if_neg (by decide)]
  omega
 |x :: xs, m + 1, h => by
  have := cntO_set (c := xs) (m := m) h
  rw [List.set_cons_succ, cntO, cntO]
  omega
theorem cntO_len : ∀ (c : List Int), cntO c ≤ c.length
 |[] => Nat.le_refl _
 |x :: xs => by
  have := cntO_len xs
  rw [cntO, List.length_cons]
  split <;> omega
theorem rnd_le (l : List S) (c : List Int) : ∀ n, leC c (rnd l c n)
 |0 => leC.refl c
 |n + 1 => by rw [rnd]; exact (rnd_le l c n).trans (stlS_le l _ _)
theorem rndN_le (l : List S) (c : List Int) : ∀ n, leC c (rndN l c n)
 |0 => leC.refl c
 |n + 1 => by rw [rndN]; exact (rndN_le l c n).trans (rnd_le l _ _)
theorem rnd_fix {l : List S} {c d : List Int} (hd : fixC l d) (h : leC c d) : ∀ {n : Nat}, n ≤ l.length → leC (rnd l c n) d
 |0, _ => h
 |n + 1, hn => by rw [rnd]; exact stlS_fix (rnd_fix hd h (by omega)) hd (by show n < _; omega)
theorem rndN_fix {l : List S} {c d : List Int} (hd : fixC l d) (h : leC c d) : ∀ n : Nat, leC (rndN l c n) d
 |0 => h
 |n + 1 => by rw [rndN]; exact rnd_fix hd (rndN_fix hd h n) (Nat.le_refl _)
theorem rnd_two (l : List S) (c : List Int) : ∀ n, (rnd l c n = c ∧ ∀ i, i < n → ¬ doomM l c i) ∨ cntO (rnd l c n) < cntO c
 |0 => .inl ⟨rfl, fun i hi => absurd hi (Nat.not_lt_zero _)⟩
 |n + 1 => by
  rw [rnd]
  rcases rnd_two l c n with ⟨h1, h2⟩ | h1
  ·rw [h1]
   by_cases h3 : doomM l c n
   ·have := cntO_set h3.1
    rw [stlS_y (x := (n : Int)) h3]
    exact .inr (by show cntO (c.set n 256) < _; omega)
   rw [stlS_n (x := (n : Int)) h3]
   exact .inl ⟨rfl, fun i hi => by
    by_cases e : i = n
    ·subst e; exact h3
    exact h2 i (by omega)⟩
  by_cases h3 : doomM l (rnd l c n) n
  ·have := cntO_set h3.1
   rw [stlS_y (x := (n : Int)) h3]
   exact .inr (by show cntO ((rnd l c n).set n 256) < _; omega)
  rw [stlS_n (x := (n : Int)) h3]
  exact .inr h1
theorem rnd_id {l : List S} {c : List Int} (hd : fixC l c) : ∀ {n : Nat}, n ≤ l.length → rnd l c n = c
 |0, _ => rfl
 |n + 1, hn => by rw [rnd, rnd_id hd (by omega), stlS_n (x := (n : Int)) (hd n (by omega))]
theorem rndN_two (l : List S) (c : List Int) : ∀ n, fixC l (rndN l c n) ∨ cntO (rndN l c n) + n ≤ cntO c
 |0 => .inr (Nat.le_refl _)
 |n + 1 => by
  rw [rndN]
  rcases rndN_two l c n with h | h
  ·rw [rnd_id h (Nat.le_refl _)]; exact .inl h
  rcases rnd_two l (rndN l c n) l.length with ⟨h1, h2⟩ | h1
  ·rw [h1]; exact .inl h2
  exact .inr (by omega)
theorem rndN_done {l : List S} {c : List Int} (hc : c.length = l.length) : fixC l (rndN l c l.length) := by
 rcases rndN_two l c l.length with h | h
 ·exact h
 intro i hi hd
 have h1 := cntO_set hd.1
 have h2 := cntO_len c
 omega
theorem settle_eq {l : List S} {codes : List Int} (h : l.length ≤ (ordM l).length) (hc : codes.length = l.length) : rndN l codes l.length = stlF l (ordM l) codes :=
 leC.anti (rndN_fix (pass_fix h hc) (stlF_le l _ _) _) (stlF_fix (rndN_done hc) ordM_in (rndN_le l _ _))
theorem qsettle_eq (l : List S) (codes : List Int) : qsettleM l codes = settleM l codes := by
 unfold qsettleM settleM
 split
 ·rename_i h
  have hw := with_ok h
  exact settle_eq (chk_ok hw.1).2.2 hw.2.1
 rfl
theorem settle_spec {l : List S} {codes : List Int} (h : withM l codes = 0) : leC codes (settleM l codes) ∧ fixC l (settleM l codes) := by
 have hw := with_ok h
 unfold settleM
 rw [if_pos h]
 exact ⟨stlF_le l _ _, pass_fix (chk_ok hw.1).2.2 hw.2.1⟩
theorem with_of {l : List S} {codes : List Int} (h : chkM l = 0) (h2 : codes.length = l.length) (h3 : ∀ c ∈ codes, -1 ≤ c ∧ c ≤ 256) : withM l codes = 0 := by
 unfold withM
 rw [if_neg (by omega), if_neg]
 rintro (h4 | h4)
 ·exact h4 h2
 rw [List.any_eq_true] at h4
 obtain ⟨c, hc, h5⟩ := h4
 rw [inB_t (h3 c hc)] at h5
 cases h5
theorem leC.vals {c d : List Int} (h : leC c d) (h2 : ∀ x ∈ c, -1 ≤ x ∧ x ≤ 256) : ∀ x ∈ d, -1 ≤ x ∧ x ≤ 256 := by
 intro x hx
 obtain ⟨j, hj, rfl⟩ := List.getElem_of_mem hx
 have h3 := h.2 j
 have h4 := h2 (c.getD j 0) (mem_getD (by have := h.1; omega))
 rw [gD (l := d), gE hj] at h3
 have h3 : c.getD j 0 = d[j] ∨ (c.getD j 0 = -1 ∧ d[j] = 256) := h3
 omega
theorem settle_with {l : List S} {codes : List Int} (h : withM l codes = 0) : withM l (settleM l codes) = 0 := by
 have hw := with_ok h
 exact with_of hw.1 (by rw [settle_len _ _ h]; exact hw.2.1) ((settle_spec h).1.vals hw.2.2)
theorem settle_twice {l : List S} {codes : List Int} (h : withM l codes = 0) : settleM l (settleM l codes) = settleM l codes := by
 have h2 := (settle_spec h).2
 have e : ∀ c, withM l c = 0 → settleM l c = stlF l (ordM l) c := fun c h => by unfold settleM; rw [if_pos h]
 rw [e _ (settle_with h)]
 exact stlF_id h2 ordM_in
theorem over_n {l : List S} {codes : List Int} (h : withM l codes ≠ 0 ∨ (-1 : Int) ∈ settleM l codes) : overM l codes = (0, false) := if_pos h
theorem over_y {l : List S} {codes : List Int} (h : withM l codes = 0) (h2 : (-1 : Int) ∉ settleM l codes) : overM l codes = ((settleM l codes).foldl mxS 0, true) := if_neg (by rintro (h3 | h3); exact h3 h; exact h2 h3)
theorem mem_no {xs : List Int} {x : Int} (h : ∀ j, j < xs.length → xs.getD j 0 ≠ x) : x ∉ xs := fun hm => by
 obtain ⟨j, hj, rfl⟩ := List.getElem_of_mem hm
 refine h j hj ?_
 rw [gD, gE hj]; rfl
theorem qover_c (w : World) {A : Option Addr} {cap : Nat} {l : List S} {A2 : Option Addr} {cap2 : Nat} {codes : List Int} (h : St W F cs w) (hR : RdS KS F A l) (hl : l.length ≤ 100000) (hf : fewE l) (hRc : RdS (Kd.one Vi) F A2 codes) (hc : codes.length ≤ 100000) : Calls prog 110 #[.slice A l.length cap, .slice A2 codes.length cap2] w fun r w' => r = .returned (.tuple #[Vi (overM l codes).1, .bool (overM l codes).2]) ∧ St W F cs w'  := by
 refine enter (args := [.slice A l.length cap, .slice A2 codes.length cap2]) func110 rfl rfl rfl<|Wi<|C0 2 rfl<|We<|C0 2 rfl<|V1 (cn func108) rfl rfl (qsettle_c _ h hR hl hf hRc hc) ?_
 rintro _ w1 ⟨G, A4, cap4, hG, rfl, hc4, hR4, h1⟩
 refine ⟨_, rfl, ?_⟩
 rw [qsettle_eq] at *
 refine C0 5 rfl<|Wh<|C0 2 rfl<|Wa<|Z0 rfl (fun c2 => ?_) (fun c2 => ?_)
 ·try simp only [DD] at c2
  refine Wi<|C0 2 rfl<|Wg<|ret2 rfl rfl rfl ⟨?_, h1.weak hG⟩
  rw [over_n (.inl (by simpa using c2))]
 try simp only [DD] at c2
 refine U0 (H0 (N0 ?_))
 have hw0 : withM l codes = 0 := by simpa using c2
 have hw := with_ok hw0
 have hcl := settle_len _ _ hw0
 have hvals := (settle_spec hw0).1.vals hw.2.2
 refine L0<|C0 1 rfl<|Wh<|C0 1 rfl<|Wj<|B3 (σ := Nat) (fun q_ => [(6, .slice A4 (settleM l codes).length cap4), (8, Vi (((settleM l codes).take q_).foldl mxS 0)), (9, .int .i64 (q_ : Int))]) (fun q_ w => q_ ≤ (settleM l codes).length ∧ (∀ j, j < q_ → (settleM l codes).getD j 0 ≠ -1) ∧ St W G cs w) (fun q_ => (settleM l codes).length - q_) (0) (⟨Nat.zero_le _, fun j hj => absurd hj (Nat.not_lt_zero _), h1⟩) ?_
 rintro i w3 ⟨hi, hno, hL⟩
 try dsimp only at hi hno hL
 refine W2 [(6, .slice A4 (settleM l codes).length cap4), (8, Vi (((settleM l codes).take i).foldl mxS 0)), (9, .int .i64 (i : Int))]<|N0<|Wi<|C0 2 rfl<|I0 (R0 (n := ((settleM l codes).length : Int)) (Y0 underlying33 rfl rfl) rfl) rfl<|C0 1 rfl<|Wa<|Z0 rfl (fun c4 => ?_) (fun c4 => ?_)
 ·try simp only [DD] at c4
  refine U0 (H0 (N0 (M1 (N0 (N0 ?_)))))
  obtain ⟨a4, rfl, hrd⟩ := rd1 hR4 (by omega)
  have hi2 : i < (settleM l codes).length := by omega
  have hvi := hvals _ (mem_getD hi2)
  refine L0<|C0 2 rfl<|I0 (W0 underlying33 inf3 rfl rfl (n := i) rfl (by omega)) rfl<|I0 (I1 (f := Vi) (0 : Int) hL hrd (n := i) (by omega) underlying3 rfl rfl) rfl<|C0 1 rfl<|Wa<|Z0 rfl (fun c5 => ?_) (fun c5 => ?_)
  ·try simp only [DD] at c5
   refine Wi<|C0 2 rfl<|Wg<|ret2 rfl rfl rfl ⟨?_, hL.weak hG⟩
   rw [over_n (.inr (by rw [← c5]; exact mem_getD hi2))]
  try simp only [DD] at c5
  refine Wk<|C0 2 rfl<|I0 (W0 underlying33 inf3 rfl rfl (n := i) rfl (by omega)) rfl<|I0 (I1 (f := Vi) (0 : Int) hL hrd (n := i) (by omega) underlying3 rfl rfl) rfl<|C0 1 rfl<|Wa<|Z0 rfl (fun c6 => ?_) (fun c6 => ?_)
  ·try simp only [DD] at c6
   refine L0<|C0 3 rfl<|I0 (W0 underlying33 inf3 rfl rfl (n := i) rfl (by omega)) rfl<|I0 (I1 (f := Vi) (0 : Int) hL hrd (n := i) (by omega) underlying3 rfl rfl) rfl<|I0 (Runs.max rfl rfl) rfl<|C0 1 rfl<|J0<|N1<|H0<|L0<|C0 1 rfl<|I0 (V0 rfl rfl (by omega)) rfl<|C0 1 rfl<|J0<|F1 (i + 1) (by omega) ⟨rfl, (by show some (Value.int .i64 _) = some (Value.int .i64 _); rw [take_fold hi2, ← mxS_y (by omega)]), rfl, trivial⟩ ⟨by omega, fun j hj => (by
    by_cases e : j = i
    ·subst e; omega
    exact hno j (by omega)), hL⟩
  try simp only [DD] at c6
  refine U0<|N1<|H0<|L0<|C0 1 rfl<|I0 (V0 rfl rfl (by omega)) rfl<|C0 1 rfl<|J0<|F1 (i + 1) (by omega) ⟨rfl, (by show some (Value.int .i64 _) = some (Value.int .i64 _); rw [take_fold hi2, ← mxS_n (by omega)]), rfl, trivial⟩ ⟨by omega, fun j hj => (by
   by_cases e : j = i
   ·subst e; omega
   exact hno j (by omega)), hL⟩
 try simp only [DD] at c4
 refine U1<|B2<|WX.cut<|E2<|H0<|Wi<|C0 3 rfl<|J0 (H0 (O1 ?_))
 have hkk : i = (settleM l codes).length := by omega
 refine ret2 rfl rfl rfl ⟨?_, hL.weak hG⟩
 rw [over_y hw0 (mem_no fun j hj => hno j (by omega)), hkk, List.take_of_length_le (Nat.le_refl _)]
end Dg
end
end Go.Proofs.YtifdpllfbaogcaaGreat
