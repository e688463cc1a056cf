/- Arrays, slices of cells, words of 32 bits. Plain lemmas. -/
import Derived.Test.YtkfkdenikkadhaaBaseG
namespace Go.Proofs.Ytkfkdenikkadhaa
open Go Go.RowKit
set_option linter.unusedVariables false
set_option linter.unusedSimpArgs false
namespace B
section
variable {P : Program} {Z : Post} {ks : List Fr} {N : Nat} {D : List Deferred} {sl : Sl} {W w : World} {ops : Array Oper} {rest : List Oper} {F : Snap} {cs : List Res} {t T T' E : TypeId} {x y : Operand} {v zv : Value} {pos : String} {af : Array Edge} {sz bytes : Nat} {k : IntKind} {α : Type}
theorem Runs.lidxN {a : Addr} {len cap n : Nat} {j : Int} (hu : P.underlying T = some (.slice E)) (hi : Inf P E zv 1 bytes) (hx : evs sl x = some (.slice (some a) len cap)) (hy : evs sl y = some (.int k j)) (hj : j = (n : Int)) (hn : n < len) :
    Runs P sl (.indexAddr T x y) t w (.pointer (some (a.add n))) := by
  have := Runs.lidx (t := t) (w := w) hu hi hx hy (by omega)
  rwa [hj, Int.toNat_natCast, Nat.mul_one] at this
theorem Runs.lidxK {a : Addr} {len cap n : Nat} {j : Int} (hu : P.underlying T = some (.slice E)) (hi : Inf P E zv sz bytes) (hx : evs sl x = some (.slice (some a) len cap)) (hy : evs sl y = some (.int k j)) (hj : j = (n : Int)) (hn : n < len) :
    Runs P sl (.indexAddr T x y) t w (.pointer (some (a.add (n * sz)))) := by
  have := Runs.lidx (t := t) (w := w) hu hi hx hy (by omega)
  rwa [hj, Int.toNat_natCast] at this
theorem Runs.aidxN {b m n : Nat} {j : Int} (hu : P.underlying T = some (.array m E)) (hi : Inf P E zv 1 bytes) (hx : evs sl x = some (.pointer (some ⟨b, 0, none⟩))) (hy : evs sl y = some (.int k j)) (hj : j = (n : Int)) (hn : n < m) :
    Runs P sl (.indexAddr T x y) t w (.pointer (some ⟨b, n, none⟩)) := by
  have := Runs.aidx (t := t) (w := w) hu hi hx hy (by omega)
  rwa [hj, Int.toNat_natCast, Nat.zero_add] at this
/-- element n of a slice that never changes any more -/
theorem Runs.loadR {f : α → Value} {xs : List α} {ad : Addr} {n : Nat} {d : TypeDesc} (d0 : α) (h : St W F cs w) (hrd : ∀ i x, xs[i]? = some x → cellF F (ad.add i) = some (f x)) (hn : n < xs.length) (hu : P.underlying T = some d) (hs : scal d = true) (hx : evs sl x = some (.pointer (some (ad.add n)))) :
    Runs P sl (.load T x) t w (f (xs.getD n d0)) := by
  refine Runs.load1 hu hs hx (h.cell (hrd n _ ?_))
  rw [List.getD_eq_getElem?_getD, List.getElem?_eq_getElem hn]; rfl
theorem rd1 {f : α → Value} {F : Snap} {A : Option Addr} {xs : List α} (h : RdS (Kd.one f) F A xs) (h0 : 0 < xs.length) : ∃ ad, A = some ad ∧ ∀ i x, xs[i]? = some x → cellF F (ad.add i) = some (f x) := by
  rcases h with h | ⟨ad, hA, h⟩
  · rw [h] at h0; simp at h0
  · refine ⟨ad, hA, fun i x hx => ?_⟩
    obtain ⟨c, h1, h2⟩ := h i x hx
    have h1 : c = [f x] := h1
    subst h1
    have := h2 0 (f x) rfl
    simpa [Kd.one] using this
/-- a row of the call's own that is read -/
theorem Runs.loadArr {f : α → Value} {xs : List α} {b n : Nat} {tt : TypeId} {fz : Nat × Nat} {d : TypeDesc} (d0 : α) (h : St W F cs w) (i : Nat) (hi : cs[i]? = some [(b, .cells (xs.map f).toArray tt fz)]) (hn : n < xs.length) (hu : P.underlying T = some d) (hs : scal d = true) (hx : evs sl x = some (.pointer (some ⟨b, n, none⟩))) :
    Runs P sl (.load T x) t w (f (xs.getD n d0)) := by
  refine Runs.load1 hu hs hx (h.ocell hi ?_)
  simp [List.getD_eq_getElem?_getD, List.getElem?_eq_getElem hn]
theorem WL.storeArr (h : St W F cs w) (i : Nat) {f : α → Value} {xs : List α} {u : α} {b n : Nat} {tt : TypeId} {fz : Nat × Nat} (hi : cs[i]? = some [(b, .cells (xs.map f).toArray tt fz)]) (hx : evs sl x = some (.pointer (some ⟨b, n, none⟩))) (hy : evs sl y = some (f u))
    (hT : Inf P T zv 1 bytes) (hc : (f u).cells = #[f u]) (h1 : one_ (f u) = true) (hf : Free fz xs.length) (hn : n < xs.length)
    (k : ∀ w', St W F (cs.set i [(b, .cells ((xs.set n u).map f).toArray tt fz)]) w' → WL P ops Z ks N D sl rest w') :
    WL P ops Z ks N D sl ({ dst := none, op := .store T x y, type := t, pos := pos, after := af, guard := none } :: rest) w := by
  refine WL.store' h i hi hx hy hT (by rw [hc]; rfl) (by rw [hc]; simp [h1]) (by simpa using hf) (by rw [hc]; simp; omega) (fun w' h' => k w' ?_)
  rw [hc] at h'
  have : blit (xs.map f).toArray n [f u] = ((xs.set n u).map f).toArray := by
    apply Array.toList_inj.1
    simp [blit_one, List.map_set]
  rwa [this] at h'
/-- the whole of a variable is written -/
theorem WL.storeAll (h : St W F cs w) (i : Nat) {arr vs : Array Value} {b : Nat} {tt : TypeId} {fz : Nat × Nat} (hi : cs[i]? = some [(b, .cells arr tt fz)]) (hx : evs sl x = some (.pointer (some ⟨b, 0, none⟩))) (hy : evs sl y = some (.agg vs))
    (hT : Inf P T zv sz bytes) (hz : sz = vs.size) (ha : arr.size = vs.size) (h1 : vs.toList.all one_ = true) (hf : Free fz arr.size)
    (k : ∀ w', St W F (cs.set i [(b, .cells vs tt fz)]) w' → WL P ops Z ks N D sl rest w') :
    WL P ops Z ks N D sl ({ dst := none, op := .store T x y, type := t, pos := pos, after := af, guard := none } :: rest) w := by
  refine WL.store' h i hi hx hy hT hz h1 hf (by simp [Value.cells]; omega) (fun w' h' => k w' ?_)
  have : blit arr 0 (Value.agg vs).cells.toList = vs := by
    rw [blit_all _ _ (by simp [Value.cells, ha])]; simp [Value.cells]
  rwa [this] at h'
/-! words of 32 bits -/
abbrev V32 (x : BitVec 32) : Value := .int .u32 (x.toNat : Int)
abbrev V8 (x : UInt8) : Value := .int .u8 (x.toNat : Int)
theorem wrap_u32 (n : Int) : IntKind.u32.wrap n = n % 4294967296 := by simp [IntKind.wrap, IntKind.bits, IntKind.signed]
theorem wrap_u8 (n : Int) : IntKind.u8.wrap n = n % 256 := by simp [IntKind.wrap, IntKind.bits, IntKind.signed]
theorem wrap_u32_lt {n : Nat} (h : n < 4294967296) : IntKind.u32.wrap (n : Int) = n := by rw [wrap_u32]; omega
theorem ofInt_toNat (a : BitVec 32) : BitVec.ofInt 32 (a.toNat : Int) = a := by simp
variable {a b : BitVec 32}
theorem Runs.add32 (hx : evs sl x = some (V32 a)) (hy : evs sl y = some (V32 b)) : Runs P sl (.binOp .add T x y T') t w (V32 (a + b)) := by
  have := Runs.add (P := P) (t := t) (w := w) (T := T) (T' := T') hx hy
  have e : IntKind.u32.wrap ((a.toNat : Int) + b.toNat) = ((a + b).toNat : Int) := by
    rw [wrap_u32, BitVec.toNat_add]; omega
  rwa [e] at this
theorem Runs.xor32 (hx : evs sl x = some (V32 a)) (hy : evs sl y = some (V32 b)) : Runs P sl (.binOp .xor T x y T') t w (V32 (a ^^^ b)) := by
  have := Runs.xor (P := P) (t := t) (w := w) (T := T) (T' := T') hx hy
  have e : IntKind.u32.wrap (BitVec.ofInt IntKind.u32.bits (a.toNat : Int) ^^^ BitVec.ofInt IntKind.u32.bits (b.toNat : Int)).toNat = ((a ^^^ b).toNat : Int) := by
    show IntKind.u32.wrap (BitVec.ofInt 32 (a.toNat : Int) ^^^ BitVec.ofInt 32 (b.toNat : Int)).toNat = _
    rw [ofInt_toNat, ofInt_toNat, wrap_u32_lt (a ^^^ b).isLt]
  rwa [e] at this
theorem Runs.and32 (hx : evs sl x = some (V32 a)) (hy : evs sl y = some (V32 b)) : Runs P sl (.binOp .and T x y T') t w (V32 (a &&& b)) := by
  have := Runs.and (P := P) (t := t) (w := w) (T := T) (T' := T') hx hy
  have e : IntKind.u32.wrap (BitVec.ofInt IntKind.u32.bits (a.toNat : Int) &&& BitVec.ofInt IntKind.u32.bits (b.toNat : Int)).toNat = ((a &&& b).toNat : Int) := by
    show IntKind.u32.wrap (BitVec.ofInt 32 (a.toNat : Int) &&& BitVec.ofInt 32 (b.toNat : Int)).toNat = _
    rw [ofInt_toNat, ofInt_toNat, wrap_u32_lt (a &&& b).isLt]
  rwa [e] at this
theorem Runs.or32 (hx : evs sl x = some (V32 a)) (hy : evs sl y = some (V32 b)) : Runs P sl (.binOp .or T x y T') t w (V32 (a ||| b)) := by
  have := Runs.or (P := P) (t := t) (w := w) (T := T) (T' := T') hx hy
  have e : IntKind.u32.wrap (BitVec.ofInt IntKind.u32.bits (a.toNat : Int) ||| BitVec.ofInt IntKind.u32.bits (b.toNat : Int)).toNat = ((a ||| b).toNat : Int) := by
    show IntKind.u32.wrap (BitVec.ofInt 32 (a.toNat : Int) ||| BitVec.ofInt 32 (b.toNat : Int)).toNat = _
    rw [ofInt_toNat, ofInt_toNat, wrap_u32_lt (a ||| b).isLt]
  rwa [e] at this
theorem Runs.com32 (hx : evs sl x = some (V32 a)) : Runs P sl (.unOp .xor T x) t w (V32 (~~~a)) := by
  have := Runs.com (P := P) (t := t) (w := w) (T := T) hx
  have e : IntKind.u32.wrap (BitVec.ofInt IntKind.u32.bits (if IntKind.u32.signed then -1 else IntKind.u32.max) ^^^ BitVec.ofInt IntKind.u32.bits (a.toNat : Int)).toNat = ((~~~a).toNat : Int) := by
    show IntKind.u32.wrap (BitVec.ofInt 32 4294967295 ^^^ BitVec.ofInt 32 (a.toNat : Int)).toNat = _
    rw [ofInt_toNat, show (BitVec.ofInt 32 4294967295 : BitVec 32) = BitVec.allOnes 32 from rfl, BitVec.allOnes_xor, wrap_u32_lt (~~~a).isLt]
  rwa [e] at this
theorem Runs.shr32 {n : Int} (hx : evs sl x = some (V32 a)) (hy : evs sl y = some (.int k n)) (h0 : 0 ≤ n ∧ n ≤ 32) : Runs P sl (.binOp .shr T x y T') t w (V32 (a >>> n.toNat)) := by
  have := Runs.shr (P := P) (t := t) (w := w) (T := T) (T' := T') hx hy h0.1
  have e : (a.toNat : Int) / 2 ^ Min.min n.toNat IntKind.u32.bits = ((a >>> n.toNat).toNat : Int) := by
    rw [show Min.min n.toNat IntKind.u32.bits = n.toNat from Nat.min_eq_left (by simp [IntKind.bits]; omega), BitVec.toNat_ushiftRight, Nat.shiftRight_eq_div_pow]
    simp
  rwa [e] at this
theorem Runs.shl32 {n : Int} (hx : evs sl x = some (V32 a)) (hy : evs sl y = some (.int k n)) (h0 : 0 ≤ n ∧ n ≤ 32) : Runs P sl (.binOp .shl T x y T') t w (V32 (a <<< n.toNat)) := by
  have := Runs.shl (P := P) (t := t) (w := w) (T := T) (T' := T') hx hy h0.1
  have e : IntKind.u32.wrap ((a.toNat : Int) * 2 ^ Min.min n.toNat IntKind.u32.bits) = ((a <<< n.toNat).toNat : Int) := by
    rw [show Min.min n.toNat IntKind.u32.bits = n.toNat from Nat.min_eq_left (by simp [IntKind.bits]; omega), wrap_u32, BitVec.toNat_shiftLeft, Nat.shiftLeft_eq]
    simp
  rwa [e] at this
theorem Runs.u8to32 {c : UInt8} (hu : P.underlying T = some (.int .u8)) (hu' : P.underlying T' = some (.int .u32)) (hx : evs sl x = some (V8 c)) : Runs P sl (.convert T T' x) t w (V32 (BitVec.ofNat 32 c.toNat)) := by
  have := Runs.toInt (P := P) (t := t) (w := w) hu hu' hx
  have e : IntKind.u32.wrap (c.toNat : Int) = ((BitVec.ofNat 32 c.toNat).toNat : Int) := by
    have := c.toNat_lt
    rw [wrap_u32_lt (by omega), BitVec.toNat_ofNat, Nat.mod_eq_of_lt (by omega)]
  rwa [e] at this
theorem Runs.to8 (hu : P.underlying T = some (.int .u32)) (hu' : P.underlying T' = some (.int .u8)) (hx : evs sl x = some (V32 a)) : Runs P sl (.convert T T' x) t w (V8 (UInt8.ofNat a.toNat)) := by
  have := Runs.toInt (P := P) (t := t) (w := w) hu hu' hx
  have e : IntKind.u8.wrap (a.toNat : Int) = ((UInt8.ofNat a.toNat).toNat : Int) := by
    rw [wrap_u8, UInt8.toNat_ofNat']; omega
  rwa [e] at this
theorem Runs.ito8 {m : Nat} {j : Int} (hu : P.underlying T = some (.int .i64)) (hu' : P.underlying T' = some (.int .u8)) (hx : evs sl x = some (.int .i64 j)) (hj : j = (m : Int)) : Runs P sl (.convert T T' x) t w (V8 (UInt8.ofNat m)) := by
  subst hj
  have := Runs.toInt (P := P) (t := t) (w := w) hu hu' hx
  have e : IntKind.u8.wrap (m : Int) = ((UInt8.ofNat m).toNat : Int) := by
    rw [wrap_u8, UInt8.toNat_ofNat']; omega
  rwa [e] at this
end
end B
end Go.Proofs.Ytkfkdenikkadhaa
