/- Fresh rows that are handed on as never changing; words and bytes kept as whole numbers. Plain lemmas. -/
import Derived.Test.YtkfkdenikkadhaaBaseJ
namespace Go.Proofs.Ytkfkdenikkadhaa
open Go Go.RowKit
set_option linter.unusedVariables false
set_option linter.unusedSimpArgs false
namespace B
/-- what a call hands back that makes a row: from now on nothing changes it -/
def Gives {α : Type} (W : World) (F : Snap) (cs : List Res) (f : α → Value) (xs : List α) (e : Ending) (w : World) : Prop :=
  ∃ G A cap, Le F G ∧ e = .returned (.slice A xs.length cap) ∧ xs.length ≤ cap ∧ RdS (Kd.one f) G A xs ∧ St W G cs w
theorem Row.gives {α : Type} {W w : World} {F : Snap} {cs : List Res} {E : TypeId} {f : α → Value} {r : Res} {v : Value} {xs : List α} (hr : Row E f r v xs) (h : St W F (r :: cs) w) : Gives W F cs f xs (.returned v) w := by
  obtain ⟨A, cap, rfl, hc⟩ := hr.val
  obtain ⟨G, h1, h2, h3⟩ := h.freeze (i := 0) rfl
  exact ⟨G, A, cap, h1, rfl, hc, Row.read hr rfl h2, h3⟩
theorem St.litRd {α : Type} {W w : World} {F : Snap} {cs : List Res} {f : α → Value} {xs : List α} {b : Nat} {tt : TypeId} {fz : Nat × Nat} (h : St W F ([(b, .cells (xs.map f).toArray tt fz)] :: cs) w) : ∃ G, Le F G ∧ RdS (Kd.one f) G (some ⟨b, 0, none⟩) xs ∧ St W G cs w := by
  obtain ⟨G, h1, h2, h3⟩ := h.freeze (i := 0) rfl
  refine ⟨G, h1, .inr ⟨_, rfl, fun i x hx => ⟨[f x], rfl, fun j v hv => ?_⟩⟩, h3⟩
  have hj : j = 0 := by
    rcases j with _ | j
    · rfl
    · simp at hv
  subst hj
  simp only [List.getElem?_cons_zero, Option.some.injEq] at hv
  subst hv
  have := h2 _ (List.mem_cons_self)
  show cellF G ((⟨b, 0, none⟩ : Addr).add (i * 1 + 0)) = some (f x)
  rw [add_mk, Nat.mul_one, Nat.add_zero, Nat.zero_add]
  unfold cellF
  simp only [this]
  simp [hx]
theorem St.litGives {α : Type} {W w : World} {F : Snap} {cs : List Res} {f : α → Value} {xs : List α} {b n : Nat} {tt : TypeId} {fz : Nat × Nat} (h : St W F ([(b, .cells (xs.map f).toArray tt fz)] :: cs) w) (hn : n = xs.length) : Gives W F cs f xs (.returned (.slice (some ⟨b, 0, none⟩) n n)) w := by
  subst hn
  obtain ⟨G, h1, h2, h3⟩ := h.litRd
  exact ⟨G, _, _, h1, rfl, Nat.le_refl _, h2, h3⟩
theorem Row.some {α : Type} {E : TypeId} {f : α → Value} {r : Res} {A : Option Addr} {n cap : Nat} {xs : List α} (hr : Row E f r (.slice A n cap) xs) (h0 : 0 < xs.length) : ∃ ad, A = .some ad := by
  rcases hr with ⟨_, _, hl, _⟩ | ⟨b, cap', arr, fz, _, hv, _⟩
  · omega
  · injection hv with hA; exact ⟨_, hA⟩
section
variable {P : Program} {sl : Sl} {w : World} {t T T' : TypeId} {x y : Operand} {k : IntKind}
/-- an element of a row of the call's own -/
theorem Runs.loadRow {α : Type} {W : World} {F : Snap} {cs : List Res} {E : TypeId} {f : α → Value} {r : Res} {ad : Addr} {m cap n : Nat} {xs : List α} {d : TypeDesc} (d0 : α) (h : St W F cs w) (i : Nat) (hi : cs[i]? = .some r) (hr : Row E f r (.slice (.some ad) m cap) xs) (hn : n < xs.length) (hu : P.underlying T = .some d) (hs : scal d = true) (hx : evs sl x = .some (.pointer (.some (ad.add n)))) :
    Runs P sl (.load T x) t w (f (xs.getD n d0)) := by
  rcases hr.wcell h hi rfl with e | ⟨ad', e, hc⟩
  · rw [e] at hn; simp at hn
  · injection e with e
    subst e
    refine Runs.load1 hu hs hx (hc n _ ?_)
    rw [List.getD_eq_getElem?_getD, List.getElem?_eq_getElem hn]; rfl
theorem Runs.lsl_lh {E : TypeId} {zv : Value} {sz bytes : Nat} {z : Operand} {A : Option Addr} {len cap n m : Nat} {j j' : Int} (hu : P.underlying T = .some (.slice E)) (hi : Inf P E zv sz bytes) (hx : evs sl x = .some (.slice A len cap)) (hy : evs sl y = .some (.int .i64 j)) (hz : evs sl z = .some (.int .i64 j')) (hj : j = (n : Int)) (hj' : j' = (m : Int)) (hn : n ≤ m) (hm : m ≤ cap) :
    Runs P sl (.slice T x (.some y) (.some z) none) t w (.slice (if cap = n then A else A.map (·.add (n * sz))) (m - n) (cap - n)) := by
  have := Runs.lsl (t := t) (w := w) (lo := .some y) (hi' := .some z) (l := .some j) (h := .some j') hu hi hx (by simp [evo, hy]) (by simp [evo, hz]) (okb_lh (len := len) (by omega) (by omega))
  simpa [hi_, lo_, hj, hj'] using this
/-- the number, in another form -/
theorem Runs.intT {op : Op} {m n : Int} (h : Runs P sl op t w (.int k m)) (e : m = n) : Runs P sl op t w (.int k n) := e ▸ h
theorem Runs.strT {op : Op} {a b : ByteArray} (h : Runs P sl op t w (.string a)) (e : a = b) : Runs P sl op t w (.string b) := e ▸ h
theorem Runs.u8toI {c : UInt8} (hu : P.underlying T = some (.int .u8)) (hu' : P.underlying T' = some (.int .i64)) (hx : evs sl x = some (V8 c)) : Runs P sl (.convert T T' x) t w (.int .i64 (c.toNat : Int)) := by
  have := Runs.toInt (P := P) (t := t) (w := w) hu hu' hx
  rwa [wrap64_in ⟨by omega, by have := c.toNat_lt; omega⟩] at this
theorem ofInt64 (n : Nat) (h : n < 4294967296) : (BitVec.ofInt 64 (n : Int)).toNat = n := by
  rw [BitVec.toNat_ofInt]; omega
theorem Runs.xorN {m n : Nat} (hm : m < 4294967296) (hn : n < 4294967296) (hx : evs sl x = some (.int .i64 (m : Int))) (hy : evs sl y = some (.int .i64 (n : Int))) : Runs P sl (.binOp .xor T x y T') t w (.int .i64 ((m ^^^ n : Nat) : Int)) := by
  have := Runs.xor (P := P) (t := t) (w := w) (T := T) (T' := T') hx hy
  have hb : m ^^^ n < 2 ^ 32 := Nat.xor_lt_two_pow hm hn
  have e : (BitVec.ofInt IntKind.i64.bits (m : Int) ^^^ BitVec.ofInt IntKind.i64.bits (n : Int)).toNat = m ^^^ n := by
    rw [BitVec.toNat_xor]
    show (BitVec.ofInt 64 (m : Int)).toNat ^^^ (BitVec.ofInt 64 (n : Int)).toNat = _
    rw [ofInt64 _ hm, ofInt64 _ hn]
  rw [e, wrap64_in ⟨by omega, by omega⟩] at this
  exact this
theorem Runs.andN {m n : Nat} (hm : m < 4294967296) (hn : n < 4294967296) (hx : evs sl x = some (.int .i64 (m : Int))) (hy : evs sl y = some (.int .i64 (n : Int))) : Runs P sl (.binOp .and T x y T') t w (.int .i64 ((m &&& n : Nat) : Int)) := by
  have := Runs.and (P := P) (t := t) (w := w) (T := T) (T' := T') hx hy
  have hb : m &&& n < 2 ^ 32 := Nat.and_lt_two_pow m hn
  have e : (BitVec.ofInt IntKind.i64.bits (m : Int) &&& BitVec.ofInt IntKind.i64.bits (n : Int)).toNat = m &&& n := by
    rw [BitVec.toNat_and]
    show (BitVec.ofInt 64 (m : Int)).toNat &&& (BitVec.ofInt 64 (n : Int)).toNat = _
    rw [ofInt64 _ hm, ofInt64 _ hn]
  rw [e, wrap64_in ⟨by omega, by omega⟩] at this
  exact this
theorem Runs.xorB {a b : UInt8} (hx : evs sl x = .some (.int .i64 (a.toNat : Int))) (hy : evs sl y = .some (.int .i64 (b.toNat : Int))) : Runs P sl (.binOp .xor T x y T') t w (.int .i64 ((a ^^^ b).toNat : Int)) := by
  have ha := a.toNat_lt; have hb := b.toNat_lt
  have := Runs.xorN (P := P) (t := t) (w := w) (T := T) (T' := T') (m := a.toNat) (n := b.toNat) (by omega) (by omega) hx hy
  rwa [← UInt8.toNat_xor] at this
/-- a word, a byte, as 'int' -/
abbrev VI (x : BitVec 32) : Value := .int .i64 (x.toNat : Int)
abbrev VB (x : UInt8) : Value := .int .i64 (x.toNat : Int)
theorem Runs.xorI {a b : BitVec 32} (hx : evs sl x = some (VI a)) (hy : evs sl y = some (VI b)) : Runs P sl (.binOp .xor T x y T') t w (VI (a ^^^ b)) := by
  have := Runs.xorN (P := P) (t := t) (w := w) (T := T) (T' := T') a.isLt b.isLt hx hy
  rwa [← BitVec.toNat_xor] at this
theorem Runs.andI {a b : BitVec 32} (hx : evs sl x = some (VI a)) (hy : evs sl y = some (VI b)) : Runs P sl (.binOp .and T x y T') t w (VI (a &&& b)) := by
  have := Runs.andN (P := P) (t := t) (w := w) (T := T) (T' := T') a.isLt b.isLt hx hy
  rwa [← BitVec.toNat_and] at this
/-- 2^32 - 1 less a word -/
theorem Runs.notI {a : BitVec 32} (hx : evs sl x = some (VI a)) : Runs P sl (.binOp .sub T (.const (.int .i64 4294967295)) x T') t w (VI (~~~a)) := by
  have := Runs.subn (P := P) (t := t) (w := w) (T := T) (T' := T') (x := .const (.int .i64 4294967295)) rfl hx ⟨by have := a.isLt; omega, by have := a.isLt; omega⟩
  refine Runs.intT this ?_
  rw [BitVec.toNat_not]
  have := a.isLt
  omega
end
end B
end Go.Proofs.Ytkfkdenikkadhaa
