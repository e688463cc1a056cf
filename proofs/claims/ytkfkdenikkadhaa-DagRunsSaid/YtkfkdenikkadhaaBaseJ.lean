/- Guarded operations; bytes. Plain lemmas. -/
import Derived.Test.YtkfkdenikkadhaaBaseI
namespace Go.Proofs.Ytkfkdenikkadhaa
open Go Go.RowKit
set_option linter.unusedVariables false
set_option linter.unusedSimpArgs false
namespace B
section
variable {P : Program} {Z : Post} {ks : List Fr} {N : Nat} {D : List Deferred} {sl : Sl} {W w : World} {ops : Array Oper} {rest : List Oper} {F G : Snap} {cs : List Res} {t T T' E : TypeId} {x y : Operand} {v zv : Value} {pos : String} {af : Array Edge} {bytes : Nat} {k : IntKind}
theorem yield_lk {a : Act} (ha : Ag N D sl a) {j u : Nat} {c : Bool} (hj : (ops[j]?).bind (·.dst) = some u) (hv : lk sl u = some (.bool c)) : yielded ops a.tmps j = some c := by
  have := ha.ag u _ hv
  unfold yielded
  rw [hj]
  simp [this]
/-- a guard that says yes -/
theorem WL.gon {dst : Option Nat} {op : Op} {j u : Nat} {c b : Bool} (hj : (ops[j]?).bind (·.dst) = some u) (hv : lk sl u = some (.bool c)) (hc : c = b)
    (h : WL P ops Z ks N D sl ({ dst := dst, op := op, type := t, pos := pos, after := af, guard := none } :: rest) w) :
    WL P ops Z ks N D sl ({ dst := dst, op := op, type := t, pos := pos, after := af, guard := some (j, b) } :: rest) w := fun a ha => by
  have h1 := h a ha
  have hy := yield_lk (ops := ops) ha hj hv
  subst hc
  unfold wpList at h1 ⊢
  rw [if_pos (by simp [Region.wanted])] at h1
  rw [if_pos (by simp [Region.wanted, hy])]
  exact h1
/-- a guard that says no -/
theorem WL.goff {d : Nat} {op : Op} {j u : Nat} {c b : Bool} (hj : (ops[j]?).bind (·.dst) = some u) (hv : lk sl u = some (.bool c)) (hc : c = !b) (hd : Nat.ble (d + 1) N = true)
    (h : WL P ops Z ks N D ((d, undef) :: sl) rest w) :
    WL P ops Z ks N D sl ({ dst := some d, op := op, type := t, pos := pos, after := af, guard := some (j, b) } :: rest) w := fun a ha => by
  have hy := yield_lk (ops := ops) ha hj hv
  unfold wpList
  rw [if_neg (by subst hc; simp [Region.wanted, hy])]
  exact h _ (ha.put (Nat.le_of_ble_eq_true hd) undef)
theorem WQ.gon {C : World → Prop} {Q : Act → Prop} {dst : Option Nat} {op : Op} {j u : Nat} {c b : Bool} (hj : (ops[j]?).bind (·.dst) = some u) (hv : lk sl u = some (.bool c)) (hc : c = b)
    (h : WQ P ops C Q N D sl ({ dst := dst, op := op, type := t, pos := pos, after := af, guard := none } :: rest)) :
    WQ P ops C Q N D sl ({ dst := dst, op := op, type := t, pos := pos, after := af, guard := some (j, b) } :: rest) := fun a ha => by
  have h1 := h a ha
  have hy := yield_lk (ops := ops) ha hj hv
  subst hc
  unfold wpQuiet at h1 ⊢
  rw [if_pos (by simp [Region.wanted])] at h1
  rw [if_pos (by simp [Region.wanted, hy])]
  exact h1
theorem WQ.goff {C : World → Prop} {Q : Act → Prop} {d : Nat} {op : Op} {j u : Nat} {c b : Bool} (hj : (ops[j]?).bind (·.dst) = some u) (hv : lk sl u = some (.bool c)) (hc : c = !b) (hd : Nat.ble (d + 1) N = true)
    (h : WQ P ops C Q N D ((d, undef) :: sl) rest) :
    WQ P ops C Q N D sl ({ dst := some d, op := op, type := t, pos := pos, after := af, guard := some (j, b) } :: rest) := fun a ha => by
  have hy := yield_lk (ops := ops) ha hj hv
  unfold wpQuiet
  rw [if_neg (by subst hc; simp [Region.wanted, hy])]
  exact h _ (ha.put (Nat.le_of_ble_eq_true hd) undef)
/-! bytes -/
theorem ofInt8 (a : UInt8) : BitVec.ofInt 8 (a.toNat : Int) = a.toBitVec := by simp
theorem wrap_u8_lt {n : Nat} (h : n < 256) : IntKind.u8.wrap (n : Int) = n := by rw [wrap_u8]; omega
variable {a b : UInt8}
theorem Runs.xor8 (hx : evs sl x = some (V8 a)) (hy : evs sl y = some (V8 b)) : Runs P sl (.binOp .xor T x y T') t w (V8 (a ^^^ b)) := by
  have := Runs.xor (P := P) (t := t) (w := w) (T := T) (T' := T') hx hy
  have e : IntKind.u8.wrap (BitVec.ofInt IntKind.u8.bits (a.toNat : Int) ^^^ BitVec.ofInt IntKind.u8.bits (b.toNat : Int)).toNat = ((a ^^^ b).toNat : Int) := by
    show IntKind.u8.wrap (BitVec.ofInt 8 (a.toNat : Int) ^^^ BitVec.ofInt 8 (b.toNat : Int)).toNat = _
    rw [ofInt8, ofInt8, wrap_u8_lt (a.toBitVec ^^^ b.toBitVec).isLt]; rfl
  rwa [e] at this
theorem Runs.or8 (hx : evs sl x = some (V8 a)) (hy : evs sl y = some (V8 b)) : Runs P sl (.binOp .or T x y T') t w (V8 (a ||| b)) := by
  have := Runs.or (P := P) (t := t) (w := w) (T := T) (T' := T') hx hy
  have e : IntKind.u8.wrap (BitVec.ofInt IntKind.u8.bits (a.toNat : Int) ||| BitVec.ofInt IntKind.u8.bits (b.toNat : Int)).toNat = ((a ||| b).toNat : Int) := by
    show IntKind.u8.wrap (BitVec.ofInt 8 (a.toNat : Int) ||| BitVec.ofInt 8 (b.toNat : Int)).toNat = _
    rw [ofInt8, ofInt8, wrap_u8_lt (a.toBitVec ||| b.toBitVec).isLt]; rfl
  rwa [e] at this
theorem Runs.and8 (hx : evs sl x = some (V8 a)) (hy : evs sl y = some (V8 b)) : Runs P sl (.binOp .and T x y T') t w (V8 (a &&& b)) := by
  have := Runs.and (P := P) (t := t) (w := w) (T := T) (T' := T') hx hy
  have e : IntKind.u8.wrap (BitVec.ofInt IntKind.u8.bits (a.toNat : Int) &&& BitVec.ofInt IntKind.u8.bits (b.toNat : Int)).toNat = ((a &&& b).toNat : Int) := by
    show IntKind.u8.wrap (BitVec.ofInt 8 (a.toNat : Int) &&& BitVec.ofInt 8 (b.toNat : Int)).toNat = _
    rw [ofInt8, ofInt8, wrap_u8_lt (a.toBitVec &&& b.toBitVec).isLt]; rfl
  rwa [e] at this
/-- the value, known -/
theorem Runs.boolT {op : Op} {b c : Bool} (h : Runs P sl op t w (.bool b)) (e : b = c) : Runs P sl op t w (.bool c) := e ▸ h
theorem Runs.eqlb {b c : Bool} (hu : P.underlying T = some .bool) (hx : evs sl x = some (.bool b)) (hy : evs sl y = some (.bool c)) : Runs P sl (.binOp .eql T x y T') t w (.bool (b == c)) := fun ρ h o ho _ => by
  have := run_eql_bool (P := P) w T b c hu
  simp only [execOp, ho, h _ _ hx, h _ _ hy, eqGuard]
  simp [this]
/-- a byte of a text -/
theorem Runs.sidx8 {s : ByteArray} {n : Nat} {j : Int} (hu : P.underlying T = some .string) (hx : evs sl x = some (.string s)) (hy : evs sl y = some (.int k j)) (hj : j = (n : Int)) (hn : n < s.size) : Runs P sl (.index T x y) t w (V8 (s.data.toList.getD n 0)) := by
  have := Runs.sindex (P := P) (t := t) (w := w) hu hx hy (by omega)
  have e : bt s j = ((s.data.toList.getD n 0).toNat : Int) := by
    subst hj
    unfold bt
    rw [Int.toNat_natCast, List.getD_eq_getElem?_getD, ← Array.getElem?_toList]
  rwa [e] at this
theorem string_ext {s u : ByteArray} (h : s.data.toList = u.data.toList) : s = u := by
  cases s; cases u; simpa using Array.toList_inj.1 h
end
end B
end Go.Proofs.Ytkfkdenikkadhaa
