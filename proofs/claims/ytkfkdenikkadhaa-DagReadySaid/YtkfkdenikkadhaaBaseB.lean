/- One lemma an operation: what leaves the world alone. Plain lemmas. -/
import Derived.Test.YtkfkdenikkadhaaBaseA
namespace Go.Proofs.Ytkfkdenikkadhaa
open Go Go.RowKit
set_option linter.unusedVariables false
set_option linter.unusedSimpArgs false
namespace B
section
variable {P : Program} {sl : Sl} {w : World} {t T T' : TypeId} {x y z : Operand} {k : IntKind} {m n : Int} {v : Value}
theorem Runs.move (hx : evs sl x = some v) : Runs P sl (.move x) t w v := fun ρ h o ho _ => by simp [execOp, ho, h x v hx, pure, Sem.run]
theorem Runs.assign (hx : evs sl x = some v) : Runs P sl (.assign x) t w v := fun ρ h o ho _ => by simp [execOp, ho, h x v hx, pure, Sem.run]
theorem Runs.pick {c : Operand} {b : Bool} {u v : Value} (hc : evs sl c = some (.bool b)) (hx : evs sl x = some u) (hy : evs sl y = some v) : Runs P sl (.pick c x y) t w (if b then u else v) := fun ρ h o ho _ => by
  cases b <;> simp [execOp, ho, h _ _ hc, h _ _ hx, h _ _ hy, pure, Sem.run, asBool, bind, Sem.bind]
theorem Runs.add (hx : evs sl x = some (.int k m)) (hy : evs sl y = some (.int k n)) : Runs P sl (.binOp .add T x y T') t w (.int k (k.wrap (m + n))) := fun ρ h o ho _ => by
  simp [execOp, ho, h _ _ hx, h _ _ hy, eqGuard, binOp, Op.intArith, pure, Sem.run, bind, Sem.bind]
theorem Runs.sub (hx : evs sl x = some (.int k m)) (hy : evs sl y = some (.int k n)) : Runs P sl (.binOp .sub T x y T') t w (.int k (k.wrap (m - n))) := fun ρ h o ho _ => by
  simp [execOp, ho, h _ _ hx, h _ _ hy, eqGuard, binOp, Op.intArith, pure, Sem.run, bind, Sem.bind]
theorem Runs.mul (hx : evs sl x = some (.int k m)) (hy : evs sl y = some (.int k n)) : Runs P sl (.binOp .mul T x y T') t w (.int k (k.wrap (m * n))) := fun ρ h o ho _ => by
  simp [execOp, ho, h _ _ hx, h _ _ hy, eqGuard, binOp, Op.intArith, pure, Sem.run, bind, Sem.bind]
theorem wrap64_in {m : Int} (h : -9223372036854775808 ≤ m ∧ m ≤ 9223372036854775807) : IntKind.i64.wrap m = m := by
  simp only [IntKind.wrap, IntKind.bits, IntKind.signed, Bool.true_and, decide_eq_true_eq]
  simp only [show (2 : Int) ^ 64 = 18446744073709551616 from rfl, show (2 : Int) ^ (64 - 1) = 9223372036854775808 from rfl]
  split <;> rename_i h' <;> simp only [decide_eq_true_eq, ge_iff_le, Int.not_le] at h' <;> omega
theorem ibeq (m n : Int) : (m == n) = decide (m = n) := by rw [Bool.eq_iff_iff]; simp
theorem Runs.addn {x y : Operand} {m n : Int} (hx : evs sl x = some (.int .i64 m)) (hy : evs sl y = some (.int .i64 n)) (hb : -9223372036854775808 ≤ m + n ∧ m + n ≤ 9223372036854775807) : Runs P sl (.binOp .add T x y T') t w (.int .i64 (m + n)) := by
  have := Runs.add (P := P) (t := t) (w := w) (T := T) (T' := T') hx hy; rwa [wrap64_in hb] at this
theorem Runs.subn {x y : Operand} {m n : Int} (hx : evs sl x = some (.int .i64 m)) (hy : evs sl y = some (.int .i64 n)) (hb : -9223372036854775808 ≤ m - n ∧ m - n ≤ 9223372036854775807) : Runs P sl (.binOp .sub T x y T') t w (.int .i64 (m - n)) := by
  have := Runs.sub (P := P) (t := t) (w := w) (T := T) (T' := T') hx hy; rwa [wrap64_in hb] at this
theorem Runs.muln {x y : Operand} {m n : Int} (hx : evs sl x = some (.int .i64 m)) (hy : evs sl y = some (.int .i64 n)) (hb : -9223372036854775808 ≤ m * n ∧ m * n ≤ 9223372036854775807) : Runs P sl (.binOp .mul T x y T') t w (.int .i64 (m * n)) := by
  have := Runs.mul (P := P) (t := t) (w := w) (T := T) (T' := T') hx hy; rwa [wrap64_in hb] at this
/-- '/' and '%' of a number that is not below 0, by one above 0 -/
theorem Runs.quon {x y : Operand} {m n : Int} (hx : evs sl x = some (.int .i64 m)) (hy : evs sl y = some (.int .i64 n)) (hm : 0 ≤ m ∧ m ≤ 9223372036854775807) (hn : 0 < n) : Runs P sl (.binOp .quo T x y T') t w (.int .i64 (m / n)) := fun ρ h o ho _ => by
  have e1 : m.tdiv n = m / n := Int.tdiv_eq_ediv_of_nonneg hm.1
  have e2 : IntKind.i64.wrap (m / n) = m / n := wrap64_in ⟨by have := Int.ediv_nonneg hm.1 (Int.le_of_lt hn); omega, by have := Int.ediv_le_self n hm.1; omega⟩
  simp [execOp, ho, h _ _ hx, h _ _ hy, eqGuard, binOp, Op.intDiv, pure, Sem.run, bind, Sem.bind, show ¬ n = 0 by omega, e1, e2]
theorem Runs.remn {x y : Operand} {k : IntKind} {m n : Int} (hx : evs sl x = some (.int k m)) (hy : evs sl y = some (.int k n)) (hm : 0 ≤ m) (hn : 0 < n) : Runs P sl (.binOp .rem T x y T') t w (.int k (m % n)) := fun ρ h o ho _ => by
  have e1 : m.tmod n = m % n := Int.tmod_eq_emod_of_nonneg hm
  simp [execOp, ho, h _ _ hx, h _ _ hy, eqGuard, binOp, Op.intDiv, pure, Sem.run, bind, Sem.bind, show ¬ n = 0 by omega, e1]
theorem Runs.lss (hx : evs sl x = some (.int k m)) (hy : evs sl y = some (.int k n)) : Runs P sl (.binOp .lss T x y T') t w (.bool (decide (m < n))) := fun ρ h o ho _ => by
  simp [execOp, ho, h _ _ hx, h _ _ hy, eqGuard, binOp, Op.intCmp, pure, Sem.run, bind, Sem.bind]
theorem Runs.leq (hx : evs sl x = some (.int k m)) (hy : evs sl y = some (.int k n)) : Runs P sl (.binOp .leq T x y T') t w (.bool (decide (m ≤ n))) := fun ρ h o ho _ => by
  simp [execOp, ho, h _ _ hx, h _ _ hy, eqGuard, binOp, Op.intCmp, pure, Sem.run, bind, Sem.bind]
theorem Runs.gtr (hx : evs sl x = some (.int k m)) (hy : evs sl y = some (.int k n)) : Runs P sl (.binOp .gtr T x y T') t w (.bool (decide (n < m))) := fun ρ h o ho _ => by
  simp [execOp, ho, h _ _ hx, h _ _ hy, eqGuard, binOp, Op.intCmp, pure, Sem.run, bind, Sem.bind]
theorem Runs.geq (hx : evs sl x = some (.int k m)) (hy : evs sl y = some (.int k n)) : Runs P sl (.binOp .geq T x y T') t w (.bool (decide (n ≤ m))) := fun ρ h o ho _ => by
  simp [execOp, ho, h _ _ hx, h _ _ hy, eqGuard, binOp, Op.intCmp, pure, Sem.run, bind, Sem.bind]
theorem Runs.eql (hx : evs sl x = some (.int k m)) (hy : evs sl y = some (.int k n)) : Runs P sl (.binOp .eql T x y T') t w (.bool (decide (m = n))) := fun ρ h o ho _ => by
  simp [execOp, ho, h _ _ hx, h _ _ hy, eqGuard, binOp, Op.intCmp, pure, Sem.run, bind, Sem.bind, ibeq]
theorem Runs.neq (hx : evs sl x = some (.int k m)) (hy : evs sl y = some (.int k n)) : Runs P sl (.binOp .neq T x y T') t w (.bool (!decide (m = n))) := fun ρ h o ho _ => by
  simp [execOp, ho, h _ _ hx, h _ _ hy, eqGuard, binOp, Op.intCmp, pure, Sem.run, bind, Sem.bind, bne, ibeq]
theorem Runs.bits {op : BinOp} {r : Value} (hx : evs sl x = some (.int k m)) (hy : evs sl y = some (.int k n)) (hr : (Op.intBits op k m n).run P w = .ok r w) (ho' : op = .and ∨ op = .or ∨ op = .xor ∨ op = .andNot) : Runs P sl (.binOp op T x y T') t w r := fun ρ h o ho _ => by
  rcases ho' with rfl | rfl | rfl | rfl <;>
  · simp only [execOp, ho, h _ _ hx, h _ _ hy, eqGuard, binOp, bind, Sem.bind, pure]
    simp only [Op.intBits, pure, Sem.run] at hr ⊢
    simpa [Sem.bind, Sem.run] using hr
theorem Runs.and (hx : evs sl x = some (.int k m)) (hy : evs sl y = some (.int k n)) : Runs P sl (.binOp .and T x y T') t w (.int k (k.wrap (BitVec.ofInt k.bits m &&& BitVec.ofInt k.bits n).toNat)) := Runs.bits hx hy rfl (.inl rfl)
theorem Runs.or (hx : evs sl x = some (.int k m)) (hy : evs sl y = some (.int k n)) : Runs P sl (.binOp .or T x y T') t w (.int k (k.wrap (BitVec.ofInt k.bits m ||| BitVec.ofInt k.bits n).toNat)) := Runs.bits hx hy rfl (.inr (.inl rfl))
theorem Runs.xor (hx : evs sl x = some (.int k m)) (hy : evs sl y = some (.int k n)) : Runs P sl (.binOp .xor T x y T') t w (.int k (k.wrap (BitVec.ofInt k.bits m ^^^ BitVec.ofInt k.bits n).toNat)) := Runs.bits hx hy rfl (.inr (.inr (.inl rfl)))
theorem Runs.not {b : Bool} (hx : evs sl x = some (.bool b)) : Runs P sl (.unOp .not T x) t w (.bool (!b)) := fun ρ h o ho _ => by
  simp [execOp, ho, h _ _ hx, Op.unary, pure, Sem.run, bind, Sem.bind]
theorem Runs.com (hx : evs sl x = some (.int k m)) : Runs P sl (.unOp .xor T x) t w (.int k (k.wrap (BitVec.ofInt k.bits (if k.signed then -1 else k.max) ^^^ BitVec.ofInt k.bits m).toNat)) := fun ρ h o ho _ => by
  simp [execOp, ho, h _ _ hx, Op.unary, Op.intBits, pure, Sem.run, bind, Sem.bind]
theorem Runs.shr {k' : IntKind} (hx : evs sl x = some (.int k m)) (hy : evs sl y = some (.int k' n)) (h0 : 0 ≤ n) : Runs P sl (.binOp .shr T x y T') t w (.int k (m / 2 ^ min n.toNat k.bits)) := fun ρ h o ho _ => by
  have : m.fdiv (2 ^ min n.toNat k.bits) = m / 2 ^ min n.toNat k.bits := Int.fdiv_eq_ediv_of_nonneg _ (Int.le_of_lt (Int.pow_pos (by decide)))
  simp [execOp, ho, h _ _ hx, h _ _ hy, eqGuard, binOp, Op.shift, pure, Sem.run, bind, Sem.bind, show ¬ n < 0 by omega, this]
theorem Runs.shl {k' : IntKind} (hx : evs sl x = some (.int k m)) (hy : evs sl y = some (.int k' n)) (h0 : 0 ≤ n) : Runs P sl (.binOp .shl T x y T') t w (.int k (k.wrap (m * 2 ^ min n.toNat k.bits))) := fun ρ h o ho _ => by
  simp [execOp, ho, h _ _ hx, h _ _ hy, eqGuard, binOp, Op.shift, pure, Sem.run, bind, Sem.bind, show ¬ n < 0 by omega]
/-! strings -/
theorem Runs.sadd {a b : ByteArray} (hx : evs sl x = some (.string a)) (hy : evs sl y = some (.string b)) (hb : a.size + b.size ≤ 9223372036854775807) : Runs P sl (.binOp .add T x y T') t w (.string (a ++ b)) := fun ρ h o ho _ => by
  have : ¬ ((a.size + b.size : Nat) : Int) > IntKind.i64.max := by
    have : IntKind.i64.max = 9223372036854775807 := by decide
    omega
  simp only [execOp, ho, h _ _ hx, h _ _ hy, eqGuard, binOp, Op.stringOp, bind, Sem.bind, pure, if_neg this, Sem.run]
  rfl
theorem seq_toList (a b : ByteArray) : (a.toList == b.toList) = decide (a = b) := by
  rw [Bool.eq_iff_iff]
  simp only [beq_iff_eq, decide_eq_true_eq]
  constructor
  · intro h
    rw [ByteArray.toList_eq, ByteArray.toList_eq] at h
    cases a; cases b
    simp only at h
    simpa using Array.toList_inj.1 h
  · rintro rfl; rfl
theorem Runs.seql {a b : ByteArray} (hx : evs sl x = some (.string a)) (hy : evs sl y = some (.string b)) : Runs P sl (.binOp .eql T x y T') t w (.bool (decide (a = b))) := fun ρ h o ho _ => by
  rw [← seq_toList]
  simp only [execOp, ho, h _ _ hx, h _ _ hy, eqGuard, binOp, Op.stringOp, bind, Sem.bind, pure, Sem.run]
  rfl
theorem Runs.sneq {a b : ByteArray} (hx : evs sl x = some (.string a)) (hy : evs sl y = some (.string b)) : Runs P sl (.binOp .neq T x y T') t w (.bool (!decide (a = b))) := fun ρ h o ho _ => by
  rw [← seq_toList]
  simp only [execOp, ho, h _ _ hx, h _ _ hy, eqGuard, binOp, Op.stringOp, bind, Sem.bind, pure, Sem.run]
  rfl
/-- bytes of a string -/
def bt (s : ByteArray) (i : Int) : Int := ((s.data[i.toNat]?).getD 0).toNat
theorem bt_range (s : ByteArray) (i : Int) : 0 ≤ bt s i ∧ bt s i < 256 := by
  unfold bt
  have := ((s.data[i.toNat]?).getD 0).toNat_lt
  omega
theorem Runs.sindex {s : ByteArray} {i : Int} (hu : P.underlying T = some .string) (hx : evs sl x = some (.string s)) (hy : evs sl y = some (.int k i)) (hi : 0 ≤ i ∧ i < s.size) : Runs P sl (.index T x y) t w (.int .u8 (bt s i)) := fun ρ h o ho _ => by
  have h2 : i.toNat < s.size := by omega
  have h3 : s[i.toNat]? = some (s[i.toNat]'h2) := getElem?_pos s i.toNat h2
  have h4 : bt s i = ((s[i.toNat]'h2).toNat : Int) := by
    unfold bt
    rw [show s.data[i.toNat]? = some (s[i.toNat]'h2) from Array.getElem?_eq_getElem (xs := s.data) h2]
    rfl
  simp [execOp, ho, h _ _ hx, h _ _ hy, Instr.index, asIntOf, underlying, program, hu, pure, Sem.run, bind, Sem.bind, hi.1, h3, h4]
theorem Runs.slen {s : ByteArray} {ts : Array TypeId} (hu : P.underlying T = some .string) (hts : ts = #[T]) (hx : evs sl x = some (.string s)) :
    Runs P sl (.call { callee := .builtin .len, args := #[x], argTypes := ts }) t w (.int .i64 s.size) := fun ρ h o ho _ => by
  subst hts
  simp [execOp, ho, h _ _ hx, resolve, invoke, builtin, Builtin.len_, underlying, program, hu, pure, Sem.run, bind, Sem.bind, goInt]
theorem Runs.llen {A : Option Addr} {len cap : Nat} {E : TypeId} {ts : Array TypeId} (hu : P.underlying T = some (.slice E)) (hts : ts = #[T]) (hx : evs sl x = some (.slice A len cap)) :
    Runs P sl (.call { callee := .builtin .len, args := #[x], argTypes := ts }) t w (.int .i64 len) := fun ρ h o ho _ => by
  subst hts
  simp [execOp, ho, h _ _ hx, resolve, invoke, builtin, Builtin.len_, underlying, program, hu, pure, Sem.run, bind, Sem.bind, goInt]
theorem Runs.min {ts : Array TypeId} (hx : evs sl x = some (.int k m)) (hy : evs sl y = some (.int k n)) :
    Runs P sl (.call { callee := .builtin .min, args := #[x, y], argTypes := ts }) t w (.int k (if n < m then n else m)) := fun ρ h o ho _ => by
  simp [execOp, ho, h _ _ hx, h _ _ hy, resolve, invoke, builtin, Builtin.min_, Builtin.min2, pure, Sem.run, bind, Sem.bind]
theorem Runs.max {ts : Array TypeId} (hx : evs sl x = some (.int k m)) (hy : evs sl y = some (.int k n)) :
    Runs P sl (.call { callee := .builtin .max, args := #[x, y], argTypes := ts }) t w (.int k (if m < n then n else m)) := fun ρ h o ho _ => by
  simp [execOp, ho, h _ _ hx, h _ _ hy, resolve, invoke, builtin, Builtin.max_, Builtin.max2, pure, Sem.run, bind, Sem.bind]
theorem Runs.toInt {k' : IntKind} (hu : P.underlying T = some (.int k')) (hu' : P.underlying T' = some (.int k)) (hx : evs sl x = some (.int k' m)) : Runs P sl (.convert T T' x) t w (.int k (k.wrap m)) := fun ρ h o ho _ => by
  simp [execOp, ho, h _ _ hx, convert, underlying, program, hu, hu', Conv.intToInt, pure, Sem.run, bind, Sem.bind]
theorem Runs.sconv {s : ByteArray} (hu : P.underlying T = some .string) (hu' : P.underlying T' = some .string) (hx : evs sl x = some (.string s)) : Runs P sl (.convert T T' x) t w (.string s) := fun ρ h o ho _ => by
  simp [execOp, ho, h _ _ hx, convert, underlying, program, hu, hu', pure, Sem.run, bind, Sem.bind]
theorem bound_in {x : Value} {i : Int} {y : Nat} {c : BoundsCode} (hx : x = .int k i) (h : 0 ≤ i ∧ i ≤ y) : Instr.sliceBound x y c = .pure i.toNat := by
  subst hx
  simp [Instr.sliceBound, asIntOf, bind, Sem.bind, pure, h]
/-- the bounds of a slice expression -/
def lo_ (lo : Option Int) : Nat := (lo.map Int.toNat).getD 0
def hi_ (hi : Option Int) (n : Nat) : Nat := (hi.map Int.toNat).getD n
def evo (sl : Sl) : Option Operand → Option (Option Int)
  | none => some none
  | some x => match evs sl x with | some (.int .i64 i) => some (some i) | _ => none
def okb (lo hi : Option Int) (len cap : Nat) : Prop := (∀ h, hi = some h → 0 ≤ h ∧ h ≤ cap) ∧ (∀ l, lo = some l → 0 ≤ l ∧ l ≤ hi_ hi len)
theorem bounds_run {ρ : Operand → Value} (hρ : ∀ x v, evs sl x = some v → ρ x = v) {lo hi : Option Operand} {l h : Option Int} {b : Bool} {len cap : Nat} (h1 : evo sl lo = some l) (h2 : evo sl hi = some h) (hb : okb l h len cap) :
    Instr.sliceBounds b len cap (lo.map ρ) (hi.map ρ) none = .pure (lo_ l, hi_ h len, cap) := by
  have key : ∀ {o : Option Operand} {r : Option Int}, evo sl o = some r → (r = none ∧ o = none) ∨ ∃ x i, o = some x ∧ r = some i ∧ ρ x = .int .i64 i := by
    intro o r hr
    cases o with
    | none => left; simpa [evo, eq_comm] using hr
    | some x =>
      right
      simp only [evo] at hr
      cases hx : evs sl x with
      | none => rw [hx] at hr; simp at hr
      | some v =>
        rw [hx] at hr
        split at hr
        · rename_i i he
          simp only [Option.some.injEq] at hr he
          exact ⟨x, i, rfl, hr.symm, by rw [hρ x v hx, he]⟩
        · simp at hr
  rcases key h2 with ⟨rfl, rfl⟩ | ⟨xh, ih, rfl, rfl, eh⟩ <;> rcases key h1 with ⟨rfl, rfl⟩ | ⟨xl, il, rfl, rfl, el⟩
  · simp [Instr.sliceBounds, lo_, hi_, pure, bind, Sem.bind]
  · have hl := hb.2 il rfl
    simp only [Instr.sliceBounds, lo_, hi_, pure, bind, Sem.bind, Option.map_some, Option.map_none, el, Option.getD_some, Option.getD_none, Option.isSome_none] at *
    rw [bound_in rfl hl]; rfl
  · have hh := hb.1 ih rfl
    simp only [Instr.sliceBounds, lo_, hi_, pure, bind, Sem.bind, Option.map_some, Option.map_none, eh, Option.getD_some, Option.getD_none] at *
    rw [bound_in rfl hh]; rfl
  · have hh := hb.1 ih rfl
    have hl := hb.2 il rfl
    simp only [Instr.sliceBounds, lo_, hi_, pure, bind, Sem.bind, Option.map_some, eh, el, Option.getD_some, Option.isSome_none] at *
    rw [bound_in rfl hh]
    simp only [Sem.bind]
    rw [bound_in rfl hl]; rfl
theorem Runs.sslice {s : ByteArray} {lo hi : Option Operand} {l h : Option Int} (hu : P.underlying T = some .string) (hx : evs sl x = some (.string s)) (h1 : evo sl lo = some l) (h2 : evo sl hi = some h) (hb : okb l h s.size s.size) :
    Runs P sl (.slice T x lo hi none) t w (.string (s.extract (lo_ l) (hi_ h s.size))) := fun ρ hρ o ho _ => by
  have := bounds_run (b := false) hρ h1 h2 hb
  simp [execOp, ho, hρ _ _ hx, Instr.sliceAt, Instr.slice, underlying, program, hu, pure, Sem.run, bind, Sem.bind, this]
theorem Runs.lslice {A : Option Addr} {len cap size : Nat} {E : TypeId} {i : TypeInfo} {lo hi' : Option Operand} {l h : Option Int} (hu : P.underlying T = some (.slice E)) (hi : P.info? E = some i) (hz : i.size = size) (hx : evs sl x = some (.slice A len cap)) (h1 : evo sl lo = some l) (h2 : evo sl hi' = some h) (hb : okb l h len cap) :
    Runs P sl (.slice T x lo hi' none) t w (.slice (if cap = lo_ l then A else A.map (·.add (lo_ l * size))) (hi_ h len - lo_ l) (cap - lo_ l)) := fun ρ hρ o ho _ => by
  have := bounds_run (b := true) hρ h1 h2 hb
  simp [execOp, ho, hρ _ _ hx, Instr.sliceAt, Instr.slice, underlying, program, hu, sizeOf, typeInfo, hi, hz, pure, Sem.run, bind, Sem.bind, this]
/-- a slice of a whole array in memory -/
theorem Runs.aslice {a : Addr} {n size : Nat} {E : TypeId} {i : TypeInfo} {lo hi' : Option Operand} {l h : Option Int} (hu : P.underlying T = some (.array n E)) (hi : P.info? E = some i) (hz : i.size = size) (hx : evs sl x = some (.pointer (some a))) (h1 : evo sl lo = some l) (h2 : evo sl hi' = some h) (hb : okb l h n n) :
    Runs P sl (.slice T x lo hi' none) t w (.slice (some (if n = lo_ l then a else a.add (lo_ l * size))) (hi_ h n - lo_ l) (n - lo_ l)) := fun ρ hρ o ho _ => by
  have := bounds_run (b := false) hρ h1 h2 hb
  simp [execOp, ho, hρ _ _ hx, Instr.sliceAt, Instr.sureAddr, underlying, program, hu, sizeOf, typeInfo, hi, hz, pure, Sem.run, bind, Sem.bind, this]
theorem Runs.aindex {a : Addr} {n size : Nat} {E : TypeId} {i : TypeInfo} {j : Int} (hu : P.underlying T = some (.array n E)) (hi : P.info? E = some i) (hz : i.size = size) (hx : evs sl x = some (.pointer (some a))) (hy : evs sl y = some (.int k j)) (hj : 0 ≤ j ∧ j < n) :
    Runs P sl (.indexAddr T x y) t w (.pointer (some (a.add (j.toNat * size)))) := fun ρ hρ o ho _ => by
  simp [execOp, ho, hρ _ _ hx, hρ _ _ hy, Instr.indexAt, asIntOf, Instr.sureAddr, underlying, program, hu, sizeOf, typeInfo, hi, hz, pure, Sem.run, bind, Sem.bind, hj.1, hj.2]
theorem Runs.lindex {a : Addr} {len cap size : Nat} {E : TypeId} {i : TypeInfo} {j : Int} (hu : P.underlying T = some (.slice E)) (hi : P.info? E = some i) (hz : i.size = size) (hx : evs sl x = some (.slice (some a) len cap)) (hy : evs sl y = some (.int k j)) (hj : 0 ≤ j ∧ j < len) :
    Runs P sl (.indexAddr T x y) t w (.pointer (some (a.add (j.toNat * size)))) := fun ρ hρ o ho _ => by
  simp [execOp, ho, hρ _ _ hx, hρ _ _ hy, Instr.indexAt, asIntOf, underlying, program, hu, sizeOf, typeInfo, hi, hz, pure, Sem.run, bind, Sem.bind, hj.1, hj.2]
theorem Runs.nilCheckP {a : Addr} (hx : evs sl x = some (.pointer (some a))) : Runs P sl (.nilCheck x) t w (.pointer (some a)) := fun ρ hρ o ho _ => by
  simp [execOp, ho, hρ _ _ hx, pure, Sem.run, bind, Sem.bind]
theorem Runs.nilCheckF {f : FuncId} {u c : Array Value} (hx : evs sl x = some (.func (.func f) u c)) : Runs P sl (.nilCheck x) t w (.func (.func f) u c) := fun ρ hρ o ho _ => by
  simp [execOp, ho, hρ _ _ hx, pure, Sem.run, bind, Sem.bind]
theorem Runs.makeFunc {f : FuncId} {xs ys : List Operand} {us vs : List Value} (hx : args_ sl xs = some us) (hy : args_ sl ys = some vs) : Runs P sl (.makeFunc (.func f) xs.toArray ys.toArray) t w (.func (.func f) us.toArray vs.toArray) := fun ρ hρ o ho _ => by
  simp [execOp, ho, Instr.makeFunc, args_spec hρ xs us hx, args_spec hρ ys vs hy, pure, Sem.run, bind, Sem.bind]
theorem Runs.extract {vs : Array Value} {j : Nat} {v : Value} (hx : evs sl x = some (.tuple vs)) (hj : vs[j]? = some v) : Runs P sl (.extract x j) t w v := fun ρ hρ o ho _ => by
  simp [execOp, ho, hρ _ _ hx, Instr.extract, hj, pure, Sem.run, bind, Sem.bind]
/-- a value's run, out of what the instruction does -/
theorem Runs.of {op : Op} {s : (Operand → Value) → Sem Value} (h : ∀ ρ o, o.op = op → execOp ρ o = (do pure (.value (← s ρ)))) (hr : ∀ ρ : Operand → Value, (∀ x v, evs sl x = some v → ρ x = v) → (s ρ).run P w = .ok v w) : Runs P sl op t w v := fun ρ hρ o ho _ => by
  rw [h ρ o ho, Sem.run_bind, hr ρ hρ]
  rfl
end
end B
end Go.Proofs.Ytkfkdenikkadhaa
