/- Strings as lists of bytes; numbers as bytes. Plain lemmas. -/
import Derived.Test.YtfiknofmniiehaaBaseU
namespace Go.Proofs.Ytfiknofmniiehaa
open Go Go.RowKit
set_option linter.unusedVariables false
set_option linter.unusedSimpArgs false
namespace B
def bs (l : List UInt8) : ByteArray := ⟨l.toArray⟩
theorem bs_size (l : List UInt8) : (bs l).size = l.length := rfl
theorem bs_of (s : ByteArray) : bs s.data.toList = s := by cases s; simp [bs]
theorem bs_inj {a b : List UInt8} : bs a = bs b ↔ a = b := by
  constructor
  · intro h
    have := congrArg (fun s : ByteArray => s.data.toList) h
    simpa [bs] using this
  · intro h; rw [h]
theorem bs_add (a b : List UInt8) : bs a ++ bs b = bs (a ++ b) := by
  apply string_ext
  simp [bs, ByteArray.data_append]
theorem bs_ext (l : List UInt8) (n m : Nat) : (bs l).extract n m = bs ((l.drop n).take (m - n)) := by
  apply string_ext
  simp [bs, List.drop_take, ByteArray.data_extract]
section
variable {P : Program} {sl : Sl} {w : World} {t T T' : TypeId} {x y z : Operand} {k : IntKind} {a b l : List UInt8}
theorem Runs.lslen {ts : Array TypeId} (hu : P.underlying T = some .string) (hts : ts = #[T]) (hx : evs sl x = some (.string (bs l))) :
    Runs P sl (.call { callee := .builtin .len, args := #[x], argTypes := ts }) t w (.int .i64 (l.length : Int)) := Runs.slen hu hts hx
theorem Runs.lsadd (hx : evs sl x = some (.string (bs a))) (hy : evs sl y = some (.string (bs b))) (hb : a.length + b.length ≤ 9223372036854775807) : Runs P sl (.binOp .add T x y T') t w (.string (bs (a ++ b))) := by
  have := Runs.sadd (P := P) (t := t) (w := w) (T := T) (T' := T') hx hy hb
  rwa [bs_add] at this
theorem Runs.lseql (hx : evs sl x = some (.string (bs a))) (hy : evs sl y = some (.string (bs b))) : Runs P sl (.binOp .eql T x y T') t w (.bool (decide (a = b))) := by
  have := Runs.seql (P := P) (t := t) (w := w) (T := T) (T' := T') hx hy
  rwa [show decide (bs a = bs b) = decide (a = b) from by rw [decide_eq_decide]; exact bs_inj] at this
theorem Runs.lsneq (hx : evs sl x = some (.string (bs a))) (hy : evs sl y = some (.string (bs b))) : Runs P sl (.binOp .neq T x y T') t w (.bool (!decide (a = b))) := by
  have := Runs.sneq (P := P) (t := t) (w := w) (T := T) (T' := T') hx hy
  rwa [show decide (bs a = bs b) = decide (a = b) from by rw [decide_eq_decide]; exact bs_inj] at this
theorem Runs.lsidx {n : Nat} {j : Int} (hu : P.underlying T = some .string) (hx : evs sl x = some (.string (bs l))) (hy : evs sl y = some (.int k j)) (hj : j = (n : Int)) (hn : n < l.length) : Runs P sl (.index T x y) t w (V8 (l.getD n 0)) := by
  have := Runs.sidx8 (P := P) (t := t) (w := w) hu hx hy hj (by rw [bs_size]; exact hn)
  simpa [bs] using this
theorem Runs.lssl {n m : Nat} {j j' : Int} (hu : P.underlying T = some .string) (hx : evs sl x = some (.string (bs l))) (hy : evs sl y = some (.int .i64 j)) (hz : evs sl z = some (.int .i64 j')) (hj : j = (n : Int)) (hj' : j' = (m : Int)) (hn : n ≤ m) (hm : m ≤ l.length) :
    Runs P sl (.slice T x (some y) (some z) none) t w (.string (bs ((l.drop n).take (m - n)))) := by
  have := Runs.sslice (P := P) (t := t) (w := w) (lo := some y) (hi := some z) (l := some j) (h := some j') hu hx (by simp [evo, hy]) (by simp [evo, hz]) (okb_lh (len := (bs l).size) (by omega) (by rw [bs_size]; omega))
  subst hj; subst hj'
  simpa [lo_, hi_, bs_ext] using this
theorem Runs.lssl_lo {n : Nat} {j : Int} (hu : P.underlying T = some .string) (hx : evs sl x = some (.string (bs l))) (hy : evs sl y = some (.int .i64 j)) (hj : j = (n : Int)) (hn : n ≤ l.length) :
    Runs P sl (.slice T x (some y) none none) t w (.string (bs (l.drop n))) := by
  have := Runs.sslice (P := P) (t := t) (w := w) (lo := some y) (hi := none) (l := some j) (h := none) hu hx (by simp [evo, hy]) rfl (okb_lo (by rw [bs_size]; omega))
  subst hj
  simp only [lo_, hi_, bs_ext, Option.map_some, Option.map_none, Option.getD_some, Option.getD_none, Int.toNat_natCast, bs_size] at this
  rwa [List.take_of_length_le (by simp)] at this
theorem Runs.lssl_hi {m : Nat} {j : Int} (hu : P.underlying T = some .string) (hx : evs sl x = some (.string (bs l))) (hz : evs sl z = some (.int .i64 j)) (hj : j = (m : Int)) (hm : m ≤ l.length) :
    Runs P sl (.slice T x none (some z) none) t w (.string (bs (l.take m))) := by
  have := Runs.sslice (P := P) (t := t) (w := w) (lo := none) (hi := some z) (l := none) (h := some j) hu hx rfl (by simp [evo, hz]) (okb_hi (by rw [bs_size]; omega))
  subst hj
  simpa [lo_, hi_, bs_ext] using this
theorem Runs.shl8 {m : Nat} (hx : evs sl x = some (.int .i64 (m : Int))) (hy : evs sl y = some (.int k 8)) (hb : m < 36028797018963968) : Runs P sl (.binOp .shl T x y T') t w (.int .i64 ((256 * m : Nat) : Int)) := by
  have := Runs.shl (P := P) (t := t) (w := w) (T := T) (T' := T') hx hy (by omega)
  have e : (m : Int) * 2 ^ Min.min (8 : Int).toNat IntKind.i64.bits = ((256 * m : Nat) : Int) := by
    rw [show Min.min (8 : Int).toNat IntKind.i64.bits = 8 from rfl]; omega
  rwa [e, wrap64_in ⟨by omega, by omega⟩] at this
theorem Runs.orB {m : Nat} {c : UInt8} (hx : evs sl x = some (.int .i64 ((256 * m : Nat) : Int))) (hy : evs sl y = some (.int .i64 (c.toNat : Int))) (hb : m < 36028797018963968) : Runs P sl (.binOp .or T x y T') t w (.int .i64 ((256 * m + c.toNat : Nat) : Int)) := by
  have := Runs.or (P := P) (t := t) (w := w) (T := T) (T' := T') hx hy
  have hc := c.toNat_lt
  have e : (BitVec.ofInt IntKind.i64.bits ((256 * m : Nat) : Int) ||| BitVec.ofInt IntKind.i64.bits (c.toNat : Int)).toNat = 256 * m + c.toNat := by
    rw [BitVec.toNat_or]
    show (BitVec.ofInt 64 ((256 * m : Nat) : Int)).toNat ||| (BitVec.ofInt 64 (c.toNat : Int)).toNat = _
    rw [BitVec.toNat_ofInt, BitVec.toNat_ofInt]
    rw [show (((256 * m : Nat) : Int) % ((2 ^ 64 : Nat) : Int)).toNat = 256 * m by omega, show ((c.toNat : Int) % ((2 ^ 64 : Nat) : Int)).toNat = c.toNat by omega]
    have h1 := Nat.shiftLeft_add_eq_or_of_lt (i := 8) (b := c.toNat) (by omega) m
    rw [Nat.shiftLeft_eq] at h1
    rw [show 256 * m = m * 2 ^ 8 by omega, ← h1]
  rw [e, wrap64_in ⟨by omega, by omega⟩] at this
  exact this
theorem Runs.shrN {m n : Nat} {j : Int} (hx : evs sl x = some (.int .i64 (m : Int))) (hy : evs sl y = some (.int k j)) (hj : j = (n : Int)) (hn : n ≤ 64) : Runs P sl (.binOp .shr T x y T') t w (.int .i64 ((m / 2 ^ n : Nat) : Int)) := by
  have := Runs.shr (P := P) (t := t) (w := w) (T := T) (T' := T') hx hy (by omega)
  rwa [shr_nat hj hn] at this
/-- an interface compared with none -/
theorem run_eqlI {ms : Array (String × TypeId)} {A : TypeId} {v : Value} (hu : P.underlying T = some (.interface ms)) : (Op.equal T (.iface A v) .nilIface).run P w = .ok false w := by
  unfold Op.equal Op.maxDepth
  rw [show (10000 : Nat) = 9999 + 1 from rfl]
  unfold Op.equalIn
  simp [underlying, program, hu, bind, Sem.bind, pure, Sem.run]
theorem run_eqlI0 {ms : Array (String × TypeId)} (hu : P.underlying T = some (.interface ms)) : (Op.equal T .nilIface .nilIface).run P w = .ok true w := by
  unfold Op.equal Op.maxDepth
  rw [show (10000 : Nat) = 9999 + 1 from rfl]
  unfold Op.equalIn
  simp [underlying, program, hu, bind, Sem.bind, pure, Sem.run]
theorem Runs.ifneq {ms : Array (String × TypeId)} {A : TypeId} {v : Value} (hu : P.underlying T = some (.interface ms)) (hx : evs sl x = some (.iface A v)) (hy : evs sl y = some .nilIface) : Runs P sl (.binOp .neq T x y T') t w (.bool true) := fun ρ h o ho _ => by
  have := run_eqlI (w := w) (A := A) (v := v) hu
  simp only [execOp, ho, h _ _ hx, h _ _ hy, eqGuard]
  simp [binOp, this, Sem.run_bind, Result.andThen, Sem.run, pure]
theorem Runs.ifneq0 {ms : Array (String × TypeId)} {c : Value} (hu : P.underlying T = some (.interface ms)) (hx : evs sl x = some .nilIface) (hy : evs sl (.const c) = some .nilIface) : Runs P sl (.binOp .neq T x (.const c) T') t w (.bool false) := fun ρ h o ho _ => by
  have := run_eqlI0 (w := w) hu
  simp only [execOp, ho, h _ _ hx, h _ _ hy, eqGuard]
  simp [binOp, this, Sem.run_bind, Result.andThen, Sem.run, pure]
end
end B
end Go.Proofs.Ytfiknofmniiehaa
