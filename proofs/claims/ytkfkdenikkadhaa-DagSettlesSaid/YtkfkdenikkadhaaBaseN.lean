/- Guards that hang on operations that were not wanted themselves. Plain lemmas. -/
import Derived.Test.YtkfkdenikkadhaaBaseM
namespace Go.Proofs.Ytkfkdenikkadhaa
open Go Go.RowKit
set_option linter.unusedVariables false
set_option linter.unusedSimpArgs false
namespace B
section
variable {P : Program} {Z : Post} {ks : List Fr} {N : Nat} {D : List Deferred} {sl : Sl} {w : World} {ops : Array Oper} {rest : List Oper} {t : TypeId} {pos : String} {af : Array Edge}
theorem yield_un {a : Act} (ha : Ag N D sl a) {j u : Nat} (hj : (ops[j]?).bind (·.dst) = some u) (hv : lk sl u = some undef) : yielded ops a.tmps j = none := by
  have := ha.ag u _ hv
  unfold yielded
  rw [hj]
  simp [this, undef]
theorem WL.goffU {d : Nat} {op : Op} {j u : Nat} {b : Bool} (hj : (ops[j]?).bind (·.dst) = some u) (hv : lk sl u = some undef) (hd : Nat.ble (d + 1) N = true)
    (h : WL P ops Z ks N D ((d, undef) :: sl) rest w) :
    WL P ops Z ks N D sl ({ dst := some d, op := op, type := t, pos := pos, after := af, guard := some (j, b) } :: rest) w := fun a ha => by
  have hy := yield_un (ops := ops) ha hj hv
  unfold wpList
  rw [if_neg (by simp [Region.wanted, hy])]
  exact h _ (ha.put (Nat.le_of_ble_eq_true hd) undef)
theorem WQ.goffU {C : World → Prop} {Q : Act → Prop} {d : Nat} {op : Op} {j u : Nat} {b : Bool} (hj : (ops[j]?).bind (·.dst) = some u) (hv : lk sl u = some undef) (hd : Nat.ble (d + 1) N = true)
    (h : WQ P ops C Q N D ((d, undef) :: sl) rest) :
    WQ P ops C Q N D sl ({ dst := some d, op := op, type := t, pos := pos, after := af, guard := some (j, b) } :: rest) := fun a ha => by
  have hy := yield_un (ops := ops) ha hj hv
  unfold wpQuiet
  rw [if_neg (by simp [Region.wanted, hy])]
  exact h _ (ha.put (Nat.le_of_ble_eq_true hd) undef)
end
end B
end Go.Proofs.Ytkfkdenikkadhaa
