/- Rows that are made. Plain lemmas. -/
import Derived.Test.YtkfkdenikkadhaaBaseS
import Derived.Laws.MakeOwn
namespace Go.Proofs.Ytkfkdenikkadhaa
open Go Go.RowKit
set_option linter.unusedVariables false
set_option linter.unusedSimpArgs false
namespace B
section
variable {P : Program} {Z : Post} {ks : List Fr} {N : Nat} {D : List Deferred} {sl : Sl} {W w : World} {ops : Array Oper} {rest : List Oper} {F : Snap} {cs : List Res} {t T E : TypeId} {x y : Operand} {zv : Value} {pos : String} {af : Array Edge} {sz bytes : Nat} {kl kc : IntKind}
theorem WL.makeSlice {d l c : Nat} (hd : Nat.ble (d + 1) N = true) (h : St W F cs w) (hT : P.underlying T = some (.slice E)) (hE : Inf P E zv sz bytes) (hx : evs sl x = some (.int kl (l : Int))) (hy : evs sl y = some (.int kc (c : Int))) (hlc : l ≤ c)
    (hc : c * sz ≤ 16777216) (hb : bytes * c ≤ 281474976710656) (h63 : c ≤ 9223372036854775807)
    (k : ∀ b w', St W F ([(b, .cells (madeCells zv.cells (c * sz)) E (0, 0))] :: cs) w' → WL P ops Z ks N D ((d, .slice (some ⟨b, 0, none⟩) l c) :: sl) rest w') :
    WL P ops Z ks N D sl ({ dst := some d, op := .makeSlice T x y, type := t, pos := pos, after := af, guard := none } :: rest) w := by
  obtain ⟨ti, h1, h2, h3, h4⟩ := hE.get
  refine WL.val_ (w' := w.alloc (.cells (madeCells zv.cells (c * sz)) E)) hd (fun ρ hρ o ho _ => ?_) (k _ _ (h.alloc _))
  have hb' : (ti.bytes : Int) * (c : Int) ≤ 281474976710656 := by
    rw [h4, ← Int.natCast_mul]
    omega
  have hr := run_makeSlice (P := P) w T E ti zv hT h1 h2 kl kc l c (by omega) (by omega) (by rw [h3]; simpa using hc) hb' (by omega)
  simp only [Int.toNat_natCast, h3] at hr
  simp only [execOp, ho, hρ _ _ hx, hρ _ _ hy]
  rw [Sem.run_bind, hr]
  rfl
theorem made1 {zv : Value} (h1 : one_ zv = true) (c : Nat) : madeCells zv.cells (c * 1) = (List.replicate c zv).toArray := by
  rw [one_cells h1, Nat.mul_one]
  apply Array.ext
  · simp [madeCells]
  · intro i hi hj
    simp [madeCells]
    have : i % 1 = 0 := Nat.mod_one i
    simp [this]
/-- .. of one-cell values -/
theorem WL.make1 {d l c : Nat} (hd : Nat.ble (d + 1) N = true) (h : St W F cs w) (hT : P.underlying T = some (.slice E)) (hE : Inf P E zv 1 bytes) (h1 : one_ zv = true) (hx : evs sl x = some (.int kl (l : Int))) (hy : evs sl y = some (.int kc (c : Int))) (hlc : l ≤ c)
    (hc : c ≤ 16777216) (hb : bytes * c ≤ 281474976710656)
    (k : ∀ b w', St W F ([(b, .cells (List.replicate c zv).toArray E (0, 0))] :: cs) w' → WL P ops Z ks N D ((d, .slice (some ⟨b, 0, none⟩) l c) :: sl) rest w') :
    WL P ops Z ks N D sl ({ dst := some d, op := .makeSlice T x y, type := t, pos := pos, after := af, guard := none } :: rest) w :=
  WL.makeSlice hd h hT hE hx hy hlc (by omega) hb (by omega) (by rw [made1 h1]; exact k)
end
end B
end Go.Proofs.Ytkfkdenikkadhaa
