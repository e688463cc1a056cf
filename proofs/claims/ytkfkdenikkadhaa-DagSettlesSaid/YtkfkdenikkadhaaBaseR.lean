/- Slices whose elements have several cells. Plain lemmas. -/
import Derived.Test.YtkfkdenikkadhaaBaseQ
namespace Go.Proofs.Ytkfkdenikkadhaa
open Go Go.RowKit
set_option linter.unusedVariables false
set_option linter.unusedSimpArgs false
namespace B
def Kd.rows {α : Type} (m : Nat) (f : α → List Value) (h : ∀ x, (f x).length = m) : Kd α := ⟨m, fun _ x c => c = f x, fun h' => by rw [h']; exact h _, fun _ h => h⟩
section
variable {P : Program} {sl : Sl} {W w : World} {F : Snap} {cs : List Res} {t T : TypeId} {x : Operand} {zv : Value} {bytes : Nat}
theorem Runs.loadRows {α : Type} {m n : Nat} {f : α → List Value} {hf : ∀ x, (f x).length = m} {A : Option Addr} {ad : Addr} {xs : List α} {d : TypeDesc} (d0 : α) (h : St W F cs w) (hR : RdS (Kd.rows m f hf) F A xs) (hA : A = some ad) (hn : n < xs.length) (hu : P.underlying T = some d) (hs : scal d = false) (hT : Inf P T zv m bytes)
    (hx : evs sl x = some (.pointer (some (ad.add (n * m))))) : Runs P sl (.load T x) t w (.agg (f (xs.getD n d0)).toArray) := by
  obtain ⟨ti, h1, _, h3, _⟩ := hT.get
  obtain ⟨ad', c, hA', hc, hr⟩ := hR.at_ (i := n) (x := xs.getD n d0) (by rw [List.getD_eq_getElem?_getD, List.getElem?_eq_getElem hn]; rfl)
  rw [hA] at hA'
  injection hA' with hA'
  subst hA'
  have hc' : c = f (xs.getD n d0) := hc
  subst hc'
  refine Runs.loadA hu hs h1 (by rw [h3, hf]) hx (fun j v hj => ?_)
  rw [add_add]
  exact h.cell (hr j v hj)
theorem rdA {α : Type} {d : Kd α} {A : Option Addr} {xs : List α} (h : RdS d F A xs) (h0 : 0 < xs.length) : ∃ ad, A = some ad := by
  rcases h with h | ⟨ad, hA, _⟩
  · rw [h] at h0; simp at h0
  · exact ⟨ad, hA⟩
end
end B
end Go.Proofs.Ytkfkdenikkadhaa
