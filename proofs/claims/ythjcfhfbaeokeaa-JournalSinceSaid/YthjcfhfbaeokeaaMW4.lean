/- Walks of package wire: readers. -/
import Derived.Test.YthjcfhfbaeokeaaMW3
namespace Go.Proofs.Ythjcfhfbaeokeaa
open Go Go.RowKit B
set_option linter.unusedVariables false
set_option linter.unusedSimpArgs false
namespace Wir


theorem rnx_le {l : List UInt8} {p : Nat} (h : rerr l p = 0) : rnx l p ≤ l.length := by
  unfold rerr at h
  unfold rnx
  split at h
  · cases h
  · split at h
    · cases h
    · split at h
      · cases h
      · omega
theorem cerr_0 {l : List UInt8} {p : Nat} {m : Int} (h : cerr l p m = 0) : rerr l p = 0 ∧ (rval l p : Int) ≤ m := by
  unfold cerr at h
  by_cases h1 : rerr l p = 0
  · rw [if_neg (by rw [h1]; decide)] at h
    split at h
    · cases h
    · exact ⟨h1, by omega⟩
  · rw [if_pos h1] at h; exact absurd h h1
/-- what a reader gives: a value, a place, an error -/
def rdN (l : List UInt8) (p : Nat) (e : Int) : Nat × Nat × Int := if e ≠ 0 then (0, p, e) else if rerr l p = 0 then (rval l p, rnx l p, 0) else (0, p, rerr l p)
def rdT (l : List UInt8) (p : Nat) (e : Int) : List UInt8 × Nat × Int := if e ≠ 0 then ([], p, e) else if cerr l p 4096 ≠ 0 then ([], p, cerr l p 4096) else if l.length < rnx l p + rval l p then ([], rnx l p, 2) else ((l.drop (rnx l p)).take (rval l p), rnx l p + rval l p, 0)
theorem rdN_le {l : List UInt8} {p : Nat} (e : Int) (hp : p ≤ l.length) : (rdN l p e).2.1 ≤ l.length := by
  unfold rdN
  split
  · exact hp
  · split
    · rename_i h; exact rnx_le h
    · exact hp
theorem rdT_le {l : List UInt8} {p : Nat} (e : Int) (hp : p ≤ l.length) : (rdT l p e).2.1 ≤ l.length := by
  unfold rdT
  split
  · exact hp
  · split
    · exact hp
    · rename_i h
      have h := cerr_0 (Classical.byContradiction fun hh => h hh)
      split
      · exact rnx_le h.1
      · simp only; omega
end Wir
end Go.Proofs.Ythjcfhfbaeokeaa
