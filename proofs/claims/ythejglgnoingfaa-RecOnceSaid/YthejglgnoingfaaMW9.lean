/- Walks of package wire: numbers read. -/
import Derived.Test.YthejglgnoingfaaMW8
namespace Go.Proofs.Ythejglgnoingfaa
open Go Go.RowKit B
set_option linter.unusedVariables false
set_option linter.unusedSimpArgs false
namespace Wir


theorem rdN_bnd (l : List UInt8) (p : Nat) (e : Int) : (rdN l p e).1 ≤ 1099511627776 := by
  unfold rdN
  split
  · simp
  · split
    · rename_i h
      show rval l p ≤ _
      unfold rerr at h
      unfold rval
      split at h
      · cases h
      · split at h
        · cases h
        · split at h
          · cases h
          · split at h
            · cases h
            · rename_i h4
              omega
    · simp
theorem readN_c {W : World} {F : Snap} {cs : List Res} (w : World) {rb p : Nat} {e : Int} {l : List UInt8} (h : St W F ([(rb, .cells #[.string (bs l), Vi (p), Vi (e)] 103 (0, 0))] :: cs) w) (hl : l.length ≤ 100000) (hp : p ≤ l.length) : Calls Try.prog 33 #[.pointer (some ⟨rb, 0, none⟩)] w fun r w' => r = .returned (Vi ((rdN l p e).1 : Nat)) ∧ St W F ([(rb, .cells #[.string (bs l), Vi (((rdN l p e).2.1 : Nat)), Vi ((rdN l p e).2.2)] 103 (0, 0))] :: cs) w' := by
  by_cases he : e = 0
  · subst he
    exact readN_on w h (i := 0) rfl hl hp
  · have e1 : rdN l p e = (0, p, e) := by unfold rdN; rw [if_pos he]
    rw [e1]
    exact readN_off w h (i := 0) rfl he
end Wir
end Go.Proofs.Ythejglgnoingfaa
