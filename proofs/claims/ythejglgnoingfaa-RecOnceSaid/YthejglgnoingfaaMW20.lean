/- Walks of the reference of chapter 02: numbers and lists read, whatever went before. -/
import Derived.Test.YthejglgnoingfaaMW19
namespace Go.Proofs.Ythejglgnoingfaa
open Go Go.RowKit B
set_option linter.unusedVariables false
set_option linter.unusedSimpArgs false
namespace Wir


theorem wn_c {W : World} {F : Snap} {cs : List Res} (w : World) {i rb : Nat} {p : Nat} {l : List UInt8} {e : Int} (h : St W F cs w) (hi : cs[i]? = some [(rb, .cells #[.string (bs l), Vi p, Vi e] 103 (0, 0))]) (hl : l.length ≤ 100000) (hp : p ≤ l.length) : Calls Try.prog 33 #[.pointer (some ⟨rb, 0, none⟩)] w fun r w' => r = .returned (Vi ((rdN l p e).1 : Nat)) ∧ St W F (cs.set i [(rb, .cells #[.string (bs l), Vi ((rdN l p e).2.1 : Nat), Vi (rdN l p e).2.2] 103 (0, 0))]) w'  := by
  by_cases he : e = 0
  · subst he; exact readN_on w h hi hl hp
  · have e1 : rdN l p e = (0, p, e) := by unfold rdN; rw [if_pos he]
    rw [e1]
    refine (readN_off w h hi he).mono fun r w' ⟨h1, h2⟩ => ⟨h1, ?_⟩
    rw [setS hi]; exact h2
theorem wl_c {W : World} {F : Snap} {cs : List Res} (w : World) {i rb : Nat} {p : Nat} {l : List UInt8} {e most : Int} (h : St W F cs w) (hi : cs[i]? = some [(rb, .cells #[.string (bs l), Vi p, Vi e] 103 (0, 0))]) (hl : l.length ≤ 100000) (hp : p ≤ l.length) : Calls Try.prog 34 #[.pointer (some ⟨rb, 0, none⟩), Vi most] w fun r w' => Gives W F (cs.set i [(rb, .cells #[.string (bs l), Vi ((rdL l p e most).2.1 : Nat), Vi (rdL l p e most).2.2] 103 (0, 0))]) Vi (rdL l p e most).1 r w' := by
  by_cases he : e = 0
  · subst he; exact (listL_on w h hi hl hp).mono fun r w' ⟨rr, v, h1, h2, h3⟩ => by rw [h1]; exact Row.gives h2 h3
  · have e1 : rdL l p e most = ([], p, e) := by unfold rdL; rw [if_pos he]
    rw [e1]
    refine (listL_off w h hi he).mono fun r w' ⟨h1, h2⟩ => ?_
    rw [setS hi, h1]
    exact Row.gives (Row.nil 3 Vi) h2.nilRes
theorem ql_c {W : World} {F : Snap} {cs : List Res} (w : World) {i rb : Nat} {p : Nat} {l : List UInt8} {e most : Int} (h : St W F cs w) (hi : cs[i]? = some [(rb, .cells #[.string (bs l), Vi p, Vi e] 82 (0, 0))]) (hl : l.length ≤ 100000) (hp : p ≤ l.length) : Calls Try.prog 38 #[.pointer (some ⟨rb, 0, none⟩), Vi most] w fun r w' => Gives W F (cs.set i [(rb, .cells #[.string (bs l), Vi ((rdL l p e most).2.1 : Nat), Vi (rdL l p e most).2.2] 82 (0, 0))]) Vi (rdL l p e most).1 r w' :=
  (qlist_c w h hi hl hp).mono fun r w' ⟨rr, v, h1, h2, h3⟩ => by rw [h1]; exact Row.gives h2 h3
theorem rdL_len {l : List UInt8} {p : Nat} {e m : Int} (hp : p ≤ l.length) : (rdL l p e m).1.length ≤ l.length := by
  have H : ∀ (n q : Nat) (acc : List Int), acc.length ≤ q → q ≤ l.length → (rdn l n q acc).1.length ≤ l.length := by
    intro n
    induction n with
    | zero => intro q acc h1 h2; show acc.length ≤ _; omega
    | succ n ih =>
      intro q acc h1 h2
      rw [rdn]
      split
      · rename_i h3; exact ih _ _ (by rw [List.length_append]; show acc.length + 1 ≤ _; unfold rnx; omega) (rnx_le h3)
      · exact Nat.zero_le _
  unfold rdL
  split
  · exact Nat.zero_le _
  · split
    · exact Nat.zero_le _
    · rename_i h; exact H _ _ _ (Nat.zero_le _) (rnx_le (cerr_0 (Classical.byContradiction fun hh => h hh)).1)
end Wir
end Go.Proofs.Ythejglgnoingfaa
