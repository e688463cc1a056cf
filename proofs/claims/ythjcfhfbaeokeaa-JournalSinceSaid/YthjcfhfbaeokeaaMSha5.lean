/- Walks of package sha: tags, comparison, hexadecimal texts. -/
import Derived.Test.YthjcfhfbaeokeaaMBaseK
import Derived.Test.YthjcfhfbaeokeaaMSha4
namespace Go.Proofs.Ythjcfhfbaeokeaa
open Go Go.RowKit B
set_option linter.unusedVariables false
set_option linter.unusedSimpArgs false
namespace Sha
open ShaM (rotr Wd D8)


theorem dl_mk (l : List UInt8) : (⟨l.toArray⟩ : ByteArray).data.toList = l := by simp
theorem dl_app (a b : ByteArray) : (a ++ b).data.toList = a.data.toList ++ b.data.toList := by simp
theorem size_mk (l : List UInt8) : (⟨l.toArray⟩ : ByteArray).size = l.length := by simp [ByteArray.size]
theorem padded_len (k : List UInt8) (b : UInt8) : (ShaM.padded k b).length = 64 := by simp [ShaM.padded]
theorem of_len (s : List UInt8) : (ShaM.of s).length = 32 := by unfold ShaM.of; rw [flat_len]; rfl
def mix {α : Type} (f : α → α) (L : List α) (i : Nat) : List α := (L.map f).take i ++ L.drop i
theorem mix_len {α : Type} (f : α → α) (L : List α) (i : Nat) (h : i ≤ L.length) : (mix f L i).length = L.length := by simp [mix]; omega
theorem mix_at {α : Type} (f : α → α) (L : List α) (d : α) (i : Nat) (h : i < L.length) : (mix f L i).getD i d = L.getD i d := by
  have : ((L.map f).take i).length = i := by simp; omega
  rw [List.getD_eq_getElem?_getD, List.getD_eq_getElem?_getD, mix, List.getElem?_append_right (by omega), this, List.getElem?_drop]
  simp
theorem mix_set {α : Type} (f : α → α) (L : List α) (d : α) (i : Nat) (h : i < L.length) : (mix f L i).set i (f (L.getD i d)) = mix f L (i + 1) := by
  have h1 : ((L.map f).take i).length = i := by simp; omega
  unfold mix
  rw [List.set_append_right _ _ (by omega), h1, Nat.sub_self, List.take_succ_eq_append_getElem (by simpa using h), List.drop_eq_getElem_cons h, List.set_cons_zero]
  simp [List.getD_eq_getElem?_getD, List.getElem?_eq_getElem h]
theorem mix_all {α : Type} (f : α → α) (L : List α) : mix f L L.length = L.map f := by simp [mix, List.take_of_length_le]
def key0 (S : List UInt8) : List UInt8 := S.take 64 ++ List.replicate (64 - S.length) 0
theorem key0_len (S : List UInt8) : (key0 S).length = 64 := by simp [key0]; omega
theorem key0_map (S : List UInt8) (b : UInt8) : (key0 S).map (· ^^^ b) = ShaM.padded S b := by
  apply List.ext_getElem?
  intro i
  by_cases hi : i < 64
  · have h1 : i < (key0 S).length := by rw [key0_len]; exact hi
    simp only [ShaM.padded, List.getElem?_map, List.getElem?_range hi, Option.map_some, List.getElem?_eq_getElem h1]
    congr 2
    have : (key0 S)[i]? = some (S.getD i 0) := by
      unfold key0
      by_cases hs : i < S.length
      · rw [List.getElem?_append_left (by simp; omega), List.getElem?_take_of_lt hi, List.getD_eq_getElem?_getD, List.getElem?_eq_getElem hs]; rfl
      · have e1 : S[i]? = none := List.getElem?_eq_none (by omega)
        rw [List.getElem?_append_right (by simp; omega), List.getD_eq_getElem?_getD, e1, List.length_take, Nat.min_eq_right (by omega), List.getElem?_replicate, if_pos (by omega)]; rfl
    rw [List.getElem?_eq_getElem h1] at this
    exact Option.some.inj this
  · rw [List.getElem?_eq_none (by simp [key0_len]; omega), List.getElem?_eq_none (by simp [ShaM.padded]; omega)]
theorem first_str {P : Program} (w : World) (s : ByteArray) (n : Nat) : (Builtin.firstCells 1 n (.string s)).run P w = .ok ((s.data.toList.take n).map V8).toArray w := by
  simp only [Builtin.firstCells, Sem.run, pure]
  congr 1
  apply Array.toList_inj.1
  have : (s.extract 0 n).data.toList = s.data.toList.take n := by simp [ByteArray.data_extract]
  simp [this]
theorem blit_key (S : List UInt8) : blit ((List.replicate 64 (0 : UInt8)).map V8).toArray 0 ((S.take (min S.length 64)).map V8) = ((key0 S).map V8).toArray := by
  apply Array.toList_inj.1
  rw [blit_toList _ _ _ (by simp; omega)]
  have e : S.take (min S.length 64) = S.take 64 := by
    rcases Nat.le_total S.length 64 with h | h
    · rw [Nat.min_eq_left h, List.take_of_length_le (Nat.le_refl _), List.take_of_length_le h]
    · rw [Nat.min_eq_right h]
  rw [e]
  simp only [List.take_zero, List.nil_append, Nat.zero_add, List.length_map, List.length_take, List.map_replicate, List.drop_replicate, key0, List.map_append]
  congr 2
  omega
theorem or_zero (a b : UInt8) : a ||| b = 0 ↔ a = 0 ∧ b = 0 := by
  constructor
  · intro h
    have := congrArg UInt8.toNat h
    simp only [UInt8.toNat_or, UInt8.toNat_zero, Nat.or_eq_zero_iff] at this
    exact ⟨UInt8.toNat_inj.1 this.1, UInt8.toNat_inj.1 this.2⟩
  · rintro ⟨rfl, rfl⟩; rfl
theorem xor_zero (a b : UInt8) : a ^^^ b = 0 ↔ a = b := by
  constructor
  · intro h
    exact UInt8.xor_eq_zero_iff.1 h
  · rintro rfl; simp
theorem digit_lit {n : Nat} (h : n < 16) : ([48, 49, 50, 51, 52, 53, 54, 55, 56, 57, 97, 98, 99, 100, 101, 102] : List UInt8).getD n 0 = ShaM.digit n := by
  have : ∀ n, n < 16 → ([48, 49, 50, 51, 52, 53, 54, 55, 56, 57, 97, 98, 99, 100, 101, 102] : List UInt8).getD n 0 = ShaM.digit n := by decide
  exact this n h
theorem hex_succ {l : List UInt8} {i : Nat} (hi : i < l.length) : ShaM.hex (l.take (i + 1)) = ShaM.hex (l.take i) ++ [ShaM.digit ((l.getD i 0).toNat / 16), ShaM.digit ((l.getD i 0).toNat % 16)] := by
  unfold ShaM.hex
  rw [List.take_succ_eq_append_getElem hi, List.flatMap_append, List.getD_eq_getElem?_getD, List.getElem?_eq_getElem hi]; simp
theorem hex_len (l : List UInt8) : (ShaM.hex l).length = 2 * l.length := by
  unfold ShaM.hex
  induction l with
  | nil => rfl
  | cons a l ih => rw [List.flatMap_cons, List.length_append, ih]; simp; omega
theorem shr4 {P : Program} {sl : Sl} {w : World} {t T T' : TypeId} {x : Operand} {c : UInt8} (hx : evs sl x = some (V8 c)) : Runs P sl (.binOp .shr T x (.const (.int .u64 4)) T') t w (.int .u8 ((c.toNat / 16 : Nat) : Int)) := by
  have := Runs.shr (P := P) (t := t) (w := w) (T := T) (T' := T') hx (y := .const (.int .u64 4)) rfl (by decide)
  have e : ((c.toNat : Int) / 2 ^ min (4 : Int).toNat IntKind.u8.bits) = ((c.toNat / 16 : Nat) : Int) := rfl
  rwa [e] at this
theorem and15 {P : Program} {sl : Sl} {w : World} {t T T' : TypeId} {x : Operand} {c : UInt8} (hx : evs sl x = some (V8 c)) : Runs P sl (.binOp .and T x (.const (.int .u8 15)) T') t w (.int .u8 ((c.toNat % 16 : Nat) : Int)) := by
  have := Runs.and8 (P := P) (t := t) (w := w) (T := T) (T' := T') (b := 15) hx (y := .const (.int .u8 15)) rfl
  have e : ((c &&& 15).toNat) = c.toNat % 16 := by
    rw [UInt8.toNat_and]
    exact Nat.and_two_pow_sub_one_eq_mod c.toNat 4
  simp only [V8, e] at this
  exact this
end Sha
end Go.Proofs.Ythjcfhfbaeokeaa
