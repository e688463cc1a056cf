/- What the reference of chapter 01 computes, in plain numbers. -/
import Derived.Test.YtbkfjedecepfoaaMBaseK
import Derived.Test.YtbkfjedecepfoaaMShaM
namespace Go.Proofs.Ytbkfjedecepfoaa.ShaR
open ShaM (rotr Wd D8)
set_option linter.unusedVariables false
theorem rotr0 (x : Wd) : rotr x 0 = x := by
  apply BitVec.eq_of_getLsbD_eq
  intro i hi
  simp [rotr]
theorem rotr_bits (x : Wd) (n i : Nat) (hn : n < 32) (hi : i < 32) : (rotr x n).getLsbD i = if i + n < 32 then x.getLsbD (i + n) else x.getLsbD (i + n - 32) := by
  unfold rotr
  rw [BitVec.getLsbD_or, BitVec.getLsbD_ushiftRight, BitVec.getLsbD_shiftLeft]
  by_cases h : i + n < 32
  · rw [if_pos h]
    simp [hi, show i < 32 - n by omega, Nat.add_comm]
  · rw [if_neg h]
    rw [show x.getLsbD (n + i) = false from BitVec.getLsbD_of_ge _ _ (by omega)]
    simp [hi, show ¬ i < 32 - n by omega, show i - (32 - n) = i + n - 32 by omega]
theorem rotr_step (x : Wd) (n : Nat) (hn : n < 31) : rotr x (n + 1) = rotr (rotr x n) 1 := by
  apply BitVec.eq_of_getLsbD_eq
  intro i hi
  rw [rotr_bits _ _ _ (by omega) hi, rotr_bits _ _ _ (by omega) hi]
  by_cases h : i + 1 < 32
  · rw [if_pos h, rotr_bits _ _ _ (by omega) (by omega)]
    rw [show i + (n + 1) = i + 1 + n by omega]
  · rw [if_neg h, if_neg (by omega), rotr_bits _ _ _ (by omega) (by omega), if_pos (by omega)]
    congr 1; omega
theorem disj_or {a b k : Nat} (h : b < 2 ^ k) : (a * 2 ^ k) ||| b = a * 2 ^ k + b := by
  rw [Nat.mul_comm, ← Nat.two_pow_add_eq_or_of_lt h]
theorem rotr1 (x : Wd) : (rotr x 1).toNat = x.toNat / 2 + x.toNat % 2 * 2147483648 := by
  unfold rotr
  have e2 : (x <<< (32 - 1)).toNat = x.toNat % 2 * 2 ^ 31 := by
    rw [BitVec.toNat_shiftLeft, Nat.shiftLeft_eq]
    show x.toNat * 2147483648 % 4294967296 = x.toNat % 2 * 2147483648
    omega
  have e1 : (x >>> 1).toNat = x.toNat / 2 := by rw [BitVec.toNat_ushiftRight, Nat.shiftRight_eq_div_pow]
  rw [BitVec.toNat_or, e1, e2, Nat.or_comm, disj_or (by have := x.isLt; omega)]
  omega
theorem rot_next (x : Wd) (n : Nat) (hn : n < 31) : ((rotr x n).toNat : Int) / 2 + ((rotr x n).toNat : Int) % 2 * 2147483648 = ((rotr x (n + 1)).toNat : Int) := by
  rw [rotr_step x n hn, rotr1]
  omega
theorem shr_toNat (x : Wd) (n : Nat) : (x >>> n).toNat = x.toNat / 2 ^ n := by rw [BitVec.toNat_ushiftRight, Nat.shiftRight_eq_div_pow]
theorem div_next (a n : Nat) : ((a / 2 ^ n : Nat) : Int) / 2 = ((a / 2 ^ (n + 1) : Nat) : Int) := by
  rw [Nat.pow_succ, ← Nat.div_div_eq_div_mul]; simp
theorem by8 (x : UInt8) (k : Nat) (hk : k ≤ 24) : (BitVec.ofNat 32 x.toNat <<< k).toNat = x.toNat * 2 ^ k := by
  have := x.toNat_lt
  rw [BitVec.toNat_shiftLeft, Nat.shiftLeft_eq, BitVec.toNat_ofNat, Nat.mod_eq_of_lt (a := x.toNat) (by omega)]
  apply Nat.mod_eq_of_lt
  have h1 : 2 ^ k ≤ 2 ^ 24 := Nat.pow_le_pow_right (by decide) hk
  have h2 : x.toNat * 2 ^ k ≤ 255 * 2 ^ 24 := Nat.mul_le_mul (by omega) h1
  omega
theorem by4_sum (a b c d : UInt8) : (a.toNat : Int) * 16777216 + (b.toNat : Int) * 65536 + (c.toNat : Int) * 256 + (d.toNat : Int) = ((ShaM.by4 a b c d).toNat : Int) := by
  have ha := a.toNat_lt; have hb := b.toNat_lt; have hc := c.toNat_lt; have hd := d.toNat_lt
  unfold ShaM.by4
  rw [BitVec.toNat_or, BitVec.toNat_or, BitVec.toNat_or, by8 _ _ (by decide), by8 _ _ (by decide), by8 _ _ (by decide)]
  rw [BitVec.toNat_ofNat, Nat.mod_eq_of_lt (a := d.toNat) (by omega), Nat.or_assoc, Nat.or_assoc]
  rw [disj_or (k := 8) (by omega), disj_or (k := 16) (by omega), disj_or (k := 24) (by omega)]
  omega
theorem add2 (a b : Wd) : ((a.toNat : Int) + b.toNat) % 4294967296 = ((a + b).toNat : Int) := by
  rw [BitVec.toNat_add]; omega
theorem add4 (a b c d : Wd) : ((a.toNat : Int) + b.toNat + c.toNat + d.toNat) % 4294967296 = ((a + b + c + d).toNat : Int) := by
  simp only [BitVec.toNat_add]; omega
theorem addT (a b c d e u v : Wd) : ((a.toNat : Int) + b.toNat + c.toNat + d.toNat + e.toNat + ((u.toNat : Int) + v.toNat)) % 4294967296 = ((a + b + c + d + e + (u + v)).toNat : Int) := by
  simp only [BitVec.toNat_add]; omega
theorem addD (z a b c d e : Wd) : ((z.toNat : Int) + ((a.toNat : Int) + b.toNat + c.toNat + d.toNat + e.toNat)) % 4294967296 = ((z + (a + b + c + d + e)).toNat : Int) := by
  simp only [BitVec.toNat_add]; omega
theorem ext_sum (w0 y w7 z : Wd) : ((w0.toNat : Int) + (ShaM.s0 y).toNat + w7.toNat + (ShaM.s1 z).toNat) % 4294967296 = ((w0 + ShaM.s0 y + w7 + ShaM.s1 z).toNat : Int) := add4 _ _ _ _
theorem len_byte (n i : Nat) : (((n / 2 ^ i : Nat) : Int) % 256) = ((UInt8.ofNat (n / 2 ^ i)).toNat : Int) := by
  rw [UInt8.toNat_ofNat']; omega
theorem ext_at (X : List Wd) (j : Nat) (h : X.length = 16 + j) : ShaM.ext X = X.getD j 0 + ShaM.s0 (X.getD (j + 1) 0) + X.getD (j + 9) 0 + ShaM.s1 (X.getD (j + 14) 0) := by
  unfold ShaM.ext
  rw [h, show 16 + j - 16 = j by omega, show 16 + j - 15 = j + 1 by omega, show 16 + j - 7 = j + 9 by omega, show 16 + j - 2 = j + 14 by omega]
def S1 (x : Wd) : Wd := rotr x 6 ^^^ rotr x 11 ^^^ rotr x 25
def S0 (x : Wd) : Wd := rotr x 2 ^^^ rotr x 13 ^^^ rotr x 22
def ch (e f g : Wd) : Wd := (e &&& f) ^^^ (~~~e &&& g)
def mj (a b c : Wd) : Wd := (a &&& b) ^^^ (a &&& c) ^^^ (b &&& c)
def sum8 (d v : D8) : List Wd := List.zipWith (· + ·) d.list v.list
theorem sum8_at (d v : D8) {i : Nat} (hi : i < 8) : (sum8 d v).getD i 0 = d.list.getD i 0 + v.list.getD i 0 := by
  have : i = 0 ∨ i = 1 ∨ i = 2 ∨ i = 3 ∨ i = 4 ∨ i = 5 ∨ i = 6 ∨ i = 7 := by omega
  rcases this with rfl | rfl | rfl | rfl | rfl | rfl | rfl | rfl <;> rfl
theorem sum8_len (d v : D8) : (sum8 d v).length = 8 := rfl
theorem block_list (d : D8) (b : List UInt8) : (ShaM.block d b).list = sum8 d (ShaM.rounds (ShaM.sched b) 64 d) := ShaM.D8.list_of (l := ShaM.part d (ShaM.rounds (ShaM.sched b) 64 d) 8) (ShaM.part_len _ _ (by omega))
theorem o24 (x : Wd) : ((UInt8.ofNat (x.toNat / 16777216)).toNat : Int) = ((UInt8.ofNat (x >>> 24).toNat).toNat : Int) := by rw [shr_toNat]
theorem o16 (x : Wd) : ((UInt8.ofNat (x.toNat / 65536 % 256)).toNat : Int) = ((UInt8.ofNat (x >>> 16).toNat).toNat : Int) := by
  rw [shr_toNat, UInt8.toNat_ofNat', UInt8.toNat_ofNat', Nat.mod_mod]
theorem o8 (x : Wd) : ((UInt8.ofNat (x.toNat / 256 % 256)).toNat : Int) = ((UInt8.ofNat (x >>> 8).toNat).toNat : Int) := by
  rw [shr_toNat, UInt8.toNat_ofNat', UInt8.toNat_ofNat', Nat.mod_mod]
theorem o0 (x : Wd) : ((UInt8.ofNat (x.toNat % 256)).toNat : Int) = ((UInt8.ofNat x.toNat).toNat : Int) := by
  rw [UInt8.toNat_ofNat', UInt8.toNat_ofNat', Nat.mod_mod]
theorem bl_step (n : Nat) (d : D8) (l : List UInt8) : ShaM.blocks n (ShaM.block d (l.take 64)) (l.drop 64) = ShaM.blocks (n + 1) d l := rfl
theorem word_a (k w : Wd) (V : D8) : ((V.h.toNat : Int) + (S1 V.e).toNat + (ch V.e V.f V.g).toNat + k.toNat + w.toNat + (((S0 V.a).toNat : Int) + (mj V.a V.b V.c).toNat)) % 4294967296 = ((ShaM.tt k w V + ShaM.uu V).toNat : Int) := by
  rw [addT]
  unfold ShaM.tt ShaM.uu S1 ch S0 mj
  rfl
theorem word_d (k w : Wd) (V : D8) : ((V.d.toNat : Int) + ((V.h.toNat : Int) + (S1 V.e).toNat + (ch V.e V.f V.g).toNat + k.toNat + w.toNat)) % 4294967296 = ((V.d + ShaM.tt k w V).toNat : Int) := by
  rw [addD]
  unfold ShaM.tt S1 ch
  rfl
theorem K_len : ShaM.K.length = 64 := rfl
end Go.Proofs.Ytbkfjedecepfoaa.ShaR
