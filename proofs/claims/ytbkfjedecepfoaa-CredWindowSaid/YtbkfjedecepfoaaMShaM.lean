/- SHA-256 as plain functions. -/
namespace Go.Proofs.Ytbkfjedecepfoaa.ShaM
set_option linter.unusedVariables false
abbrev Wd := BitVec 32
def rotr (x : Wd) (n : Nat) : Wd := (x >>> n) ||| (x <<< (32 - n))
def K : List Wd := [
  0x428a2f98, 0x71374491, 0xb5c0fbcf, 0xe9b5dba5, 0x3956c25b, 0x59f111f1, 0x923f82a4, 0xab1c5ed5,
  0xd807aa98, 0x12835b01, 0x243185be, 0x550c7dc3, 0x72be5d74, 0x80deb1fe, 0x9bdc06a7, 0xc19bf174,
  0xe49b69c1, 0xefbe4786, 0x0fc19dc6, 0x240ca1cc, 0x2de92c6f, 0x4a7484aa, 0x5cb0a9dc, 0x76f988da,
  0x983e5152, 0xa831c66d, 0xb00327c8, 0xbf597fc7, 0xc6e00bf3, 0xd5a79147, 0x06ca6351, 0x14292967,
  0x27b70a85, 0x2e1b2138, 0x4d2c6dfc, 0x53380d13, 0x650a7354, 0x766a0abb, 0x81c2c92e, 0x92722c85,
  0xa2bfe8a1, 0xa81a664b, 0xc24b8b70, 0xc76c51a3, 0xd192e819, 0xd6990624, 0xf40e3585, 0x106aa070,
  0x19a4c116, 0x1e376c08, 0x2748774c, 0x34b0bcb5, 0x391c0cb3, 0x4ed8aa4a, 0x5b9cca4f, 0x682e6ff3,
  0x748f82ee, 0x78a5636f, 0x84c87814, 0x8cc70208, 0x90befffa, 0xa4506ceb, 0xbef9a3f7, 0xc67178f2]
def by4 (a b c d : UInt8) : Wd := (((BitVec.ofNat 32 a.toNat <<< 24) ||| (BitVec.ofNat 32 b.toNat <<< 16)) ||| (BitVec.ofNat 32 c.toNat <<< 8)) ||| BitVec.ofNat 32 d.toNat
def w0 (b : List UInt8) (i : Nat) : Wd := by4 (b.getD (4 * i) 0) (b.getD (4 * i + 1) 0) (b.getD (4 * i + 2) 0) (b.getD (4 * i + 3) 0)
def firsts (b : List UInt8) (n : Nat) : List Wd := (List.range n).map (w0 b)
def s0 (y : Wd) : Wd := rotr y 7 ^^^ rotr y 18 ^^^ (y >>> 3)
def s1 (z : Wd) : Wd := rotr z 17 ^^^ rotr z 19 ^^^ (z >>> 10)
def ext (w : List Wd) : Wd := w.getD (w.length - 16) 0 + s0 (w.getD (w.length - 15) 0) + w.getD (w.length - 7) 0 + s1 (w.getD (w.length - 2) 0)
def grow : Nat → List Wd → List Wd
  | 0, w => w
  | n + 1, w => grow n w ++ [ext (grow n w)]
def sched (b : List UInt8) : List Wd := grow 48 (firsts b 16)
theorem grow_len : ∀ (n : Nat) (w : List Wd), (grow n w).length = w.length + n
  | 0, w => rfl
  | n + 1, w => by simp [grow, grow_len n]; omega
theorem firsts_len (b : List UInt8) (n : Nat) : (firsts b n).length = n := by simp [firsts]
theorem firsts_succ (b : List UInt8) (n : Nat) : firsts b (n + 1) = firsts b n ++ [w0 b n] := by simp [firsts, List.range_succ]
theorem sched_len (b : List UInt8) : (sched b).length = 64 := by simp [sched, grow_len, firsts_len]
structure D8 where
  a : Wd
  b : Wd
  c : Wd
  d : Wd
  e : Wd
  f : Wd
  g : Wd
  h : Wd
def D8.list (v : D8) : List Wd := [v.a, v.b, v.c, v.d, v.e, v.f, v.g, v.h]
def D8.of (l : List Wd) : D8 := ⟨l.getD 0 0, l.getD 1 0, l.getD 2 0, l.getD 3 0, l.getD 4 0, l.getD 5 0, l.getD 6 0, l.getD 7 0⟩
def first : D8 := ⟨0x6a09e667, 0xbb67ae85, 0x3c6ef372, 0xa54ff53a, 0x510e527f, 0x9b05688c, 0x1f83d9ab, 0x5be0cd19⟩
def tt (k w : Wd) (v : D8) : Wd := v.h + (rotr v.e 6 ^^^ rotr v.e 11 ^^^ rotr v.e 25) + ((v.e &&& v.f) ^^^ (~~~v.e &&& v.g)) + k + w
def uu (v : D8) : Wd := (rotr v.a 2 ^^^ rotr v.a 13 ^^^ rotr v.a 22) + ((v.a &&& v.b) ^^^ (v.a &&& v.c) ^^^ (v.b &&& v.c))
def rnd (k w : Wd) (v : D8) : D8 := ⟨tt k w v + uu v, v.a, v.b, v.c, v.d + tt k w v, v.e, v.f, v.g⟩
def rounds (ws : List Wd) : Nat → D8 → D8
  | 0, v => v
  | n + 1, v => rnd (K.getD n 0) (ws.getD n 0) (rounds ws n v)
/-- the sum, as far as i -/
def part (d v : D8) (i : Nat) : List Wd := (List.zipWith (· + ·) d.list v.list).take i ++ d.list.drop i
def block (d : D8) (b : List UInt8) : D8 := D8.of (part d (rounds (sched b) 64 d) 8)
def blocks : Nat → D8 → List UInt8 → D8
  | 0, d, _ => d
  | n + 1, d, b => blocks n (block d (b.take 64)) (b.drop 64)
def pads (n : Nat) : Nat := (119 - n % 64) % 64
def lenb (n : Nat) (i : Nat) : List UInt8 := (List.range i).map fun j => UInt8.ofNat (8 * n / 2 ^ (56 - 8 * j))
def pad (s : List UInt8) : List UInt8 := s ++ [0x80] ++ List.replicate (pads s.length) 0 ++ lenb s.length 8
def out4 (x : Wd) : List UInt8 := [UInt8.ofNat (x >>> 24).toNat, UInt8.ofNat (x >>> 16).toNat, UInt8.ofNat (x >>> 8).toNat, UInt8.ofNat x.toNat]
def of (s : List UInt8) : List UInt8 := (blocks ((pad s).length / 64) first (pad s)).list.flatMap out4
def padded (key : List UInt8) (by_ : UInt8) : List UInt8 := (List.range 64).map fun i => (key.getD i 0) ^^^ by_
def hmac (key s : List UInt8) : List UInt8 :=
  let key := if key.length > 64 then of key else key
  of (padded key 0x5c ++ of (padded key 0x36 ++ s))
def digit (n : Nat) : UInt8 := UInt8.ofNat (if n < 10 then 48 + n else 87 + n)
def hex (s : List UInt8) : List UInt8 := s.flatMap fun c => [digit (c.toNat / 16), digit (c.toNat % 16)]
theorem part_len (d v : D8) {i : Nat} (hi : i ≤ 8) : (part d v i).length = 8 := by
  simp [part, D8.list]; omega
theorem D8.of_list (v : D8) : D8.of v.list = v := by cases v; rfl
theorem D8.list_of {l : List Wd} (h : l.length = 8) : (D8.of l).list = l := by
  match l, h with
  | [a, b, c, d, e, f, g, h], _ => rfl
theorem part_at (d v : D8) {i : Nat} (hi : i < 8) : (part d v i).getD i 0 = d.list.getD i 0 := by
  have : i = 0 ∨ i = 1 ∨ i = 2 ∨ i = 3 ∨ i = 4 ∨ i = 5 ∨ i = 6 ∨ i = 7 := by omega
  rcases this with rfl | rfl | rfl | rfl | rfl | rfl | rfl | rfl <;> rfl
theorem part_set (d v : D8) {i : Nat} (hi : i < 8) : (part d v i).set i (d.list.getD i 0 + v.list.getD i 0) = part d v (i + 1) := by
  have : i = 0 ∨ i = 1 ∨ i = 2 ∨ i = 3 ∨ i = 4 ∨ i = 5 ∨ i = 6 ∨ i = 7 := by omega
  rcases this with rfl | rfl | rfl | rfl | rfl | rfl | rfl | rfl <;> rfl
end Go.Proofs.Ytbkfjedecepfoaa.ShaM
