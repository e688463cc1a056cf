/- Walks of package sha: tags, comparison, hexadecimal texts. -/
import Derived.Test.YtbkfjedecepfoaaMBaseK
import Derived.Test.YtbkfjedecepfoaaMSha4
namespace Go.Proofs.Ytbkfjedecepfoaa
open Go Go.RowKit B
set_option linter.unusedVariables false
set_option linter.unusedSimpArgs false
namespace Sha
open ShaM (rotr Wd D8)

theorem inf98 : Inf Try.prog 98 (.agg (List.replicate 64 (.int .u8 0)).toArray) 64 64 := by unfold Inf; kernel_rfl
theorem can59 : B.Can Try.prog 59 := ⟨_, Try.func59, by kernel_rfl, rfl⟩   -- roundhouse/sha.Of
theorem can60 : B.Can Try.prog 60 := ⟨_, Try.func60, by kernel_rfl, rfl⟩   -- roundhouse/sha.padded
theorem dl_mk (l : List UInt8) : (⟨l.toArray⟩ : ByteArray).data.toList = l := by simp
theorem dl_app (a b : ByteArray) : (a ++ b).data.toList = a.data.toList ++ b.data.toList := by simp
theorem size_mk (l : List UInt8) : (⟨l.toArray⟩ : ByteArray).size = l.length := by simp [ByteArray.size]
theorem padded_len (k : List UInt8) (b : UInt8) : (ShaM.padded k b).length = 64 := by simp [ShaM.padded]
theorem of_len (s : List UInt8) : (ShaM.of s).length = 32 := by unfold ShaM.of; rw [flat_len]; rfl
def mix {α : Type} (f : α → α) (L : List α) (i : Nat) : List α := (L.map f).take i ++ L.drop i
theorem mix_len {α : Type} (f : α → α) (L : List α) (i : Nat) (h : i ≤ L.length) : (mix f L i).length = L.length := by simp [mix]; omega
theorem mix_at {α : Type} (f : α → α) (L : List α) (d : α) (i : Nat) (h : i < L.length) : (mix f L i).getD i d = L.getD i d := by
  have : ((L.map f).take i).length = i := by simp; omega
  rw [List.getD_eq_getElem?_getD, List.getD_eq_getElem?_getD, mix, List.getElem?_append_right (by omega), this, List.getElem?_drop]
  simp
theorem mix_set {α : Type} (f : α → α) (L : List α) (d : α) (i : Nat) (h : i < L.length) : (mix f L i).set i (f (L.getD i d)) = mix f L (i + 1) := by
  have h1 : ((L.map f).take i).length = i := by simp; omega
  unfold mix
  rw [List.set_append_right _ _ (by omega), h1, Nat.sub_self, List.take_succ_eq_append_getElem (by simpa using h), List.drop_eq_getElem_cons h, List.set_cons_zero]
  simp [List.getD_eq_getElem?_getD, List.getElem?_eq_getElem h]
theorem mix_all {α : Type} (f : α → α) (L : List α) : mix f L L.length = L.map f := by simp [mix, List.take_of_length_le]
def key0 (S : List UInt8) : List UInt8 := S.take 64 ++ List.replicate (64 - S.length) 0
theorem key0_len (S : List UInt8) : (key0 S).length = 64 := by simp [key0]; omega
theorem key0_map (S : List UInt8) (b : UInt8) : (key0 S).map (· ^^^ b) = ShaM.padded S b := by
  apply List.ext_getElem?
  intro i
  by_cases hi : i < 64
  · have h1 : i < (key0 S).length := by rw [key0_len]; exact hi
    simp only [ShaM.padded, List.getElem?_map, List.getElem?_range hi, Option.map_some, List.getElem?_eq_getElem h1]
    congr 2
    have : (key0 S)[i]? = some (S.getD i 0) := by
      unfold key0
      by_cases hs : i < S.length
      · rw [List.getElem?_append_left (by simp; omega), List.getElem?_take_of_lt hi, List.getD_eq_getElem?_getD, List.getElem?_eq_getElem hs]; rfl
      · have e1 : S[i]? = none := List.getElem?_eq_none (by omega)
        rw [List.getElem?_append_right (by simp; omega), List.getD_eq_getElem?_getD, e1, List.length_take, Nat.min_eq_right (by omega), List.getElem?_replicate, if_pos (by omega)]; rfl
    rw [List.getElem?_eq_getElem h1] at this
    exact Option.some.inj this
  · rw [List.getElem?_eq_none (by simp [key0_len]; omega), List.getElem?_eq_none (by simp [ShaM.padded]; omega)]
theorem first_str {P : Program} (w : World) (s : ByteArray) (n : Nat) : (Builtin.firstCells 1 n (.string s)).run P w = .ok ((s.data.toList.take n).map V8).toArray w := by
  simp only [Builtin.firstCells, Sem.run, pure]
  congr 1
  apply Array.toList_inj.1
  have : (s.extract 0 n).data.toList = s.data.toList.take n := by simp [ByteArray.data_extract]
  simp [this]
theorem blit_key (S : List UInt8) : blit ((List.replicate 64 (0 : UInt8)).map V8).toArray 0 ((S.take (min S.length 64)).map V8) = ((key0 S).map V8).toArray := by
  apply Array.toList_inj.1
  rw [blit_toList _ _ _ (by simp; omega)]
  have e : S.take (min S.length 64) = S.take 64 := by
    rcases Nat.le_total S.length 64 with h | h
    · rw [Nat.min_eq_left h, List.take_of_length_le (Nat.le_refl _), List.take_of_length_le h]
    · rw [Nat.min_eq_right h]
  rw [e]
  simp only [List.take_zero, List.nil_append, Nat.zero_add, List.length_map, List.length_take, List.map_replicate, List.drop_replicate, key0, List.map_append]
  congr 2
  omega
theorem or_zero (a b : UInt8) : a ||| b = 0 ↔ a = 0 ∧ b = 0 := by
  constructor
  · intro h
    have := congrArg UInt8.toNat h
    simp only [UInt8.toNat_or, UInt8.toNat_zero, Nat.or_eq_zero_iff] at this
    exact ⟨UInt8.toNat_inj.1 this.1, UInt8.toNat_inj.1 this.2⟩
  · rintro ⟨rfl, rfl⟩; rfl
theorem xor_zero (a b : UInt8) : a ^^^ b = 0 ↔ a = b := by
  constructor
  · intro h
    exact UInt8.xor_eq_zero_iff.1 h
  · rintro rfl; simp
theorem digit_lit {n : Nat} (h : n < 16) : ([48, 49, 50, 51, 52, 53, 54, 55, 56, 57, 97, 98, 99, 100, 101, 102] : List UInt8).getD n 0 = ShaM.digit n := by
  have : ∀ n, n < 16 → ([48, 49, 50, 51, 52, 53, 54, 55, 56, 57, 97, 98, 99, 100, 101, 102] : List UInt8).getD n 0 = ShaM.digit n := by decide
  exact this n h
theorem hex_succ {l : List UInt8} {i : Nat} (hi : i < l.length) : ShaM.hex (l.take (i + 1)) = ShaM.hex (l.take i) ++ [ShaM.digit ((l.getD i 0).toNat / 16), ShaM.digit ((l.getD i 0).toNat % 16)] := by
  unfold ShaM.hex
  rw [List.take_succ_eq_append_getElem hi, List.flatMap_append, List.getD_eq_getElem?_getD, List.getElem?_eq_getElem hi]; simp
theorem hex_len (l : List UInt8) : (ShaM.hex l).length = 2 * l.length := by
  unfold ShaM.hex
  induction l with
  | nil => rfl
  | cons a l ih => rw [List.flatMap_cons, List.length_append, ih]; simp; omega
theorem shr4 {P : Program} {sl : Sl} {w : World} {t T T' : TypeId} {x : Operand} {c : UInt8} (hx : evs sl x = some (V8 c)) : Runs P sl (.binOp .shr T x (.const (.int .u64 4)) T') t w (.int .u8 ((c.toNat / 16 : Nat) : Int)) := by
  have := Runs.shr (P := P) (t := t) (w := w) (T := T) (T' := T') hx (y := .const (.int .u64 4)) rfl (by decide)
  have e : ((c.toNat : Int) / 2 ^ min (4 : Int).toNat IntKind.u8.bits) = ((c.toNat / 16 : Nat) : Int) := rfl
  rwa [e] at this
theorem and15 {P : Program} {sl : Sl} {w : World} {t T T' : TypeId} {x : Operand} {c : UInt8} (hx : evs sl x = some (V8 c)) : Runs P sl (.binOp .and T x (.const (.int .u8 15)) T') t w (.int .u8 ((c.toNat % 16 : Nat) : Int)) := by
  have := Runs.and8 (P := P) (t := t) (w := w) (T := T) (T' := T') (b := 15) hx (y := .const (.int .u8 15)) rfl
  have e : ((c &&& 15).toNat) = c.toNat % 16 := by
    rw [UInt8.toNat_and]
    exact Nat.and_two_pow_sub_one_eq_mod c.toNat 4
  simp only [V8, e] at this
  exact this
set_option maxRecDepth 100000 in
set_option maxHeartbeats 2000000 in
theorem padded_c {W : World} {F : Snap} {cs : List Res} (w : World) (s : ByteArray) (by_ : UInt8) (h : St W F cs w) : Calls Try.prog 60 #[.string s, V8 by_] w fun e w' => e = .returned (.string ⟨(ShaM.padded s.data.toList by_).toArray⟩) ∧ St W F cs w'  := by
  refine enter (P := Try.prog) (args := [.string s, V8 by_]) Try.func60 rfl rfl rfl ?_
  obtain ⟨S, hS⟩ : ∃ S, S = s.data.toList := ⟨_, rfl⟩
  have hSl : S.length = s.size := by rw [hS]; simp
  rw [← hS]
  refine WC.seq ?_
  refine WC.reg ?_
  refine WL.v (Runs.assign rfl) rfl ?_
  refine WL.nil ?_
  refine WN.thn ?_
  refine WC.seq ?_
  refine WC.reg ?_
  refine WL.alloc' rfl h inf98 ?_
  intro b5 w1 h1
  refine WL.nil ?_
  refine WN.thn ?_
  refine WC.seq ?_
  refine WC.reg ?_
  refine WL.v (Runs.asl Try.underlying98 inf5 rfl (l := none) (h := none) rfl rfl okb_no) rfl ?_
  refine WL.v (Runs.move rfl) rfl ?_
  refine WL.copy (m := s.size) (off := 0) (len := 64) (cap := 64) (src := (S.take (min S.length 64)).map V8) h1 0 rfl rfl Try.underlying74 (inf5.elem rfl rfl) rfl rfl rfl (by rw [hSl]; exact hS ▸ first_str _ s _) (by rw [List.all_eq_true]; intro u hu; obtain ⟨x, _, rfl⟩ := List.mem_map.1 hu; rfl) (Free.zero _) (by simp [Value.cells]; omega) ?_
  intro  w2 h2
  try simp only [List.set_cons_zero, List.set_cons_succ, List.eraseIdx_cons_zero, List.eraseIdx_cons_succ] at h2
  refine WL.nil ?_
  refine WN.thn ?_
  refine WC.seq ?_
  refine WC.seq ?_
  refine WC.reg ?_
  refine WL.v (Runs.move rfl) rfl ?_
  refine WL.nil ?_
  refine WN.thn ?_
  refine WC.block ?_
  refine WC.loop (σ := Nat) (fun q_ => [(1, V8 by_), (5, .pointer (some ⟨b5, 0, none⟩)), (10, .int .i64 (q_ : Int))]) (fun q_ w => q_ ≤ 64 ∧ St W F ([(b5, .cells ((mix (· ^^^ by_) (key0 S) q_).map V8).toArray 98 (0, 0))] :: cs) w) (fun q_ => 64 - q_) (0) (by repeat (first | exact trivial | refine ⟨rfl, ?_⟩)) (⟨by omega, by have e : mix (· ^^^ by_) (key0 S) 0 = key0 S := (by simp [mix]); rw [e, ← blit_key]; exact h2⟩) ?_
  rintro i w3 ⟨hi, hL⟩
  try dsimp only at hi hL
  refine WC.sub (s := [(1, V8 by_), (5, .pointer (some ⟨b5, 0, none⟩)), (10, .int .i64 (i : Int))]) (by repeat (first | exact trivial | refine ⟨rfl, ?_⟩)) ?_
  refine WC.seq ?_
  refine WC.reg ?_
  refine WL.v (Runs.lss rfl rfl) rfl ?_
  refine WL.nil ?_
  refine WN.thn ?_
  refine WC.seq ?_
  refine WC.cond rfl (fun c4 => ?_) (fun c4 => ?_)
  · try simp only [decide_eq_true_eq, decide_eq_false_iff_not, Bool.not_eq_true', Bool.not_eq_false', Bool.and_eq_true, Int.not_lt, Int.not_le] at c4
    first
    | (exfalso; omega)
    | skip
      refine WC.skip ?_
      refine WN.thn ?_
      refine WC.seq ?_
      refine WC.block ?_
      refine WC.seq ?_
      refine WC.reg ?_
      refine WL.v (Runs.move rfl) rfl ?_
      refine WL.v (Runs.assign rfl) rfl ?_
      refine WL.nil ?_
      refine WN.thn ?_
      refine WC.reg ?_
      refine WL.v (Runs.move rfl) rfl ?_
      refine WL.v (Runs.aidxN Try.underlying98 inf5 rfl rfl (n := i) (by omega) (by omega)) rfl ?_
      refine WL.v (Runs.loadArr (0 : UInt8) hL 0 rfl (n := i) (by rw [mix_len _ _ _ (by rw [key0_len]; omega), key0_len]; omega) Try.underlying5 rfl rfl) rfl ?_
      refine WL.v (Runs.move rfl) rfl ?_
      refine WL.v (Runs.xor8 rfl rfl) rfl ?_
      refine WL.v (Runs.aidxN Try.underlying98 inf5 rfl rfl (n := i) (by omega) (by omega)) rfl ?_
      refine WL.storeArr hL 0 rfl rfl rfl inf5 rfl rfl (Free.zero _) (by rw [mix_len _ _ _ (by rw [key0_len]; omega), key0_len]; omega) ?_
      intro  w5 h5
      try simp only [List.set_cons_zero, List.set_cons_succ, List.eraseIdx_cons_zero, List.eraseIdx_cons_succ] at h5
      refine WL.nil ?_
      refine WN.blk ?_
      refine WN.thn ?_
      refine WC.reg ?_
      refine WL.v (Runs.addn rfl rfl (by omega)) rfl ?_
      refine WL.v (Runs.move rfl) rfl ?_
      refine WL.nil ?_
      refine WN.again (i + 1) (by omega) ⟨rfl, rfl, rfl, trivial⟩ ⟨by omega, ?_⟩
      rw [← mix_set (· ^^^ by_) (key0 S) 0 i (by rw [key0_len]; omega), ← mix_at (· ^^^ by_) (key0 S) 0 i (by rw [key0_len]; omega)]
      exact h5
  · try simp only [decide_eq_true_eq, decide_eq_false_iff_not, Bool.not_eq_true', Bool.not_eq_false', Bool.and_eq_true, Int.not_lt, Int.not_le] at c4
    first
    | (exfalso; omega)
    | skip
      refine WC.exit ?_
      refine WX.thn ?_
      refine WX.cut ?_
      refine WX.hit ?_
      refine WN.thn ?_
      refine WC.seq ?_
      refine WC.reg ?_
      obtain rfl : i = 64 := by omega
      have hm : mix (· ^^^ by_) (key0 S) 64 = ShaM.padded S by_ := by rw [← key0_map, ← mix_all, key0_len]
      rw [hm] at hL
      refine WL.v (Runs.asl Try.underlying98 inf5 rfl (l := none) (h := none) rfl rfl okb_no) rfl ?_
      refine WL.v (Runs.b2s (bs := ShaM.padded S by_) Try.underlying74 Try.underlying5 Try.underlying9 rfl (by rw [padded_len]; rfl) (.inr ⟨_, rfl, fun j b hb => by rw [add_mk]; exact hL.ocell (i := 0) rfl (by simp [lo_, hb])⟩)) rfl ?_
      refine WL.v (Runs.assign rfl) rfl ?_
      refine WL.nil ?_
      refine WN.thn ?_
      refine WC.ret ?_
      exact ret1 rfl rfl ⟨rfl, hL.drop 0⟩
set_option maxRecDepth 100000 in
set_option maxHeartbeats 1000000 in
theorem hmac_c {W : World} {F : Snap} {cs : List Res} (w : World) (key s : ByteArray) (h : St W F cs w) (hk : key.size ≤ 900000) (hs : s.size ≤ 900000) : Calls Try.prog 41 #[.string key, .string s] w fun e w' => e = .returned (.string ⟨(ShaM.hmac key.data.toList s.data.toList).toArray⟩) ∧ St W F cs w'  := by
  refine enter (P := Try.prog) (args := [.string key, .string s]) Try.func41 rfl rfl rfl ?_
  refine WC.seq ?_
  refine WC.reg ?_
  refine WL.v (Runs.assign rfl) rfl ?_
  refine WL.nil ?_
  refine WN.thn ?_
  refine WC.seq ?_
  refine WC.seq ?_
  refine WC.reg ?_
  refine WL.v (Runs.move rfl) rfl ?_
  refine WL.v (Runs.slen Try.underlying9 rfl rfl) rfl ?_
  refine WL.v (Runs.gtr rfl rfl) rfl ?_
  refine WL.nil ?_
  refine WN.thn ?_
  refine WC.cond rfl (fun c1 => ?_) (fun c1 => ?_)
  · try simp only [decide_eq_true_eq, decide_eq_false_iff_not, Bool.not_eq_true', Bool.not_eq_false', Bool.and_eq_true, Int.not_lt, Int.not_le] at c1
    first
    | (exfalso; omega)
    | skip
      refine WC.reg ?_
      refine WL.v (Runs.move rfl) rfl ?_
      refine WL.call can59 rfl rfl (of_c _ _ h (by first | omega | (simp [ByteArray.size_append, padded_len, of_len, size_mk]; done) | (simp [ByteArray.size_append, padded_len, of_len, size_mk]; omega))) ?_
      rintro _ w2 ⟨rfl, h2⟩
      refine ⟨_, rfl, ?_⟩
      refine WL.v (Runs.assign rfl) rfl ?_
      refine WL.nil ?_
      refine WN.thn ?_
      refine WC.seq ?_
      refine WC.reg ?_
      refine WL.v (Runs.move rfl) rfl ?_
      refine WL.call can60 rfl rfl (padded_c _ _ 92 h2) ?_
      rintro _ w3 ⟨rfl, h3⟩
      refine ⟨_, rfl, ?_⟩
      refine WL.v (Runs.move rfl) rfl ?_
      refine WL.call can60 rfl rfl (padded_c _ _ 54 h3) ?_
      rintro _ w4 ⟨rfl, h4⟩
      refine ⟨_, rfl, ?_⟩
      refine WL.v (Runs.move rfl) rfl ?_
      refine WL.v (Runs.sadd rfl rfl (by simp [padded_len, size_mk]; omega)) rfl ?_
      refine WL.call can59 rfl rfl (of_c _ _ h4 (by first | omega | (simp [ByteArray.size_append, padded_len, of_len, size_mk]; done) | (simp [ByteArray.size_append, padded_len, of_len, size_mk]; omega))) ?_
      rintro _ w5 ⟨rfl, h5⟩
      refine ⟨_, rfl, ?_⟩
      refine WL.v (Runs.sadd rfl rfl (by simp [padded_len, of_len, size_mk])) rfl ?_
      refine WL.call can59 rfl rfl (of_c _ _ h5 (by first | omega | (simp [ByteArray.size_append, padded_len, of_len, size_mk]; done) | (simp [ByteArray.size_append, padded_len, of_len, size_mk]; omega))) ?_
      rintro _ w6 ⟨rfl, h6⟩
      refine ⟨_, rfl, ?_⟩
      refine WL.v (Runs.assign rfl) rfl ?_
      refine WL.nil ?_
      refine WN.thn ?_
      refine WC.ret ?_
      refine ret1 rfl rfl ⟨?_, h6⟩
      have hkl : key.data.toList.length = key.size := by simp
      simp only [dl_mk, dl_app, ShaM.hmac, hkl]
      first
      | rw [if_pos (by omega)]
      | rw [if_neg (by omega)]
  · try simp only [decide_eq_true_eq, decide_eq_false_iff_not, Bool.not_eq_true', Bool.not_eq_false', Bool.and_eq_true, Int.not_lt, Int.not_le] at c1
    first
    | (exfalso; omega)
    | skip
      refine WC.skip ?_
      refine WN.thn ?_
      refine WC.seq ?_
      refine WC.reg ?_
      refine WL.v (Runs.move rfl) rfl ?_
      refine WL.call can60 rfl rfl (padded_c _ _ 92 h) ?_
      rintro _ w7 ⟨rfl, h7⟩
      refine ⟨_, rfl, ?_⟩
      refine WL.v (Runs.move rfl) rfl ?_
      refine WL.call can60 rfl rfl (padded_c _ _ 54 h7) ?_
      rintro _ w8 ⟨rfl, h8⟩
      refine ⟨_, rfl, ?_⟩
      refine WL.v (Runs.move rfl) rfl ?_
      refine WL.v (Runs.sadd rfl rfl (by simp [padded_len, size_mk]; omega)) rfl ?_
      refine WL.call can59 rfl rfl (of_c _ _ h8 (by first | omega | (simp [ByteArray.size_append, padded_len, of_len, size_mk]; done) | (simp [ByteArray.size_append, padded_len, of_len, size_mk]; omega))) ?_
      rintro _ w9 ⟨rfl, h9⟩
      refine ⟨_, rfl, ?_⟩
      refine WL.v (Runs.sadd rfl rfl (by simp [padded_len, of_len, size_mk])) rfl ?_
      refine WL.call can59 rfl rfl (of_c _ _ h9 (by first | omega | (simp [ByteArray.size_append, padded_len, of_len, size_mk]; done) | (simp [ByteArray.size_append, padded_len, of_len, size_mk]; omega))) ?_
      rintro _ w10 ⟨rfl, h10⟩
      refine ⟨_, rfl, ?_⟩
      refine WL.v (Runs.assign rfl) rfl ?_
      refine WL.nil ?_
      refine WN.thn ?_
      refine WC.ret ?_
      refine ret1 rfl rfl ⟨?_, h10⟩
      have hkl : key.data.toList.length = key.size := by simp
      simp only [dl_mk, dl_app, ShaM.hmac, hkl]
      first
      | rw [if_pos (by omega)]
      | rw [if_neg (by omega)]
set_option maxRecDepth 100000 in
set_option maxHeartbeats 1000000 in
theorem same_c {W : World} {F : Snap} {cs : List Res} (w : World) (a b : ByteArray) (h : St W F cs w) (ha : a.size ≤ 9223372036854775807) : Calls Try.prog 40 #[.string a, .string b] w fun e w' => e = .returned (.bool (decide (a = b))) ∧ St W F cs w'  := by
  refine enter (P := Try.prog) (args := [.string a, .string b]) Try.func40 rfl rfl rfl ?_
  refine WC.seq ?_
  refine WC.reg ?_
  refine WL.v (Runs.assign rfl) rfl ?_
  refine WL.nil ?_
  refine WN.thn ?_
  refine WC.seq ?_
  refine WC.seq ?_
  refine WC.reg ?_
  refine WL.v (Runs.move rfl) rfl ?_
  refine WL.v (Runs.slen Try.underlying9 rfl rfl) rfl ?_
  refine WL.v (Runs.move rfl) rfl ?_
  refine WL.v (Runs.slen Try.underlying9 rfl rfl) rfl ?_
  refine WL.v (Runs.neq rfl rfl) rfl ?_
  refine WL.nil ?_
  refine WN.thn ?_
  refine WC.cond rfl (fun c1 => ?_) (fun c1 => ?_)
  · try simp only [decide_eq_true_eq, decide_eq_false_iff_not, Bool.not_eq_true', Bool.not_eq_false', Bool.and_eq_true, Int.not_lt, Int.not_le] at c1
    first
    | (exfalso; omega)
    | skip
      refine WC.seq ?_
      refine WC.reg ?_
      refine WL.v (Runs.assign rfl) rfl ?_
      refine WL.nil ?_
      refine WN.thn ?_
      refine WC.ret ?_
      refine ret1 rfl rfl ⟨?_, h⟩
      have hne : a ≠ b := fun e => by subst e; omega
      simp [hne]
  · try simp only [decide_eq_true_eq, decide_eq_false_iff_not, Bool.not_eq_true', Bool.not_eq_false', Bool.and_eq_true, Int.not_lt, Int.not_le] at c1
    first
    | (exfalso; omega)
    | skip
      refine WC.skip ?_
      refine WN.thn ?_
      refine WC.seq ?_
      refine WC.reg ?_
      refine WL.v (Runs.assign rfl) rfl ?_
      refine WL.nil ?_
      refine WN.thn ?_
      refine WC.seq ?_
      refine WC.seq ?_
      refine WC.reg ?_
      refine WL.v (Runs.move rfl) rfl ?_
      refine WL.v (Runs.slen Try.underlying9 rfl rfl) rfl ?_
      refine WL.v (Runs.move rfl) rfl ?_
      refine WL.nil ?_
      refine WN.thn ?_
      refine WC.block ?_
      refine WC.loop (σ := Nat × UInt8) (fun q_ => [(0, .string a), (1, .string b), (5, V8 q_.2), (13, .int .i64 (a.size : Int)), (14, .int .i64 (q_.1 : Int))]) (fun q_ w => q_.1 ≤ a.size ∧ (q_.2 = 0 ↔ a.data.toList.take q_.1 = b.data.toList.take q_.1) ∧ St W F cs w) (fun q_ => a.size - q_.1) (⟨0, 0⟩) (by repeat (first | exact trivial | refine ⟨rfl, ?_⟩)) (⟨by omega, by simp, h⟩) ?_
      rintro ⟨i, o⟩ w2 ⟨hi, ho, hL⟩
      try dsimp only at hi ho hL
      refine WC.sub (s := [(0, .string a), (1, .string b), (5, V8 o), (13, .int .i64 (a.size : Int)), (14, .int .i64 (i : Int))]) (by repeat (first | exact trivial | refine ⟨rfl, ?_⟩)) ?_
      refine WC.seq ?_
      refine WC.reg ?_
      refine WL.v (Runs.lss rfl rfl) rfl ?_
      refine WL.nil ?_
      refine WN.thn ?_
      refine WC.seq ?_
      refine WC.cond rfl (fun c3 => ?_) (fun c3 => ?_)
      · try simp only [decide_eq_true_eq, decide_eq_false_iff_not, Bool.not_eq_true', Bool.not_eq_false', Bool.and_eq_true, Int.not_lt, Int.not_le] at c3
        first
        | (exfalso; omega)
        | skip
          refine WC.skip ?_
          refine WN.thn ?_
          refine WC.seq ?_
          refine WC.block ?_
          refine WC.seq ?_
          refine WC.reg ?_
          refine WL.v (Runs.move rfl) rfl ?_
          refine WL.v (Runs.assign rfl) rfl ?_
          refine WL.nil ?_
          refine WN.thn ?_
          refine WC.qreg (C := fun w_ => St W F _ w_) mixed (by kernel_rfl) (hL.drew) ?_
          refine WQ.val (fun w_ hC_ => Runs.move rfl) rfl ?_
          refine WQ.val (fun w_ hC_ => Runs.move rfl) rfl ?_
          refine WQ.val (fun w_ hC_ => Runs.move rfl) rfl ?_
          refine WQ.val (fun w_ hC_ => Runs.sidx8 Try.underlying9 rfl rfl (n := i) rfl (by omega)) rfl ?_
          refine WQ.val (fun w_ hC_ => Runs.move rfl) rfl ?_
          refine WQ.val (fun w_ hC_ => Runs.move rfl) rfl ?_
          refine WQ.val (fun w_ hC_ => Runs.sidx8 Try.underlying9 rfl rfl (n := i) rfl (by omega)) rfl ?_
          refine WQ.val (fun w_ hC_ => Runs.xor8 rfl rfl) rfl ?_
          refine WQ.val (fun w_ hC_ => Runs.or8 rfl rfl) rfl ?_
          refine WQ.val (fun w_ hC_ => Runs.assign rfl) rfl ?_
          refine WQ.fin ?_
          intro w4 h4
          refine WN.blk ?_
          refine WN.thn ?_
          refine WC.reg ?_
          refine WL.v (Runs.addn rfl rfl (by omega)) rfl ?_
          refine WL.v (Runs.move rfl) rfl ?_
          refine WL.nil ?_
          refine WN.again (⟨i + 1, _⟩ : Nat × UInt8) (by show a.size - (i + 1) < a.size - i; omega) ⟨rfl, rfl, rfl, rfl, rfl, trivial⟩ ⟨by show i + 1 ≤ _; omega, ?_, h4⟩
          have h1 : i < a.data.toList.length := by simp; omega
          have h2 : i < b.data.toList.length := by simp; omega
          show _ ↔ a.data.toList.take (i + 1) = b.data.toList.take (i + 1)
          rw [or_zero, xor_zero, ho, List.take_succ_eq_append_getElem h1, List.take_succ_eq_append_getElem h2, List.getD_eq_getElem?_getD, List.getD_eq_getElem?_getD, List.getElem?_eq_getElem h1, List.getElem?_eq_getElem h2]
          simp only [Option.getD_some]
          constructor
          · rintro ⟨e1, e2⟩; rw [e1, e2]
          · intro e
            have := List.append_inj e (by simp; omega)
            exact ⟨this.1, by simpa using this.2⟩
      · try simp only [decide_eq_true_eq, decide_eq_false_iff_not, Bool.not_eq_true', Bool.not_eq_false', Bool.and_eq_true, Int.not_lt, Int.not_le] at c3
        first
        | (exfalso; omega)
        | skip
          refine WC.exit ?_
          refine WX.thn ?_
          refine WX.cut ?_
          refine WX.hit ?_
          refine WN.thn ?_
          refine WC.seq ?_
          refine WC.reg ?_
          refine WL.v (Runs.move rfl) rfl ?_
          refine WL.v (Runs.eql rfl rfl) rfl ?_
          refine WL.v (Runs.assign rfl) rfl ?_
          refine WL.nil ?_
          refine WN.thn ?_
          refine WC.ret ?_
          obtain rfl : i = a.size := by omega
          refine ret1 rfl rfl ⟨?_, hL⟩
          have hsz : a.size = b.size := by omega
          have e : ((o.toNat : Int) = 0) ↔ a = b := by
            rw [show ((o.toNat : Int) = 0) ↔ o = 0 from ⟨fun h => UInt8.toNat_inj.1 (by simpa using h), fun h => by rw [h]; rfl⟩, ho]
            rw [List.take_of_length_le (by simp), List.take_of_length_le (by simp; omega)]
            exact ⟨string_ext, fun h => by rw [h]⟩
          simp only [e]
end Sha
end Go.Proofs.Ytbkfjedecepfoaa
