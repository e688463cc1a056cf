/- Walks of package sha: the digest of a text. -/
import Derived.Test.YtbkfjedecepfoaaMBaseK
import Derived.Test.YtbkfjedecepfoaaMSha3
namespace Go.Proofs.Ytbkfjedecepfoaa
open Go Go.RowKit B
set_option linter.unusedVariables false
set_option linter.unusedSimpArgs false
namespace Sha
open ShaM (rotr Wd D8)

theorem can68 : B.Can Try.prog 68 := ⟨_, Try.func68, by kernel_rfl, rfl⟩   -- roundhouse/sha.first
theorem can69 : B.Can Try.prog 69 := ⟨_, Try.func69, by kernel_rfl, rfl⟩   -- (*roundhouse/sha.digest).block
theorem lenb_succ (n i : Nat) : ShaM.lenb n (i + 1) = ShaM.lenb n i ++ [UInt8.ofNat (8 * n / 2 ^ (56 - 8 * i))] := by simp [ShaM.lenb, List.range_succ]
theorem lenb_len (n i : Nat) : (ShaM.lenb n i).length = i := by simp [ShaM.lenb]
theorem pad_len (S : List UInt8) : (ShaM.pad S).length = S.length + 1 + ShaM.pads S.length + 8 := by simp [ShaM.pad, lenb_len]; omega
theorem take_flat {l : List Wd} {i : Nat} (hi : i < l.length) : (l.take (i + 1)).flatMap ShaM.out4 = (l.take i).flatMap ShaM.out4 ++ ShaM.out4 (l.getD i 0) := by
  rw [List.take_succ_eq_append_getElem hi, List.flatMap_append, List.getD_eq_getElem?_getD, List.getElem?_eq_getElem hi]; simp
theorem flat_len (l : List Wd) : (l.flatMap ShaM.out4).length = 4 * l.length := by
  induction l with
  | nil => rfl
  | cons a l ih => rw [List.flatMap_cons, List.length_append, ih]; simp [ShaM.out4]; omega
theorem list_len (d : D8) : d.list.length = 8 := rfl
set_option maxRecDepth 100000 in
set_option maxHeartbeats 4000000 in
theorem of_c {W : World} {F : Snap} {cs : List Res} (w : World) (s : ByteArray) (h : St W F cs w) (hs : s.size ≤ 1000000) : Calls Try.prog 59 #[.string s] w fun e w' => e = .returned (.string ⟨(ShaM.of s.data.toList).toArray⟩) ∧ St W F cs w'  := by
  refine enter (P := Try.prog) (args := [.string s]) Try.func59 rfl rfl rfl ?_
  obtain ⟨S, hS⟩ : ∃ S, S = s.data.toList := ⟨_, rfl⟩
  have hSl : S.length = s.size := by rw [hS]; simp
  have hp : ShaM.pads S.length = (119 - S.length % 64) % 64 := rfl
  rw [← hS]
  refine WC.seq ?_
  refine WC.reg ?_
  refine WL.v (Runs.assign rfl) rfl ?_
  refine WL.nil ?_
  refine WN.thn ?_
  refine WC.seq ?_
  refine WC.reg ?_
  refine WL.v (Runs.move rfl) rfl ?_
  refine WL.s2b h rfl Try.underlying9 Try.underlying74 Try.underlying5 rfl ?_
  intro r0 v0 w1 hr0 h1
  try simp only [List.set_cons_zero, List.set_cons_succ, List.eraseIdx_cons_zero, List.eraseIdx_cons_succ] at h1
  have hrb : Row 5 V8 r0 v0 S := by unfold Row; rw [hSl, hS]; exact hr0
  refine WL.lit (vs := (([0x80] : List UInt8)).map V8) h1 rfl Try.underlying74 inf5 rfl rfl rfl rfl rfl ?_
  intro lit11 w2 h2
  refine WL.app (ys := ([0x80] : List UInt8)) 1 h2 rfl rfl rfl rfl Try.underlying74 Try.underlying74 (.inr ⟨_, rfl⟩) inf5 rfl hrb (Src.lit h2 0 rfl rfl rfl) rfl rfl (by first | omega | (simp [lenb_len, flat_len, list_len, ShaM.out4]; done) | (simp [lenb_len, flat_len, list_len, ShaM.out4]; omega)) (by first | omega | (simp [lenb_len, flat_len, list_len, ShaM.out4]; done) | (simp [lenb_len, flat_len, list_len, ShaM.out4]; omega)) ?_
  intro r3 v3 w4 hr3 h4
  simp only [List.set_cons_zero, List.set_cons_succ] at h4
  replace h4 := h4.drop 0
  simp only [List.eraseIdx_cons_zero, List.eraseIdx_cons_succ] at h4
  refine WL.v (Runs.assign rfl) rfl ?_
  refine WL.nil ?_
  refine WN.thn ?_
  refine WC.seq ?_
  refine WC.block ?_
  refine WC.loop (σ := Nat × Res × Value) (fun q_ => [(0, .string s), (3, q_.2.2)]) (fun q_ w => q_.1 ≤ ShaM.pads S.length ∧ Row 5 V8 q_.2.1 q_.2.2 (S ++ [0x80] ++ List.replicate q_.1 0) ∧ St W F (q_.2.1 :: cs) w) (fun q_ => ShaM.pads S.length - q_.1) (⟨0, r3, v3⟩) (by repeat (first | exact trivial | refine ⟨rfl, ?_⟩)) (⟨by omega, by simpa using hr3, h4⟩) ?_
  rintro ⟨k, r, v⟩ w5 ⟨hk, hrb, hL⟩
  try dsimp only at hk hrb hL
  refine WC.sub (s := [(0, .string s), (3, v)]) (by repeat (first | exact trivial | refine ⟨rfl, ?_⟩)) ?_
  obtain ⟨A, cap, rfl, hcap⟩ := hrb.val
  have hlen : (S ++ [0x80] ++ List.replicate k 0).length = S.length + 1 + k := by simp; omega
  refine WC.seq ?_
  refine WC.seq ?_
  refine WC.reg ?_
  refine WL.v (Runs.move rfl) rfl ?_
  refine WL.v (Runs.llen Try.underlying74 rfl rfl) rfl ?_
  refine WL.v (Runs.remn rfl rfl (by omega) (by omega)) rfl ?_
  refine WL.v (Runs.neq rfl rfl) rfl ?_
  refine WL.nil ?_
  refine WN.thn ?_
  refine WC.cond rfl (fun c6 => ?_) (fun c6 => ?_)
  · try simp only [decide_eq_true_eq, decide_eq_false_iff_not, Bool.not_eq_true', Bool.not_eq_false', Bool.and_eq_true, Int.not_lt, Int.not_le] at c6
    first
    | (exfalso; omega)
    | skip
      refine WC.skip ?_
      refine WN.thn ?_
      refine WC.block ?_
      refine WC.reg ?_
      refine WL.v (Runs.move rfl) rfl ?_
      refine WL.lit (vs := (([0] : List UInt8)).map V8) hL rfl Try.underlying74 inf5 rfl rfl rfl rfl rfl ?_
      intro lit18 w7 h7
      refine WL.app (ys := ([0] : List UInt8)) 1 h7 rfl rfl rfl rfl Try.underlying74 Try.underlying74 (.inr ⟨_, rfl⟩) inf5 rfl hrb (Src.lit h7 0 rfl rfl rfl) rfl rfl (by first | omega | (simp [lenb_len, flat_len, list_len, ShaM.out4]; done) | (simp [lenb_len, flat_len, list_len, ShaM.out4]; omega)) (by first | omega | (simp [lenb_len, flat_len, list_len, ShaM.out4]; done) | (simp [lenb_len, flat_len, list_len, ShaM.out4]; omega)) ?_
      intro r8 v8 w9 hr8 h9
      simp only [List.set_cons_zero, List.set_cons_succ] at h9
      replace h9 := h9.drop 0
      simp only [List.eraseIdx_cons_zero, List.eraseIdx_cons_succ] at h9
      refine WL.v (Runs.assign rfl) rfl ?_
      refine WL.nil ?_
      refine WN.blk ?_
      refine WN.again (⟨k + 1, r8, v8⟩ : Nat × Res × Value) (by show _ - (k + 1) < _ - k; omega) ⟨rfl, rfl, trivial⟩ ⟨by show k + 1 ≤ _; omega, ?_, h9⟩
      have := hr8
      rwa [List.append_assoc, ← List.replicate_succ'] at this
  · try simp only [decide_eq_true_eq, decide_eq_false_iff_not, Bool.not_eq_true', Bool.not_eq_false', Bool.and_eq_true, Int.not_lt, Int.not_le] at c6
    first
    | (exfalso; omega)
    | skip
      refine WC.exit ?_
      refine WX.thn ?_
      refine WX.cut ?_
      refine WX.hit ?_
      refine WN.thn ?_
      refine WC.seq ?_
      refine WC.seq ?_
      refine WC.reg ?_
      refine WL.v (Runs.assign rfl) rfl ?_
      refine WL.nil ?_
      refine WN.thn ?_
      refine WC.block ?_
      refine WC.loop (σ := Nat × Res × Value) (fun q_ => [(0, .string s), (3, q_.2.2), (4, .int .i64 (56 - 8 * (q_.1 : Int)))]) (fun q_ w => q_.1 ≤ 8 ∧ Row 5 V8 q_.2.1 q_.2.2 ((S ++ [0x80] ++ List.replicate (ShaM.pads S.length) 0) ++ ShaM.lenb S.length q_.1) ∧ St W F (q_.2.1 :: cs) w) (fun q_ => 8 - q_.1) (⟨0, r, _⟩) (by repeat (first | exact trivial | refine ⟨rfl, ?_⟩)) (⟨by omega, by obtain rfl : k = ShaM.pads S.length := (by omega); simpa [ShaM.lenb] using hrb, hL⟩) ?_
      rintro ⟨i, r, v⟩ w10 ⟨hi, hrb, hL⟩
      try dsimp only at hi hrb hL
      refine WC.sub (s := [(0, .string s), (3, v), (4, .int .i64 (56 - 8 * (i : Int)))]) (by repeat (first | exact trivial | refine ⟨rfl, ?_⟩)) ?_
      obtain ⟨A, cap, rfl, hcap⟩ := hrb.val
      have hlen : ((S ++ [0x80] ++ List.replicate (ShaM.pads S.length) 0) ++ ShaM.lenb S.length i).length = S.length + 1 + ShaM.pads S.length + i := by simp [lenb_len]; omega
      refine WC.seq ?_
      refine WC.seq ?_
      refine WC.reg ?_
      refine WL.v (Runs.move rfl) rfl ?_
      refine WL.v (Runs.geq rfl rfl) rfl ?_
      refine WL.nil ?_
      refine WN.thn ?_
      refine WC.cond rfl (fun c11 => ?_) (fun c11 => ?_)
      · try simp only [decide_eq_true_eq, decide_eq_false_iff_not, Bool.not_eq_true', Bool.not_eq_false', Bool.and_eq_true, Int.not_lt, Int.not_le] at c11
        first
        | (exfalso; omega)
        | skip
          refine WC.skip ?_
          refine WN.thn ?_
          refine WC.seq ?_
          refine WC.block ?_
          refine WC.reg ?_
          refine WL.v (Runs.move rfl) rfl ?_
          refine WL.v (Runs.move rfl) rfl ?_
          refine WL.v (Runs.slen Try.underlying9 rfl rfl) rfl ?_
          refine WL.v (Runs.muln rfl rfl (by omega)) rfl ?_
          refine WL.v (Runs.move rfl) rfl ?_
          refine WL.v (Runs.shr rfl rfl (by omega)) rfl ?_
          refine WL.v (Runs.ito8 Try.underlying3 Try.underlying5 rfl (m := 8 * s.size / 2 ^ (56 - 8 * i)) (shr_nat (a := 8 * s.size) (by omega) (by omega))) rfl ?_
          refine WL.lit (vs := (([UInt8.ofNat (8 * s.size / 2 ^ (56 - 8 * i))] : List UInt8)).map V8) hL rfl Try.underlying74 inf5 rfl rfl rfl rfl rfl ?_
          intro lit31 w12 h12
          refine WL.app (ys := ([UInt8.ofNat (8 * s.size / 2 ^ (56 - 8 * i))] : List UInt8)) 1 h12 rfl rfl rfl rfl Try.underlying74 Try.underlying74 (.inr ⟨_, rfl⟩) inf5 rfl hrb (Src.lit h12 0 rfl rfl rfl) rfl rfl (by first | omega | (simp [lenb_len, flat_len, list_len, ShaM.out4]; done) | (simp [lenb_len, flat_len, list_len, ShaM.out4]; omega)) (by first | omega | (simp [lenb_len, flat_len, list_len, ShaM.out4]; done) | (simp [lenb_len, flat_len, list_len, ShaM.out4]; omega)) ?_
          intro r13 v13 w14 hr13 h14
          simp only [List.set_cons_zero, List.set_cons_succ] at h14
          replace h14 := h14.drop 0
          simp only [List.eraseIdx_cons_zero, List.eraseIdx_cons_succ] at h14
          refine WL.v (Runs.assign rfl) rfl ?_
          refine WL.nil ?_
          refine WN.blk ?_
          refine WN.thn ?_
          refine WC.reg ?_
          refine WL.v (Runs.move rfl) rfl ?_
          refine WL.v (Runs.subn rfl rfl (by omega)) rfl ?_
          refine WL.v (Runs.assign rfl) rfl ?_
          refine WL.nil ?_
          refine WN.again (⟨i + 1, r13, v13⟩ : Nat × Res × Value) (by show 8 - (i + 1) < 8 - i; omega) ⟨rfl, rfl, ?_, trivial⟩ ⟨by show i + 1 ≤ 8; omega, ?_, h14⟩
          · show some (Value.int .i64 (56 - 8 * (i : Int) - 8)) = some (.int .i64 (56 - 8 * ((i + 1 : Nat) : Int)))
            rw [show (56 - 8 * (i : Int) - 8) = 56 - 8 * ((i + 1 : Nat) : Int) by omega]
          · have := hr13
            rw [← hSl] at this
            rwa [List.append_assoc, ← lenb_succ] at this
      · try simp only [decide_eq_true_eq, decide_eq_false_iff_not, Bool.not_eq_true', Bool.not_eq_false', Bool.and_eq_true, Int.not_lt, Int.not_le] at c11
        first
        | (exfalso; omega)
        | skip
          refine WC.exit ?_
          refine WX.thn ?_
          refine WX.cut ?_
          refine WX.hit ?_
          refine WN.thn ?_
          refine WC.seq ?_
          refine WC.reg ?_
          obtain rfl : i = 8 := by omega
          obtain ⟨G, hG1, hG2, hG3⟩ := hL.freeze (i := 0) rfl
          simp only [List.eraseIdx_cons_zero] at hG3
          have hR0 : RdS Kd.u8 G A (ShaM.pad S) := Row.read (f := V8) (hrb : Row _ _ _ _ (ShaM.pad S)) rfl hG2
          refine WL.call can68 rfl rfl (first_c _ hG3) ?_
          rintro _ wf ⟨rfl, hf⟩
          refine ⟨_, rfl, ?_⟩
          refine WL.alloc' rfl hf inf95 ?_
          intro b5 w15 h15
          refine WL.storeAll h15 0 rfl rfl rfl inf95 rfl rfl rfl (Free.zero _) ?_
          intro  w16 h16
          try simp only [List.set_cons_zero, List.set_cons_succ, List.eraseIdx_cons_zero, List.eraseIdx_cons_succ] at h16
          refine WL.nil ?_
          refine WN.thn ?_
          refine WC.seq ?_
          refine WC.block ?_
          refine WC.loop (σ := Nat × D8 × List UInt8 × Option Addr × Nat) (fun q_ => [(3, .slice q_.2.2.2.1 q_.2.2.1.length q_.2.2.2.2), (5, .pointer (some ⟨b5, 0, none⟩))]) (fun q_ w => q_.2.2.1.length = 64 * q_.1 ∧ ShaM.blocks q_.1 q_.2.1 q_.2.2.1 = ShaM.blocks ((ShaM.pad S).length / 64) ShaM.first (ShaM.pad S) ∧ RdS Kd.u8 G q_.2.2.2.1 q_.2.2.1 ∧ q_.2.2.1.length ≤ q_.2.2.2.2 ∧ St W G ([(b5, .cells ((q_.2.1.list).map V32).toArray 95 (0, 0))] :: cs) w) (fun q_ => q_.1) (⟨(ShaM.pad S).length / 64, ShaM.first, ShaM.pad S, A, cap⟩) (by repeat (first | exact trivial | refine ⟨rfl, ?_⟩)) (⟨by show (ShaM.pad S).length = 64 * ((ShaM.pad S).length / 64); rw [pad_len]; omega, rfl, hR0, hcap, h16⟩) ?_
          rintro ⟨n, dd, l, A1, cap'⟩ w17 ⟨hl, hB, hR, hc, hL⟩
          try dsimp only at hl hB hR hc hL
          refine WC.sub (s := [(3, .slice A1 l.length cap'), (5, .pointer (some ⟨b5, 0, none⟩))]) (by repeat (first | exact trivial | refine ⟨rfl, ?_⟩)) ?_
          refine WC.seq ?_
          refine WC.seq ?_
          refine WC.reg ?_
          refine WL.v (Runs.move rfl) rfl ?_
          refine WL.v (Runs.llen Try.underlying74 rfl rfl) rfl ?_
          refine WL.v (Runs.gtr rfl rfl) rfl ?_
          refine WL.nil ?_
          refine WN.thn ?_
          refine WC.cond rfl (fun c18 => ?_) (fun c18 => ?_)
          · try simp only [decide_eq_true_eq, decide_eq_false_iff_not, Bool.not_eq_true', Bool.not_eq_false', Bool.and_eq_true, Int.not_lt, Int.not_le] at c18
            first
            | (exfalso; omega)
            | skip
              refine WC.skip ?_
              refine WN.thn ?_
              refine WC.seq ?_
              refine WC.block ?_
              refine WC.reg ?_
              obtain ⟨n, rfl⟩ : ∃ m, n = m + 1 := ⟨n - 1, by omega⟩
              obtain ⟨ad, rfl, hrd⟩ := rd1 hR (by omega)
              refine WL.v (Runs.move rfl) rfl ?_
              refine WL.v (Runs.lsl_hi Try.underlying74 inf5 rfl rfl (n := 64) rfl (by omega)) rfl ?_
              have e64 : (l.take 64).length = 64 := by rw [List.length_take]; omega
              have hb := block_c (bs := l.take 64) (ad := ad) (cap := cap') w17 dd hL (fun i x hx => hrd i x (by rw [List.getElem?_take] at hx; split at hx <;> first | exact hx | cases hx)) e64
              rw [e64] at hb
              refine WL.call can69 rfl rfl hb ?_
              rintro _ wb ⟨rfl, hb2⟩
              refine ⟨_, rfl, ?_⟩
              refine WL.nil ?_
              refine WN.blk ?_
              refine WN.thn ?_
              refine WC.reg ?_
              refine WL.v (Runs.move rfl) rfl ?_
              refine WL.v (Runs.lsl_lo Try.underlying74 inf5 rfl rfl (n := 64) rfl (by omega)) rfl ?_
              refine WL.v (Runs.assign rfl) rfl ?_
              refine WL.nil ?_
              refine WN.again (⟨n, ShaM.block dd (l.take 64), l.drop 64, (if cap' = 64 then some ad else (some ad).map (·.add (64 * 1))), cap' - 64⟩ : Nat × D8 × List UInt8 × Option Addr × Nat) (by show n < n + 1; omega) ⟨?_, rfl, trivial⟩ ⟨?_, hB, hR.drop 64 (cap := cap') (by omega), ?_, hb2⟩
              · show _ = some (Value.slice _ (l.drop 64).length _)
                rw [List.length_drop]; rfl
              · show (l.drop 64).length = 64 * n
                rw [List.length_drop]; omega
              · show (l.drop 64).length ≤ cap' - 64
                rw [List.length_drop]; omega
          · try simp only [decide_eq_true_eq, decide_eq_false_iff_not, Bool.not_eq_true', Bool.not_eq_false', Bool.and_eq_true, Int.not_lt, Int.not_le] at c18
            first
            | (exfalso; omega)
            | skip
              refine WC.exit ?_
              refine WX.thn ?_
              refine WX.cut ?_
              refine WX.hit ?_
              refine WN.thn ?_
              refine WC.seq ?_
              refine WC.reg ?_
              refine WL.v (Runs.assign rfl) rfl ?_
              refine WL.nil ?_
              refine WN.thn ?_
              refine WC.seq ?_
              refine WC.seq ?_
              refine WC.reg ?_
              obtain rfl : n = 0 := by omega
              obtain rfl : dd = ShaM.blocks ((ShaM.pad S).length / 64) ShaM.first (ShaM.pad S) := hB
              generalize hD : ShaM.blocks ((ShaM.pad S).length / 64) ShaM.first (ShaM.pad S) = dd at *
              have hN := hL.nilRes
              refine WL.v (Runs.loadAll hL 0 rfl Try.underlying95 rfl inf95 rfl rfl) rfl ?_
              refine WL.v (Runs.move rfl) rfl ?_
              refine WL.nil ?_
              refine WN.thn ?_
              refine WC.block ?_
              refine WC.loop (σ := Nat × Res × Value) (fun q_ => [(6, q_.2.2), (42, .agg (dd.list.map V32).toArray), (43, .int .i64 (q_.1 : Int))]) (fun q_ w => q_.1 ≤ 8 ∧ Row 5 V8 q_.2.1 q_.2.2 ((dd.list.take q_.1).flatMap ShaM.out4) ∧ St W G (q_.2.1 :: [(b5, .cells ((dd.list).map V32).toArray 95 (0, 0))] :: cs) w) (fun q_ => 8 - q_.1) (⟨0, [], .slice none 0 0⟩) (by repeat (first | exact trivial | refine ⟨rfl, ?_⟩)) (⟨by omega, Row.nil _ _, hN⟩) ?_
              rintro ⟨i, r, v⟩ w19 ⟨hi, hro, hL⟩
              try dsimp only at hi hro hL
              refine WC.sub (s := [(6, v), (42, .agg (dd.list.map V32).toArray), (43, .int .i64 (i : Int))]) (by repeat (first | exact trivial | refine ⟨rfl, ?_⟩)) ?_
              obtain ⟨A, cap, rfl, hcap⟩ := hro.val
              have hlen : ((dd.list.take i).flatMap ShaM.out4).length = 4 * i := by rw [flat_len, List.length_take, list_len]; omega
              refine WC.seq ?_
              refine WC.reg ?_
              refine WL.v (Runs.lss rfl rfl) rfl ?_
              refine WL.nil ?_
              refine WN.thn ?_
              refine WC.seq ?_
              refine WC.cond rfl (fun c20 => ?_) (fun c20 => ?_)
              · try simp only [decide_eq_true_eq, decide_eq_false_iff_not, Bool.not_eq_true', Bool.not_eq_false', Bool.and_eq_true, Int.not_lt, Int.not_le] at c20
                first
                | (exfalso; omega)
                | skip
                  refine WC.skip ?_
                  refine WN.thn ?_
                  refine WC.seq ?_
                  refine WC.block ?_
                  refine WC.seq ?_
                  refine WC.reg ?_
                  refine WL.v (Runs.aggIdx Try.underlying95 Try.underlying93 rfl inf93 rfl rfl (n := i) rfl (by omega) (u := V32 (dd.list.getD i 0)) (by have : i < dd.list.length := (by rw [list_len]; omega); simp [List.getD_eq_getElem?_getD, List.getElem?_eq_getElem this])) rfl ?_
                  refine WL.v (Runs.assign rfl) rfl ?_
                  refine WL.nil ?_
                  refine WN.thn ?_
                  refine WC.reg ?_
                  refine WL.v (Runs.move rfl) rfl ?_
                  refine WL.v (Runs.move rfl) rfl ?_
                  refine WL.v (Runs.shr32 rfl rfl (by decide)) rfl ?_
                  refine WL.v (Runs.to8 Try.underlying93 Try.underlying5 rfl) rfl ?_
                  refine WL.v (Runs.move rfl) rfl ?_
                  refine WL.v (Runs.shr32 rfl rfl (by decide)) rfl ?_
                  refine WL.v (Runs.to8 Try.underlying93 Try.underlying5 rfl) rfl ?_
                  refine WL.v (Runs.move rfl) rfl ?_
                  refine WL.v (Runs.shr32 rfl rfl (by decide)) rfl ?_
                  refine WL.v (Runs.to8 Try.underlying93 Try.underlying5 rfl) rfl ?_
                  refine WL.v (Runs.move rfl) rfl ?_
                  refine WL.v (Runs.to8 Try.underlying93 Try.underlying5 rfl) rfl ?_
                  refine WL.lit (vs := (ShaM.out4 (dd.list.getD i 0)).map V8) hL rfl Try.underlying74 inf5 rfl rfl rfl rfl rfl ?_
                  intro lit58 w21 h21
                  refine WL.app (ys := ShaM.out4 (dd.list.getD i 0)) 1 h21 rfl rfl rfl rfl Try.underlying74 Try.underlying74 (.inr ⟨_, rfl⟩) inf5 rfl hro (Src.lit h21 0 rfl rfl rfl) rfl rfl (by first | omega | (simp [lenb_len, flat_len, list_len, ShaM.out4]; done) | (simp [lenb_len, flat_len, list_len, ShaM.out4]; omega)) (by first | omega | (simp [lenb_len, flat_len, list_len, ShaM.out4]; done) | (simp [lenb_len, flat_len, list_len, ShaM.out4]; omega)) ?_
                  intro r22 v22 w23 hr22 h23
                  simp only [List.set_cons_zero, List.set_cons_succ] at h23
                  replace h23 := h23.drop 0
                  simp only [List.eraseIdx_cons_zero, List.eraseIdx_cons_succ] at h23
                  refine WL.v (Runs.assign rfl) rfl ?_
                  refine WL.nil ?_
                  refine WN.blk ?_
                  refine WN.thn ?_
                  refine WC.reg ?_
                  refine WL.v (Runs.addn rfl rfl (by omega)) rfl ?_
                  refine WL.v (Runs.move rfl) rfl ?_
                  refine WL.nil ?_
                  refine WN.again (⟨i + 1, r22, v22⟩ : Nat × Res × Value) (by show 8 - (i + 1) < 8 - i; omega) ⟨rfl, rfl, rfl, trivial⟩ ⟨by show i + 1 ≤ 8; omega, ?_, h23⟩
                  have := hr22
                  rwa [← take_flat (by rw [list_len]; omega)] at this
              · try simp only [decide_eq_true_eq, decide_eq_false_iff_not, Bool.not_eq_true', Bool.not_eq_false', Bool.and_eq_true, Int.not_lt, Int.not_le] at c20
                first
                | (exfalso; omega)
                | skip
                  refine WC.exit ?_
                  refine WX.thn ?_
                  refine WX.cut ?_
                  refine WX.hit ?_
                  refine WN.thn ?_
                  refine WC.seq ?_
                  refine WC.reg ?_
                  refine WL.v (Runs.move rfl) rfl ?_
                  obtain rfl : i = 8 := by omega
                  refine WL.v (Runs.b2s (bs := dd.list.flatMap ShaM.out4) Try.underlying74 Try.underlying5 Try.underlying9 rfl (by rfl) (hro.wcell hL (i := 0) rfl rfl)) rfl ?_
                  refine WL.v (Runs.assign rfl) rfl ?_
                  refine WL.nil ?_
                  refine WN.thn ?_
                  refine WC.ret ?_
                  refine ret1 rfl rfl ⟨?_, ((hL.drop 0).drop 0).weak hG1⟩
                  rw [show ShaM.of S = dd.list.flatMap ShaM.out4 by unfold ShaM.of; rw [hD]]
end Sha
end Go.Proofs.Ytbkfjedecepfoaa
