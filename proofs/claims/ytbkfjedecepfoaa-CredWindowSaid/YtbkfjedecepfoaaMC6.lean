/- Credentials signed and opened. -/
import Derived.Test.YtbkfjedecepfoaaMC5
import Derived.Test.YtbkfjedecepfoaaMSha11
namespace Go.Proofs.Ytbkfjedecepfoaa
open Go Go.RowKit B
set_option linter.unusedVariables false
set_option linter.unusedSimpArgs false
namespace Cr
open Wir (Vi mayN numB listB rdN rdL rdEnd)

theorem can10 : B.Can Try.prog 10 := ⟨_, Try.func10, by kernel_rfl, rfl⟩   -- roundhouse/cred.Decode
theorem can11 : B.Can Try.prog 11 := ⟨_, Try.func11, by kernel_rfl, rfl⟩   -- roundhouse/roundhouseref06.Decode
theorem can14 : B.Can Try.prog 14 := ⟨_, Try.func14, by kernel_rfl, rfl⟩   -- roundhouse/cred.Encode
theorem can15 : B.Can Try.prog 15 := ⟨_, Try.func15, by kernel_rfl, rfl⟩   -- roundhouse/roundhouseref06.Encode
theorem can40 : B.Can Try.prog 40 := ⟨_, Try.func40, by kernel_rfl, rfl⟩   -- roundhouse/sha.Same
theorem can41 : B.Can Try.prog 41 := ⟨_, Try.func41, by kernel_rfl, rfl⟩   -- roundhouse/sha.Hmac
theorem can42 : B.Can Try.prog 42 := ⟨_, Try.func42, by kernel_rfl, rfl⟩   -- roundhouse/roundhouseref01.Hmac
theorem bs_dl (l : List UInt8) : (bs l).data.toList = l := by simp [bs]
theorem hmac_len (k s : List UInt8) : (ShaM.hmac k s).length = 32 := by unfold ShaM.hmac; exact Sha.of_len _
theorem hmac_b {W : World} {F : Snap} {cs : List Res} (w : World) (k s : List UInt8) (h : St W F cs w) (hk : k.length ≤ 900000) (hs : s.length ≤ 900000) : Calls Try.prog 41 #[.string (bs k), .string (bs s)] w fun e w' => e = .returned (.string (bs (ShaM.hmac k s))) ∧ St W F cs w' := by
  have := Sha.hmac_c w (bs k) (bs s) h (by rw [bs_size]; exact hk) (by rw [bs_size]; exact hs)
  rw [bs_dl, bs_dl] at this
  exact this
theorem qhmac_b {W : World} {F : Snap} {cs : List Res} (w : World) (k s : List UInt8) (h : St W F cs w) (hk : k.length ≤ 900000) (hs : s.length ≤ 900000) : Calls Try.prog 42 #[.string (bs k), .string (bs s)] w fun e w' => e = .returned (.string (bs (ShaM.hmac k s))) ∧ St W F cs w' := by
  have := Sha.rhmac_c w (bs k) (bs s) h (by rw [bs_size]; exact hk) (by rw [bs_size]; exact hs)
  rw [bs_dl, bs_dl] at this
  exact this
theorem same_b {W : World} {F : Snap} {cs : List Res} (w : World) (a b : List UInt8) (h : St W F cs w) (ha : a.length ≤ 100000) : Calls Try.prog 40 #[.string (bs a), .string (bs b)] w fun e w' => e = .returned (.bool (decide (a = b))) ∧ St W F cs w' := by
  have := Sha.same_c w (bs a) (bs b) h (by rw [bs_size]; omega)
  rw [show decide (bs a = bs b) = decide (a = b) from decide_eq_decide.2 bs_inj] at this
  exact this
def signM (k : List UInt8) (c : C) : List UInt8 := if encC c = [] then [] else encC c ++ ShaM.hmac k (encC c)
def d32 (l : List UInt8) : List UInt8 := l.take (l.length - 32)
def t32 (l : List UInt8) : List UInt8 := l.drop (l.length - 32)
theorem d32_len (l : List UInt8) : (d32 l).length ≤ l.length := by unfold d32; rw [List.length_take]; omega
def openM (k l : List UInt8) : C × Int := if l.length < 32 then (C0, 2) else if ShaM.hmac k (d32 l) = t32 l then decM (d32 l) else (C0, 7)
theorem openM_n {k l : List UInt8} (h : 32 ≤ l.length) (h2 : ¬ ShaM.hmac k (d32 l) = t32 l) : openM k l = (C0, 7) := by
  unfold openM
  rw [if_neg (by omega), if_neg h2]
theorem openM_y {k l : List UInt8} (h : 32 ≤ l.length) (h2 : ShaM.hmac k (d32 l) = t32 l) : openM k l = decM (d32 l) := by
  unfold openM
  rw [if_neg (by omega), if_pos h2]
set_option maxRecDepth 100000 in
set_option maxHeartbeats 1000000 in
theorem sign_c {W : World} {F : Snap} {cs : List Res} (w : World) {A : Option Addr} {cap : Nat} {c : C} (k : List UInt8) (hk : k.length ≤ 900000) (h : St W F cs w) (hR : RdS (Kd.one Vi) F A c.nd) (hn : c.nd.length ≤ 100000) : Calls Try.prog 19 #[.string (bs k), .agg #[Vi c.jb, Vi c.ep, Vi c.st, Vi c.fr, Vi c.un, .slice A c.nd.length cap, Vi c.co]] w fun r w' => r = .returned (.string (bs (signM k c))) ∧ St W F cs w'  := by
  refine enter (P := Try.prog) (args := [.string (bs k), .agg #[Vi c.jb, Vi c.ep, Vi c.st, Vi c.fr, Vi c.un, .slice A c.nd.length cap, Vi c.co]]) Try.func19 rfl rfl rfl ?_
  refine WC.seq ?_
  refine WC.reg ?_
  refine WL.box rfl h rfl ?_
  intro b3 w1 h1
  refine WL.v (Runs.assign rfl) rfl ?_
  refine WL.nil ?_
  refine WN.thn ?_
  refine WC.seq ?_
  refine WC.reg ?_
  refine WL.v (Runs.loadAll h1 0 rfl Try.underlying24 rfl inf24 rfl rfl) rfl ?_
  refine WL.call can14 rfl rfl (encode_c _ h1 hR hn) ?_
  rintro _ w2 ⟨rfl, h2⟩
  refine ⟨_, rfl, ?_⟩
  refine WL.v (Runs.assign rfl) rfl ?_
  refine WL.nil ?_
  refine WN.thn ?_
  refine WC.seq ?_
  refine WC.seq ?_
  refine WC.reg ?_
  refine WL.v (Runs.move rfl) rfl ?_
  refine WL.v (Runs.lseql rfl rfl) rfl ?_
  refine WL.nil ?_
  refine WN.thn ?_
  refine WC.cond rfl (fun c3 => ?_) (fun c3 => ?_)
  · try simp only [decide_eq_true_eq, decide_eq_false_iff_not, Bool.not_eq_true', Bool.not_eq_false', Bool.and_eq_true, Int.not_lt, Int.not_le] at c3
    first
    | (exfalso; omega)
    | skip
      refine WC.seq ?_
      refine WC.reg ?_
      refine WL.v (Runs.assign rfl) rfl ?_
      refine WL.nil ?_
      refine WN.thn ?_
      refine WC.ret ?_
      refine ret1 rfl rfl ⟨?_, h2.drop 0⟩
      unfold signM
      rw [if_pos (by simpa using c3)]; try rfl
  · try simp only [decide_eq_true_eq, decide_eq_false_iff_not, Bool.not_eq_true', Bool.not_eq_false', Bool.and_eq_true, Int.not_lt, Int.not_le] at c3
    first
    | (exfalso; omega)
    | skip
      refine WC.skip ?_
      refine WN.thn ?_
      refine WC.seq ?_
      refine WC.reg ?_
      refine WL.v (Runs.move rfl) rfl ?_
      refine WL.v (Runs.move rfl) rfl ?_
      refine WL.v (Runs.move rfl) rfl ?_
      refine WL.call can41 rfl rfl (hmac_b _ k (encC c) h2 hk (by have := encC_len (c := c); omega)) ?_
      rintro _ w4 ⟨rfl, h4⟩
      refine ⟨_, rfl, ?_⟩
      refine WL.v (Runs.lsadd rfl rfl (by have := encC_len (c := c); have := hmac_len k (encC c); omega)) rfl ?_
      refine WL.v (Runs.assign rfl) rfl ?_
      refine WL.nil ?_
      refine WN.thn ?_
      refine WC.ret ?_
      refine ret1 rfl rfl ⟨?_, h4.drop 0⟩
      unfold signM
      rw [if_neg (by simpa using c3)]; try rfl
set_option maxRecDepth 100000 in
set_option maxHeartbeats 1000000 in
theorem qsign_c {W : World} {F : Snap} {cs : List Res} (w : World) {A : Option Addr} {cap : Nat} {c : C} (k : List UInt8) (hk : k.length ≤ 900000) (h : St W F cs w) (hR : RdS (Kd.one Vi) F A c.nd) (hn : c.nd.length ≤ 100000) : Calls Try.prog 20 #[.string (bs k), .agg #[Vi c.jb, Vi c.ep, Vi c.st, Vi c.fr, Vi c.un, .slice A c.nd.length cap, Vi c.co]] w fun r w' => r = .returned (.string (bs (signM k c))) ∧ St W F cs w'  := by
  refine enter (P := Try.prog) (args := [.string (bs k), .agg #[Vi c.jb, Vi c.ep, Vi c.st, Vi c.fr, Vi c.un, .slice A c.nd.length cap, Vi c.co]]) Try.func20 rfl rfl rfl ?_
  refine WC.seq ?_
  refine WC.reg ?_
  refine WL.box rfl h rfl ?_
  intro b3 w1 h1
  refine WL.v (Runs.assign rfl) rfl ?_
  refine WL.nil ?_
  refine WN.thn ?_
  refine WC.seq ?_
  refine WC.reg ?_
  refine WL.v (Runs.loadAll h1 0 rfl Try.underlying24 rfl inf24 rfl rfl) rfl ?_
  refine WL.call can15 rfl rfl (qencode_c _ h1 hR hn) ?_
  rintro _ w2 ⟨rfl, h2⟩
  refine ⟨_, rfl, ?_⟩
  refine WL.v (Runs.assign rfl) rfl ?_
  refine WL.nil ?_
  refine WN.thn ?_
  refine WC.seq ?_
  refine WC.seq ?_
  refine WC.reg ?_
  refine WL.v (Runs.move rfl) rfl ?_
  refine WL.v (Runs.lseql rfl rfl) rfl ?_
  refine WL.nil ?_
  refine WN.thn ?_
  refine WC.cond rfl (fun c3 => ?_) (fun c3 => ?_)
  · try simp only [decide_eq_true_eq, decide_eq_false_iff_not, Bool.not_eq_true', Bool.not_eq_false', Bool.and_eq_true, Int.not_lt, Int.not_le] at c3
    first
    | (exfalso; omega)
    | skip
      refine WC.seq ?_
      refine WC.reg ?_
      refine WL.v (Runs.assign rfl) rfl ?_
      refine WL.nil ?_
      refine WN.thn ?_
      refine WC.ret ?_
      refine ret1 rfl rfl ⟨?_, h2.drop 0⟩
      unfold signM
      rw [if_pos (by simpa using c3)]; try rfl
  · try simp only [decide_eq_true_eq, decide_eq_false_iff_not, Bool.not_eq_true', Bool.not_eq_false', Bool.and_eq_true, Int.not_lt, Int.not_le] at c3
    first
    | (exfalso; omega)
    | skip
      refine WC.skip ?_
      refine WN.thn ?_
      refine WC.seq ?_
      refine WC.reg ?_
      refine WL.v (Runs.move rfl) rfl ?_
      refine WL.v (Runs.move rfl) rfl ?_
      refine WL.v (Runs.move rfl) rfl ?_
      refine WL.call can42 rfl rfl (qhmac_b _ k (encC c) h2 hk (by have := encC_len (c := c); omega)) ?_
      rintro _ w4 ⟨rfl, h4⟩
      refine ⟨_, rfl, ?_⟩
      refine WL.v (Runs.lsadd rfl rfl (by have := encC_len (c := c); have := hmac_len k (encC c); omega)) rfl ?_
      refine WL.v (Runs.assign rfl) rfl ?_
      refine WL.nil ?_
      refine WN.thn ?_
      refine WC.ret ?_
      refine ret1 rfl rfl ⟨?_, h4.drop 0⟩
      unfold signM
      rw [if_neg (by simpa using c3)]; try rfl
set_option maxRecDepth 100000 in
set_option maxHeartbeats 1000000 in
theorem open_c {W : World} {F : Snap} {cs : List Res} (w : World) (k l : List UInt8) (h : St W F cs w) (hk : k.length ≤ 900000) (hl : l.length ≤ 100000) : Calls Try.prog 17 #[.string (bs k), .string (bs l)] w fun r w' => ∃ G A cap, Le F G ∧ r = .returned (.tuple #[(openM k l).1.val A cap, Vi (openM k l).2]) ∧ RdS (Kd.one Vi) G A (openM k l).1.nd ∧ St W G cs w'  := by
  refine enter (P := Try.prog) (args := [.string (bs k), .string (bs l)]) Try.func17 rfl rfl rfl ?_
  refine WC.seq ?_
  refine WC.reg ?_
  refine WL.alloc' rfl h inf24 ?_
  intro b4 w1 h1
  refine WL.v (Runs.assign rfl) rfl ?_
  refine WL.nil ?_
  refine WN.thn ?_
  refine WC.seq ?_
  refine WC.reg ?_
  refine WL.v (Runs.move rfl) rfl ?_
  refine WL.v (Runs.intT (n := (l.length : Int)) (Runs.slen Try.underlying9 rfl rfl) rfl) rfl ?_
  refine WL.v (Runs.subn rfl rfl (by omega)) rfl ?_
  refine WL.v (Runs.assign rfl) rfl ?_
  refine WL.nil ?_
  refine WN.thn ?_
  refine WC.seq ?_
  refine WC.block ?_
  refine WC.seq ?_
  refine WC.reg ?_
  refine WL.v (Runs.move rfl) rfl ?_
  refine WL.v (Runs.lss rfl rfl) rfl ?_
  refine WL.v (Runs.assign rfl) rfl ?_
  refine WL.nil ?_
  refine WN.thn ?_
  refine WC.cond rfl (fun c2 => ?_) (fun c2 => ?_)
  · try simp only [decide_eq_true_eq, decide_eq_false_iff_not, Bool.not_eq_true', Bool.not_eq_false', Bool.and_eq_true, Int.not_lt, Int.not_le] at c2
    first
    | (exfalso; omega)
    | skip
      refine WC.seq ?_
      refine WC.reg ?_
      refine WL.v (Runs.build (vs := []) (cells := #[Vi 0, Vi 0, Vi 0, Vi 0, Vi 0, .slice none 0 0, Vi 0]) rfl (by kernel_rfl)) rfl ?_
      refine WL.storeAll h1 0 rfl rfl rfl inf24 rfl rfl rfl (Free.zero _) ?_
      intro  w3 h3
      try simp only [List.set_cons_zero, List.set_cons_succ, List.eraseIdx_cons_zero, List.eraseIdx_cons_succ] at h3
      refine WL.v (Runs.assign rfl) rfl ?_
      refine WL.nil ?_
      refine WN.thn ?_
      refine WC.ret ?_
      have e9 : openM k l = (C0, 2) := if_pos (by omega)
      exact retB rfl (v := .agg #[Vi 0, Vi 0, Vi 0, Vi 0, Vi 0, .slice none 0 0, Vi 0]) ⟨_, rfl, run_loadVarA (vs := [Vi 0, Vi 0, Vi 0, Vi 0, Vi 0, .slice none 0 0, Vi 0]) Try.underlying24 rfl inf24 rfl (fun j v hv => by rw [add_mk, Nat.zero_add]; exact h3.ocell (i := 0) rfl (by simpa using hv))⟩ (show lk _ _ = _ from rfl) ⟨F, none, 0, Le.refl F, by rw [e9]; rfl, by rw [e9]; exact .inl rfl, (h3.drop 0)⟩
  · try simp only [decide_eq_true_eq, decide_eq_false_iff_not, Bool.not_eq_true', Bool.not_eq_false', Bool.and_eq_true, Int.not_lt, Int.not_le] at c2
    first
    | (exfalso; omega)
    | skip
      refine WC.seq ?_
      refine WC.qreg (C := fun w_ => St W F _ w_) mixed (by kernel_rfl) (h1.drew) ?_
      refine WQ.val (fun w_ hC_ => Runs.move rfl) rfl ?_
      refine WQ.val (fun w_ hC_ => Runs.move rfl) rfl ?_
      refine WQ.val (fun w_ hC_ => Runs.move rfl) rfl ?_
      refine WQ.val (fun w_ hC_ => Runs.lssl_hi (m := l.length - 32) rfl rfl rfl (by omega) (by omega)) rfl ?_
      refine WQ.call can41 rfl rfl (fun w_ hC_ => hmac_b _ k (d32 l) hC_ hk (by have := d32_len l; omega)) ?_
      refine WQ.val (fun w_ hC_ => Runs.move rfl) rfl ?_
      refine WQ.val (fun w_ hC_ => Runs.move rfl) rfl ?_
      refine WQ.val (fun w_ hC_ => Runs.lssl_lo (n := l.length - 32) rfl rfl rfl (by omega) (by omega)) rfl ?_
      refine WQ.call can40 rfl rfl (fun w_ hC_ => same_b _ _ (t32 l) hC_ (by have := hmac_len k (d32 l); omega)) ?_
      refine WQ.val (fun w_ hC_ => Runs.not rfl) rfl ?_
      refine WQ.val (fun w_ hC_ => Runs.assign rfl) rfl ?_
      refine WQ.fin ?_
      intro w4 h4
      refine WN.thn ?_
      refine WC.cond rfl (fun c5 => ?_) (fun c5 => ?_)
      · try simp only [decide_eq_true_eq, decide_eq_false_iff_not, Bool.not_eq_true', Bool.not_eq_false', Bool.and_eq_true, Int.not_lt, Int.not_le] at c5
        first
        | (exfalso; omega)
        | skip
          refine WC.seq ?_
          refine WC.reg ?_
          refine WL.v (Runs.build (vs := []) (cells := #[Vi 0, Vi 0, Vi 0, Vi 0, Vi 0, .slice none 0 0, Vi 0]) rfl (by kernel_rfl)) rfl ?_
          refine WL.storeAll h4 0 rfl rfl rfl inf24 rfl rfl rfl (Free.zero _) ?_
          intro  w6 h6
          try simp only [List.set_cons_zero, List.set_cons_succ, List.eraseIdx_cons_zero, List.eraseIdx_cons_succ] at h6
          refine WL.v (Runs.assign rfl) rfl ?_
          refine WL.nil ?_
          refine WN.thn ?_
          refine WC.ret ?_
          have e9 : openM k l = (C0, 7) := openM_n (by omega) (by simpa [t32] using c5)
          exact retB rfl (v := .agg #[Vi 0, Vi 0, Vi 0, Vi 0, Vi 0, .slice none 0 0, Vi 0]) ⟨_, rfl, run_loadVarA (vs := [Vi 0, Vi 0, Vi 0, Vi 0, Vi 0, .slice none 0 0, Vi 0]) Try.underlying24 rfl inf24 rfl (fun j v hv => by rw [add_mk, Nat.zero_add]; exact h6.ocell (i := 0) rfl (by simpa using hv))⟩ (show lk _ _ = _ from rfl) ⟨F, none, 0, Le.refl F, by rw [e9]; rfl, by rw [e9]; exact .inl rfl, (h6.drop 0)⟩
      · try simp only [decide_eq_true_eq, decide_eq_false_iff_not, Bool.not_eq_true', Bool.not_eq_false', Bool.and_eq_true, Int.not_lt, Int.not_le] at c5
        first
        | (exfalso; omega)
        | skip
          refine WC.skip ?_
          refine WN.blk ?_
          refine WN.thn ?_
          refine WC.seq ?_
          refine WC.reg ?_
          refine WL.v (Runs.move rfl) rfl ?_
          refine WL.v (Runs.move rfl) rfl ?_
          refine WL.v (Runs.lssl_hi (m := l.length - 32) rfl rfl rfl (by omega) (by omega)) rfl ?_
          refine WL.call can10 rfl rfl (decode_c _ (d32 l) h4 (by have := d32_len l; omega)) ?_
          rintro _ w7 ⟨G, A1, cap1, hG, rfl, hR1, h7⟩
          refine ⟨_, rfl, ?_⟩
          refine WL.v (Runs.extract rfl rfl) rfl ?_
          refine WL.v (Runs.extract rfl rfl) rfl ?_
          refine WL.storeAll h7 0 rfl rfl rfl inf24 rfl rfl rfl (Free.zero _) ?_
          intro  w8 h8
          try simp only [List.set_cons_zero, List.set_cons_succ, List.eraseIdx_cons_zero, List.eraseIdx_cons_succ] at h8
          refine WL.v (Runs.assign rfl) rfl ?_
          refine WL.nil ?_
          refine WN.thn ?_
          refine WC.ret ?_
          have e9 : openM k l = decM (d32 l) := openM_y (by omega) (by simpa [t32] using c5)
          exact retB rfl (v := .agg #[Vi (decM (d32 l)).1.jb, Vi (decM (d32 l)).1.ep, Vi (decM (d32 l)).1.st, Vi (decM (d32 l)).1.fr, Vi (decM (d32 l)).1.un, .slice A1 (decM (d32 l)).1.nd.length cap1, Vi (decM (d32 l)).1.co]) ⟨_, rfl, run_loadVarA (vs := [Vi (decM (d32 l)).1.jb, Vi (decM (d32 l)).1.ep, Vi (decM (d32 l)).1.st, Vi (decM (d32 l)).1.fr, Vi (decM (d32 l)).1.un, .slice A1 (decM (d32 l)).1.nd.length cap1, Vi (decM (d32 l)).1.co]) Try.underlying24 rfl inf24 rfl (fun j v hv => by rw [add_mk, Nat.zero_add]; exact h8.ocell (i := 0) rfl (by simpa using hv))⟩ (show lk _ _ = _ from rfl) ⟨G, A1, cap1, hG, by rw [e9]; rfl, by rw [e9]; exact hR1, (h8.drop 0)⟩
set_option maxRecDepth 100000 in
set_option maxHeartbeats 1000000 in
theorem qopen_c {W : World} {F : Snap} {cs : List Res} (w : World) (k l : List UInt8) (h : St W F cs w) (hk : k.length ≤ 900000) (hl : l.length ≤ 100000) : Calls Try.prog 18 #[.string (bs k), .string (bs l)] w fun r w' => ∃ G A cap, Le F G ∧ r = .returned (.tuple #[(openM k l).1.val A cap, Vi (openM k l).2]) ∧ RdS (Kd.one Vi) G A (openM k l).1.nd ∧ St W G cs w'  := by
  refine enter (P := Try.prog) (args := [.string (bs k), .string (bs l)]) Try.func18 rfl rfl rfl ?_
  refine WC.seq ?_
  refine WC.reg ?_
  refine WL.alloc' rfl h inf24 ?_
  intro b4 w1 h1
  refine WL.v (Runs.assign rfl) rfl ?_
  refine WL.nil ?_
  refine WN.thn ?_
  refine WC.seq ?_
  refine WC.seq ?_
  refine WC.reg ?_
  refine WL.v (Runs.move rfl) rfl ?_
  refine WL.v (Runs.intT (n := (l.length : Int)) (Runs.slen Try.underlying9 rfl rfl) rfl) rfl ?_
  refine WL.v (Runs.lss rfl rfl) rfl ?_
  refine WL.nil ?_
  refine WN.thn ?_
  refine WC.cond rfl (fun c2 => ?_) (fun c2 => ?_)
  · try simp only [decide_eq_true_eq, decide_eq_false_iff_not, Bool.not_eq_true', Bool.not_eq_false', Bool.and_eq_true, Int.not_lt, Int.not_le] at c2
    first
    | (exfalso; omega)
    | skip
      refine WC.seq ?_
      refine WC.reg ?_
      refine WL.v (Runs.build (vs := []) (cells := #[Vi 0, Vi 0, Vi 0, Vi 0, Vi 0, .slice none 0 0, Vi 0]) rfl (by kernel_rfl)) rfl ?_
      refine WL.storeAll h1 0 rfl rfl rfl inf24 rfl rfl rfl (Free.zero _) ?_
      intro  w3 h3
      try simp only [List.set_cons_zero, List.set_cons_succ, List.eraseIdx_cons_zero, List.eraseIdx_cons_succ] at h3
      refine WL.v (Runs.assign rfl) rfl ?_
      refine WL.nil ?_
      refine WN.thn ?_
      refine WC.ret ?_
      have e9 : openM k l = (C0, 2) := if_pos (by omega)
      exact retB rfl (v := .agg #[Vi 0, Vi 0, Vi 0, Vi 0, Vi 0, .slice none 0 0, Vi 0]) ⟨_, rfl, run_loadVarA (vs := [Vi 0, Vi 0, Vi 0, Vi 0, Vi 0, .slice none 0 0, Vi 0]) Try.underlying24 rfl inf24 rfl (fun j v hv => by rw [add_mk, Nat.zero_add]; exact h3.ocell (i := 0) rfl (by simpa using hv))⟩ (show lk _ _ = _ from rfl) ⟨F, none, 0, Le.refl F, by rw [e9]; rfl, by rw [e9]; exact .inl rfl, (h3.drop 0)⟩
  · try simp only [decide_eq_true_eq, decide_eq_false_iff_not, Bool.not_eq_true', Bool.not_eq_false', Bool.and_eq_true, Int.not_lt, Int.not_le] at c2
    first
    | (exfalso; omega)
    | skip
      refine WC.skip ?_
      refine WN.thn ?_
      refine WC.seq ?_
      refine WC.reg ?_
      refine WL.v (Runs.move rfl) rfl ?_
      refine WL.v (Runs.intT (n := (l.length : Int)) (Runs.slen Try.underlying9 rfl rfl) rfl) rfl ?_
      refine WL.v (Runs.subn rfl rfl (by omega)) rfl ?_
      refine WL.v (Runs.assign rfl) rfl ?_
      refine WL.nil ?_
      refine WN.thn ?_
      refine WC.seq ?_
      refine WC.seq ?_
      refine WC.qreg (C := fun w_ => St W F _ w_) mixed (by kernel_rfl) (h1.drew) ?_
      refine WQ.val (fun w_ hC_ => Runs.move rfl) rfl ?_
      refine WQ.val (fun w_ hC_ => Runs.move rfl) rfl ?_
      refine WQ.val (fun w_ hC_ => Runs.move rfl) rfl ?_
      refine WQ.val (fun w_ hC_ => Runs.lssl_hi (m := l.length - 32) rfl rfl rfl (by omega) (by omega)) rfl ?_
      refine WQ.call can42 rfl rfl (fun w_ hC_ => qhmac_b _ k (d32 l) hC_ hk (by have := d32_len l; omega)) ?_
      refine WQ.val (fun w_ hC_ => Runs.move rfl) rfl ?_
      refine WQ.val (fun w_ hC_ => Runs.move rfl) rfl ?_
      refine WQ.val (fun w_ hC_ => Runs.lssl_lo (n := l.length - 32) rfl rfl rfl (by omega) (by omega)) rfl ?_
      refine WQ.val (fun w_ hC_ => Runs.lsneq rfl rfl) rfl ?_
      refine WQ.fin ?_
      intro w4 h4
      refine WN.thn ?_
      refine WC.cond rfl (fun c5 => ?_) (fun c5 => ?_)
      · try simp only [decide_eq_true_eq, decide_eq_false_iff_not, Bool.not_eq_true', Bool.not_eq_false', Bool.and_eq_true, Int.not_lt, Int.not_le] at c5
        first
        | (exfalso; omega)
        | skip
          refine WC.seq ?_
          refine WC.reg ?_
          refine WL.v (Runs.build (vs := []) (cells := #[Vi 0, Vi 0, Vi 0, Vi 0, Vi 0, .slice none 0 0, Vi 0]) rfl (by kernel_rfl)) rfl ?_
          refine WL.storeAll h4 0 rfl rfl rfl inf24 rfl rfl rfl (Free.zero _) ?_
          intro  w6 h6
          try simp only [List.set_cons_zero, List.set_cons_succ, List.eraseIdx_cons_zero, List.eraseIdx_cons_succ] at h6
          refine WL.v (Runs.assign rfl) rfl ?_
          refine WL.nil ?_
          refine WN.thn ?_
          refine WC.ret ?_
          have e9 : openM k l = (C0, 7) := openM_n (by omega) (by simpa [t32] using c5)
          exact retB rfl (v := .agg #[Vi 0, Vi 0, Vi 0, Vi 0, Vi 0, .slice none 0 0, Vi 0]) ⟨_, rfl, run_loadVarA (vs := [Vi 0, Vi 0, Vi 0, Vi 0, Vi 0, .slice none 0 0, Vi 0]) Try.underlying24 rfl inf24 rfl (fun j v hv => by rw [add_mk, Nat.zero_add]; exact h6.ocell (i := 0) rfl (by simpa using hv))⟩ (show lk _ _ = _ from rfl) ⟨F, none, 0, Le.refl F, by rw [e9]; rfl, by rw [e9]; exact .inl rfl, (h6.drop 0)⟩
      · try simp only [decide_eq_true_eq, decide_eq_false_iff_not, Bool.not_eq_true', Bool.not_eq_false', Bool.and_eq_true, Int.not_lt, Int.not_le] at c5
        first
        | (exfalso; omega)
        | skip
          refine WC.skip ?_
          refine WN.thn ?_
          refine WC.seq ?_
          refine WC.reg ?_
          refine WL.v (Runs.move rfl) rfl ?_
          refine WL.v (Runs.move rfl) rfl ?_
          refine WL.v (Runs.lssl_hi (m := l.length - 32) rfl rfl rfl (by omega) (by omega)) rfl ?_
          refine WL.call can11 rfl rfl (qdecode_c _ (d32 l) h4 (by have := d32_len l; omega)) ?_
          rintro _ w7 ⟨G, A1, cap1, hG, rfl, hR1, h7⟩
          refine ⟨_, rfl, ?_⟩
          refine WL.v (Runs.extract rfl rfl) rfl ?_
          refine WL.v (Runs.extract rfl rfl) rfl ?_
          refine WL.storeAll h7 0 rfl rfl rfl inf24 rfl rfl rfl (Free.zero _) ?_
          intro  w8 h8
          try simp only [List.set_cons_zero, List.set_cons_succ, List.eraseIdx_cons_zero, List.eraseIdx_cons_succ] at h8
          refine WL.v (Runs.assign rfl) rfl ?_
          refine WL.nil ?_
          refine WN.thn ?_
          refine WC.ret ?_
          have e9 : openM k l = decM (d32 l) := openM_y (by omega) (by simpa [t32] using c5)
          exact retB rfl (v := .agg #[Vi (decM (d32 l)).1.jb, Vi (decM (d32 l)).1.ep, Vi (decM (d32 l)).1.st, Vi (decM (d32 l)).1.fr, Vi (decM (d32 l)).1.un, .slice A1 (decM (d32 l)).1.nd.length cap1, Vi (decM (d32 l)).1.co]) ⟨_, rfl, run_loadVarA (vs := [Vi (decM (d32 l)).1.jb, Vi (decM (d32 l)).1.ep, Vi (decM (d32 l)).1.st, Vi (decM (d32 l)).1.fr, Vi (decM (d32 l)).1.un, .slice A1 (decM (d32 l)).1.nd.length cap1, Vi (decM (d32 l)).1.co]) Try.underlying24 rfl inf24 rfl (fun j v hv => by rw [add_mk, Nat.zero_add]; exact h8.ocell (i := 0) rfl (by simpa using hv))⟩ (show lk _ _ = _ from rfl) ⟨G, A1, cap1, hG, by rw [e9]; rfl, by rw [e9]; exact hR1, (h8.drop 0)⟩
end Cr
end Go.Proofs.Ytbkfjedecepfoaa
