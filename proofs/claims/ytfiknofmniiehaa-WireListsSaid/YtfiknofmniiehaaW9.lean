/- Walks of package wire: a message out of bytes. -/
import Derived.Test.YtfiknofmniiehaaW8
namespace Go.Proofs.Ytfiknofmniiehaa
open Go Go.RowKit B
set_option linter.unusedVariables false
set_option linter.unusedSimpArgs false
namespace Wir

theorem can20 : B.Can Try.prog 20 := ⟨_, Try.func20, by kernel_rfl, rfl⟩   -- roundhouse/wire.Read
theorem can21 : B.Can Try.prog 21 := ⟨_, Try.func21, by kernel_rfl, rfl⟩   -- (*roundhouse/wire.Reader).Num
theorem can23 : B.Can Try.prog 23 := ⟨_, Try.func23, by kernel_rfl, rfl⟩   -- (*roundhouse/wire.Reader).Text
theorem can28 : B.Can Try.prog 28 := ⟨_, Try.func28, by kernel_rfl, rfl⟩   -- (*roundhouse/wire.Reader).End
theorem rdN_bnd (l : List UInt8) (p : Nat) (e : Int) : (rdN l p e).1 ≤ 1099511627776 := by
  unfold rdN
  split
  · simp
  · split
    · rename_i h
      show rval l p ≤ _
      unfold rerr at h
      unfold rval
      split at h
      · cases h
      · split at h
        · cases h
        · split at h
          · cases h
          · split at h
            · cases h
            · rename_i h4
              omega
    · simp
theorem readN_c {W : World} {F : Snap} {cs : List Res} (w : World) {rb p : Nat} {e : Int} {l : List UInt8} (h : St W F ([(rb, .cells #[.string (bs l), Vi (p), Vi (e)] 61 (0, 0))] :: cs) w) (hl : l.length ≤ 100000) (hp : p ≤ l.length) : Calls Try.prog 21 #[.pointer (some ⟨rb, 0, none⟩)] w fun r w' => r = .returned (Vi ((rdN l p e).1 : Nat)) ∧ St W F ([(rb, .cells #[.string (bs l), Vi (((rdN l p e).2.1 : Nat)), Vi ((rdN l p e).2.2)] 61 (0, 0))] :: cs) w' := by
  by_cases he : e = 0
  · subst he
    exact readN_on w h (i := 0) rfl hl hp
  · have e1 : rdN l p e = (0, p, e) := by unfold rdN; rw [if_pos he]
    rw [e1]
    exact readN_off w h (i := 0) rfl he
theorem readT_c {W : World} {F : Snap} {cs : List Res} (w : World) {rb p : Nat} {e : Int} {l : List UInt8} (h : St W F ([(rb, .cells #[.string (bs l), Vi (p), Vi (e)] 61 (0, 0))] :: cs) w) (hl : l.length ≤ 100000) (hp : p ≤ l.length) : Calls Try.prog 23 #[.pointer (some ⟨rb, 0, none⟩)] w fun r w' => r = .returned (.string (bs (rdT l p e).1)) ∧ St W F ([(rb, .cells #[.string (bs l), Vi (((rdT l p e).2.1 : Nat)), Vi ((rdT l p e).2.2)] 61 (0, 0))] :: cs) w' := by
  by_cases he : e = 0
  · subst he
    exact readT_on w h (i := 0) rfl hl hp
  · have e1 : rdT l p e = ([], p, e) := by unfold rdT; rw [if_pos he]
    rw [e1]
    exact readT_off w h (i := 0) rfl he
def D0 (l : List UInt8) : Nat × Nat × Int := rdN l 0 0
def D1 (l : List UInt8) : Nat × Nat × Int := rdN l (D0 l).2.1 (D0 l).2.2
def D2 (l : List UInt8) : Nat × Nat × Int := rdN l (D1 l).2.1 (D1 l).2.2
def D3 (l : List UInt8) : Nat × Nat × Int := rdN l (D2 l).2.1 (D2 l).2.2
def D4 (l : List UInt8) : Nat × Nat × Int := rdN l (D3 l).2.1 (D3 l).2.2
def D5 (l : List UInt8) : Nat × Nat × Int := rdN l (D4 l).2.1 (D4 l).2.2
def D6 (l : List UInt8) : Nat × Nat × Int := rdN l (D5 l).2.1 (D5 l).2.2
def DT (l : List UInt8) := rdT l (D6 l).2.1 (D6 l).2.2
def decM (l : List UInt8) : M := ⟨(D0 l).1, ((D1 l).1 : Int) - 1, ((D2 l).1 : Int) - 1, (D3 l).1, (D4 l).1, (D5 l).1, (D6 l).1, (DT l).1⟩
def decE (l : List UInt8) : Int := (rdEnd l (DT l).2.1 (DT l).2.2).1
def M0 : M := ⟨0, 0, 0, 0, 0, 0, 0, []⟩
def decB (l : List UInt8) : M × Int := if decE l ≠ 0 then (M0, decE l) else if mayM (decM l) then (decM l, 0) else (M0, 5)
set_option maxRecDepth 100000 in
set_option maxHeartbeats 4000000 in
theorem dec_c {W : World} {F : Snap} {cs : List Res} (w : World) (l : List UInt8) (h : St W F cs w) (hl : l.length ≤ 100000) : Calls Try.prog 18 #[.string (bs l)] w fun r w' => r = .returned (.tuple #[(decB l).1.val, Vi (decB l).2]) ∧ St W F cs w'  := by
  refine enter (P := Try.prog) (args := [.string (bs l)]) Try.func18 rfl rfl rfl ?_
  refine WC.seq ?_
  refine WC.reg ?_
  refine WL.alloc' rfl h inf24 ?_
  intro b2 w1 h1
  refine WL.v (Runs.assign rfl) rfl ?_
  refine WL.nil ?_
  refine WN.thn ?_
  refine WC.seq ?_
  refine WC.reg ?_
  refine WL.v (Runs.move rfl) rfl ?_
  refine WL.call can20 rfl rfl (read_c _ l h1) ?_
  rintro _ w2 ⟨rb, rfl, h2⟩
  refine ⟨_, rfl, ?_⟩
  refine WL.v (Runs.assign rfl) rfl ?_
  refine WL.nil ?_
  refine WN.thn ?_
  refine WC.seq ?_
  refine WC.reg ?_
  refine WL.v (Runs.move rfl) rfl ?_
  refine WL.call can21 rfl rfl (readN_c _ (p := 0) (e := 0) h2 hl (by omega)) ?_
  rintro _ w3 ⟨rfl, h3⟩
  refine ⟨_, rfl, ?_⟩
  replace h3 : St W F ([(rb, .cells #[.string (bs l), Vi (((D0 l).2.1 : Nat)), Vi ((D0 l).2.2)] 61 (0, 0))] :: [(b2, .cells #[Vi 0, Vi 0, Vi 0, Vi 0, Vi 0, Vi 0, Vi 0, .string ⟨#[]⟩] 24 (0, 0))] :: cs) w3 := h3
  have hp0 : (D0 l).2.1 ≤ l.length := rdN_le _ (by omega)
  have hb0 : (D0 l).1 ≤ 1099511627776 := rdN_bnd _ _ _
  refine WL.v (Runs.move rfl) rfl ?_
  refine WL.call can21 rfl rfl (readN_c _ (p := (D0 l).2.1) (e := (D0 l).2.2) h3 hl hp0) ?_
  rintro _ w4 ⟨rfl, h4⟩
  refine ⟨_, rfl, ?_⟩
  replace h4 : St W F ([(rb, .cells #[.string (bs l), Vi (((D1 l).2.1 : Nat)), Vi ((D1 l).2.2)] 61 (0, 0))] :: [(b2, .cells #[Vi 0, Vi 0, Vi 0, Vi 0, Vi 0, Vi 0, Vi 0, .string ⟨#[]⟩] 24 (0, 0))] :: cs) w4 := h4
  have hp1 : (D1 l).2.1 ≤ l.length := rdN_le _ hp0
  have hb1 : (D1 l).1 ≤ 1099511627776 := rdN_bnd _ _ _
  refine WL.v (Runs.subn (m := ((D1 l).1 : Int)) rfl rfl (by omega)) rfl ?_
  refine WL.v (Runs.move rfl) rfl ?_
  refine WL.call can21 rfl rfl (readN_c _ (p := (D1 l).2.1) (e := (D1 l).2.2) h4 hl hp1) ?_
  rintro _ w5 ⟨rfl, h5⟩
  refine ⟨_, rfl, ?_⟩
  replace h5 : St W F ([(rb, .cells #[.string (bs l), Vi (((D2 l).2.1 : Nat)), Vi ((D2 l).2.2)] 61 (0, 0))] :: [(b2, .cells #[Vi 0, Vi 0, Vi 0, Vi 0, Vi 0, Vi 0, Vi 0, .string ⟨#[]⟩] 24 (0, 0))] :: cs) w5 := h5
  have hp2 : (D2 l).2.1 ≤ l.length := rdN_le _ hp1
  have hb2 : (D2 l).1 ≤ 1099511627776 := rdN_bnd _ _ _
  refine WL.v (Runs.subn (m := ((D2 l).1 : Int)) rfl rfl (by omega)) rfl ?_
  refine WL.v (Runs.move rfl) rfl ?_
  refine WL.call can21 rfl rfl (readN_c _ (p := (D2 l).2.1) (e := (D2 l).2.2) h5 hl hp2) ?_
  rintro _ w6 ⟨rfl, h6⟩
  refine ⟨_, rfl, ?_⟩
  replace h6 : St W F ([(rb, .cells #[.string (bs l), Vi (((D3 l).2.1 : Nat)), Vi ((D3 l).2.2)] 61 (0, 0))] :: [(b2, .cells #[Vi 0, Vi 0, Vi 0, Vi 0, Vi 0, Vi 0, Vi 0, .string ⟨#[]⟩] 24 (0, 0))] :: cs) w6 := h6
  have hp3 : (D3 l).2.1 ≤ l.length := rdN_le _ hp2
  have hb3 : (D3 l).1 ≤ 1099511627776 := rdN_bnd _ _ _
  refine WL.v (Runs.move rfl) rfl ?_
  refine WL.call can21 rfl rfl (readN_c _ (p := (D3 l).2.1) (e := (D3 l).2.2) h6 hl hp3) ?_
  rintro _ w7 ⟨rfl, h7⟩
  refine ⟨_, rfl, ?_⟩
  replace h7 : St W F ([(rb, .cells #[.string (bs l), Vi (((D4 l).2.1 : Nat)), Vi ((D4 l).2.2)] 61 (0, 0))] :: [(b2, .cells #[Vi 0, Vi 0, Vi 0, Vi 0, Vi 0, Vi 0, Vi 0, .string ⟨#[]⟩] 24 (0, 0))] :: cs) w7 := h7
  have hp4 : (D4 l).2.1 ≤ l.length := rdN_le _ hp3
  have hb4 : (D4 l).1 ≤ 1099511627776 := rdN_bnd _ _ _
  refine WL.v (Runs.move rfl) rfl ?_
  refine WL.call can21 rfl rfl (readN_c _ (p := (D4 l).2.1) (e := (D4 l).2.2) h7 hl hp4) ?_
  rintro _ w8 ⟨rfl, h8⟩
  refine ⟨_, rfl, ?_⟩
  replace h8 : St W F ([(rb, .cells #[.string (bs l), Vi (((D5 l).2.1 : Nat)), Vi ((D5 l).2.2)] 61 (0, 0))] :: [(b2, .cells #[Vi 0, Vi 0, Vi 0, Vi 0, Vi 0, Vi 0, Vi 0, .string ⟨#[]⟩] 24 (0, 0))] :: cs) w8 := h8
  have hp5 : (D5 l).2.1 ≤ l.length := rdN_le _ hp4
  have hb5 : (D5 l).1 ≤ 1099511627776 := rdN_bnd _ _ _
  refine WL.v (Runs.move rfl) rfl ?_
  refine WL.call can21 rfl rfl (readN_c _ (p := (D5 l).2.1) (e := (D5 l).2.2) h8 hl hp5) ?_
  rintro _ w9 ⟨rfl, h9⟩
  refine ⟨_, rfl, ?_⟩
  replace h9 : St W F ([(rb, .cells #[.string (bs l), Vi (((D6 l).2.1 : Nat)), Vi ((D6 l).2.2)] 61 (0, 0))] :: [(b2, .cells #[Vi 0, Vi 0, Vi 0, Vi 0, Vi 0, Vi 0, Vi 0, .string ⟨#[]⟩] 24 (0, 0))] :: cs) w9 := h9
  have hp6 : (D6 l).2.1 ≤ l.length := rdN_le _ hp5
  have hb6 : (D6 l).1 ≤ 1099511627776 := rdN_bnd _ _ _
  refine WL.v (Runs.move rfl) rfl ?_
  refine WL.call can23 rfl rfl (readT_c _ (p := (D6 l).2.1) (e := (D6 l).2.2) h9 hl hp6) ?_
  rintro _ w10 ⟨rfl, h10⟩
  refine ⟨_, rfl, ?_⟩
  replace h10 : St W F ([(rb, .cells #[.string (bs l), Vi (((DT l).2.1 : Nat)), Vi ((DT l).2.2)] 61 (0, 0))] :: [(b2, .cells #[Vi 0, Vi 0, Vi 0, Vi 0, Vi 0, Vi 0, Vi 0, .string ⟨#[]⟩] 24 (0, 0))] :: cs) w10 := h10
  refine WL.v (Runs.build (cells := #[Vi ((D0 l).1 : Nat), Vi (((D1 l).1 : Int) - 1), Vi (((D2 l).1 : Int) - 1), Vi ((D3 l).1 : Nat), Vi ((D4 l).1 : Nat), Vi ((D5 l).1 : Nat), Vi ((D6 l).1 : Nat), .string (bs (DT l).1)]) rfl (by kernel_rfl)) rfl ?_
  refine WL.alloc' rfl h10 inf24 ?_
  intro b5 w11 h11
  refine WL.storeAll h11 0 rfl rfl rfl inf24 rfl rfl rfl (Free.zero _) ?_
  intro  w12 h12
  try simp only [List.set_cons_zero, List.set_cons_succ, List.eraseIdx_cons_zero, List.eraseIdx_cons_succ] at h12
  refine WL.nil ?_
  refine WN.thn ?_
  refine WC.seq ?_
  refine WC.seq ?_
  refine WC.reg ?_
  refine WL.v (Runs.move rfl) rfl ?_
  refine WL.call can28 rfl rfl (rend_c _ (p := (DT l).2.1) (e := (DT l).2.2) h12 (i := 1) rfl) ?_
  rintro _ w13 ⟨rfl, h13⟩
  refine ⟨_, rfl, ?_⟩
  refine WL.v (Runs.move rfl) rfl ?_
  refine WL.v (Runs.extract rfl rfl) rfl ?_
  refine WL.v (Runs.extract rfl rfl) rfl ?_
  refine WL.v (Runs.assign rfl) rfl ?_
  refine WL.v (Runs.assign rfl) rfl ?_
  refine WL.nil ?_
  refine WN.thn ?_
  refine WC.seq ?_
  by_cases hde : decE l = 0
  · skip
    refine WC.reg ?_
    refine WL.v (Runs.move rfl) rfl ?_
    refine WL.v (Runs.boolT (c := false) (Runs.neq rfl rfl) (by show (!decide (decE l = 0)) = false; rw [decide_eq_true hde]; rfl)) rfl ?_
    refine WL.nil ?_
    refine WN.thn ?_
    refine WC.condF rfl (rfl) ?_
    refine WC.skip ?_
    refine WN.thn ?_
    refine WC.seq ?_
    refine WC.seq ?_
    by_cases hmy : mayM (decM l)
    · skip
      refine WC.reg ?_
      refine WL.v (Runs.loadAll h13 0 rfl Try.underlying24 rfl inf24 rfl rfl) rfl ?_
      refine WL.call can34 rfl rfl (message_c _ (decM l) h13) ?_
      rintro _ w14 ⟨rfl, h14⟩
      refine ⟨_, rfl, ?_⟩
      refine WL.v (Runs.not rfl) rfl ?_
      refine WL.nil ?_
      refine WN.thn ?_
      refine WC.condF rfl ((by rw [decide_eq_true hmy]; rfl)) ?_
      refine WC.skip ?_
      refine WN.thn ?_
      refine WC.seq ?_
      refine WC.reg ?_
      refine WL.v (Runs.loadAll h14 0 rfl Try.underlying24 rfl inf24 rfl rfl) rfl ?_
      refine WL.storeAll h14 2 rfl rfl rfl inf24 rfl rfl rfl (Free.zero _) ?_
      intro  w15 h15
      try simp only [List.set_cons_zero, List.set_cons_succ, List.eraseIdx_cons_zero, List.eraseIdx_cons_succ] at h15
      refine WL.v (Runs.assign rfl) rfl ?_
      refine WL.nil ?_
      refine WN.thn ?_
      refine WC.ret ?_
      exact retB rfl (v := .agg #[Vi ((D0 l).1 : Nat), Vi (((D1 l).1 : Int) - 1), Vi (((D2 l).1 : Int) - 1), Vi ((D3 l).1 : Nat), Vi ((D4 l).1 : Nat), Vi ((D5 l).1 : Nat), Vi ((D6 l).1 : Nat), .string (bs (DT l).1)]) ⟨_, rfl, run_loadVarA (vs := [Vi ((D0 l).1 : Nat), Vi (((D1 l).1 : Int) - 1), Vi (((D2 l).1 : Int) - 1), Vi ((D3 l).1 : Nat), Vi ((D4 l).1 : Nat), Vi ((D5 l).1 : Nat), Vi ((D6 l).1 : Nat), .string (bs (DT l).1)]) Try.underlying24 rfl inf24 rfl (fun j v hv => by rw [add_mk, Nat.zero_add]; exact h15.ocell (i := 2) rfl (by simpa using hv))⟩ (show lk _ _ = _ from rfl) ⟨by unfold decB; rw [if_neg (by rw [hde]; simp), if_pos hmy]; rfl, ((h15.drop 0).drop 0).drop 0⟩
    · skip
      refine WC.reg ?_
      refine WL.v (Runs.loadAll h13 0 rfl Try.underlying24 rfl inf24 rfl rfl) rfl ?_
      refine WL.call can34 rfl rfl (message_c _ (decM l) h13) ?_
      rintro _ w16 ⟨rfl, h16⟩
      refine ⟨_, rfl, ?_⟩
      refine WL.v (Runs.not rfl) rfl ?_
      refine WL.nil ?_
      refine WN.thn ?_
      refine WC.condT rfl ((by rw [decide_eq_false hmy]; rfl)) ?_
      refine WC.seq ?_
      refine WC.reg ?_
      refine WL.v (Runs.build (vs := []) (cells := #[Vi 0, Vi 0, Vi 0, Vi 0, Vi 0, Vi 0, Vi 0, .string ⟨#[]⟩]) rfl (by kernel_rfl)) rfl ?_
      refine WL.storeAll h16 2 rfl rfl rfl inf24 rfl rfl rfl (Free.zero _) ?_
      intro  w17 h17
      try simp only [List.set_cons_zero, List.set_cons_succ, List.eraseIdx_cons_zero, List.eraseIdx_cons_succ] at h17
      refine WL.v (Runs.assign rfl) rfl ?_
      refine WL.nil ?_
      refine WN.thn ?_
      refine WC.ret ?_
      exact retB rfl (v := .agg #[Vi 0, Vi 0, Vi 0, Vi 0, Vi 0, Vi 0, Vi 0, .string ⟨#[]⟩]) ⟨_, rfl, run_loadVarA (vs := [Vi 0, Vi 0, Vi 0, Vi 0, Vi 0, Vi 0, Vi 0, .string ⟨#[]⟩]) Try.underlying24 rfl inf24 rfl (fun j v hv => by rw [add_mk, Nat.zero_add]; exact h17.ocell (i := 2) rfl (by simpa using hv))⟩ (show lk _ _ = _ from rfl) ⟨by unfold decB; rw [if_neg (by rw [hde]; simp), if_neg hmy]; rfl, ((h17.drop 0).drop 0).drop 0⟩
  · skip
    refine WC.reg ?_
    refine WL.v (Runs.move rfl) rfl ?_
    refine WL.v (Runs.boolT (c := true) (Runs.neq rfl rfl) (by show (!decide (decE l = 0)) = true; rw [decide_eq_false hde]; rfl)) rfl ?_
    refine WL.nil ?_
    refine WN.thn ?_
    refine WC.condT rfl (rfl) ?_
    refine WC.seq ?_
    refine WC.reg ?_
    refine WL.v (Runs.build (vs := []) (cells := #[Vi 0, Vi 0, Vi 0, Vi 0, Vi 0, Vi 0, Vi 0, .string ⟨#[]⟩]) rfl (by kernel_rfl)) rfl ?_
    refine WL.v (Runs.move rfl) rfl ?_
    refine WL.storeAll h13 2 rfl rfl rfl inf24 rfl rfl rfl (Free.zero _) ?_
    intro  w18 h18
    try simp only [List.set_cons_zero, List.set_cons_succ, List.eraseIdx_cons_zero, List.eraseIdx_cons_succ] at h18
    refine WL.v (Runs.assign rfl) rfl ?_
    refine WL.nil ?_
    refine WN.thn ?_
    refine WC.ret ?_
    exact retB rfl (v := .agg #[Vi 0, Vi 0, Vi 0, Vi 0, Vi 0, Vi 0, Vi 0, .string ⟨#[]⟩]) ⟨_, rfl, run_loadVarA (vs := [Vi 0, Vi 0, Vi 0, Vi 0, Vi 0, Vi 0, Vi 0, .string ⟨#[]⟩]) Try.underlying24 rfl inf24 rfl (fun j v hv => by rw [add_mk, Nat.zero_add]; exact h18.ocell (i := 2) rfl (by simpa using hv))⟩ (show lk _ _ = _ from rfl) ⟨by unfold decB; rw [if_pos hde]; rfl, ((h18.drop 0).drop 0).drop 0⟩
end Wir
end Go.Proofs.Ytfiknofmniiehaa
