/- The bytes of a record, and the record of bytes. -/
import Derived.Test.YthejglgnoingfaaProg
import Derived.KernelRfl
import Derived.Test.YthejglgnoingfaaMBaseAH
import Derived.Test.YthejglgnoingfaaMW20
import Derived.Test.YthejglgnoingfaaMR13
namespace Go.Proofs.Ythejglgnoingfaa
open Go Go.RowKit B
set_option linter.unusedVariables false
set_option linter.unusedSimpArgs false
namespace Rc
open Wir (numB listB rdN rdL rdEnd)

theorem can32 : B.Can Try.prog 32 := ⟨_, Try.func32, by kernel_rfl, rfl⟩   -- roundhouse/wire.Read
theorem can33 : B.Can Try.prog 33 := ⟨_, Try.func33, by kernel_rfl, rfl⟩   -- (*roundhouse/wire.Reader).Num
theorem can34 : B.Can Try.prog 34 := ⟨_, Try.func34, by kernel_rfl, rfl⟩   -- (*roundhouse/wire.Reader).List
theorem can35 : B.Can Try.prog 35 := ⟨_, Try.func35, by kernel_rfl, rfl⟩   -- (*roundhouse/wire.Reader).End
theorem can37 : B.Can Try.prog 37 := ⟨_, Try.func37, by kernel_rfl, rfl⟩   -- (*roundhouse/roundhouseref02.Reader).Num
theorem can38 : B.Can Try.prog 38 := ⟨_, Try.func38, by kernel_rfl, rfl⟩   -- (*roundhouse/roundhouseref02.Reader).List
theorem can39 : B.Can Try.prog 39 := ⟨_, Try.func39, by kernel_rfl, rfl⟩   -- (*roundhouse/roundhouseref02.Reader).End
theorem can41 : B.Can Try.prog 41 := ⟨_, Try.func41, by kernel_rfl, rfl⟩   -- roundhouse/wire.Num
theorem can42 : B.Can Try.prog 42 := ⟨_, Try.func42, by kernel_rfl, rfl⟩   -- roundhouse/wire.List
theorem can43 : B.Can Try.prog 43 := ⟨_, Try.func43, by kernel_rfl, rfl⟩   -- roundhouse/roundhouseref02.Num
theorem can44 : B.Can Try.prog 44 := ⟨_, Try.func44, by kernel_rfl, rfl⟩   -- roundhouse/roundhouseref02.List
def numsR (r : R) : List Int := [r.kd, r.jb, r.ep, r.st, r.ar]
def encR (r : R) : List UInt8 := if okR r then (numsR r).flatMap numB ++ listB r.ls else []
theorem encR_y {r : R} (h : okR r) : encR r = (numsR r).flatMap numB ++ listB r.ls := if_pos h
theorem encR_n {r : R} (h : ¬ okR r) : encR r = [] := if_neg h
theorem nums_at (r : R) {k : Nat} (hk : k < 5) : (#[Vi r.kd, Vi r.jb, Vi r.ep, Vi r.st, Vi r.ar])[k]? = some (Vi ((numsR r).getD k 0)) := by
  have : k = 0 ∨ k = 1 ∨ k = 2 ∨ k = 3 ∨ k = 4 := by omega
  rcases this with rfl | rfl | rfl | rfl | rfl <;> rfl
theorem list_len (xs : List Int) : (listB xs).length ≤ 7 + 7 * xs.length := by
  unfold Wir.listB
  have h1 := Wir.numB_len (xs.length : Int)
  have h2 := Wir.flat_len xs
  split
  · simp
  · split
    · rw [List.length_append]; omega
    · simp
theorem okR_len {r : R} (h : okR r) : r.ls.length ≤ 256 := by
  rcases h.2.2.2 with ⟨_, h⟩ | ⟨_, h⟩
  · exact h.2.2
  · omega
theorem encR_len {r : R} : (encR r).length ≤ 2000 := by
  by_cases h : okR r
  · rw [encR_y h, List.length_append]
    have h1 := list_len r.ls
    have h2 := Wir.flat_len (numsR r)
    have h3 := okR_len h
    have h4 : (numsR r).length = 5 := rfl
    omega
  · rw [encR_n h]; exact Nat.zero_le _
theorem enc_five (r : R) : (numsR r).flatMap numB = numB r.kd ++ (numB r.jb ++ (numB r.ep ++ (numB r.st ++ numB r.ar))) := by
  simp [numsR]
def D0 (l : List UInt8) : Nat × Nat × Int := rdN l 0 0
def D1 (l : List UInt8) : Nat × Nat × Int := rdN l (D0 l).2.1 (D0 l).2.2
def D2 (l : List UInt8) : Nat × Nat × Int := rdN l (D1 l).2.1 (D1 l).2.2
def D3 (l : List UInt8) : Nat × Nat × Int := rdN l (D2 l).2.1 (D2 l).2.2
def D4 (l : List UInt8) : Nat × Nat × Int := rdN l (D3 l).2.1 (D3 l).2.2
def DL (l : List UInt8) : List Int × Nat × Int := rdL l (D4 l).2.1 (D4 l).2.2 256
def decV (l : List UInt8) : R := ⟨(D0 l).1, (D1 l).1, (D2 l).1, (D3 l).1, (D4 l).1, (DL l).1⟩
def decE (l : List UInt8) : Int := (rdEnd l (DL l).2.1 (DL l).2.2).1
def decM (l : List UInt8) : R × Int := if decE l ≠ 0 then (R0, decE l) else if okR (decV l) then (decV l, 0) else (R0, 5)
theorem decM_n {l : List UInt8} (h : decE l = 0) (h2 : ¬ okR (decV l)) : decM l = (R0, 5) := by
  unfold decM
  rw [if_neg (fun hh => hh h), if_neg h2]
theorem decM_y {l : List UInt8} (h : decE l = 0) (h2 : okR (decV l)) : decM l = (decV l, 0) := by
  unfold decM
  rw [if_neg (fun hh => hh h), if_pos h2]
set_option maxRecDepth 100000 in
set_option maxHeartbeats 4000000 in
theorem encode_c {W : World} {F : Snap} {cs : List Res} (w : World) {Al : Option Addr} {cl : Nat} {r : R} (h : St W F cs w) (hl : RdS (Kd.one Vi) F Al r.ls) (hn : r.ls.length ≤ 100000) : Calls Try.prog 13 #[.agg #[Vi r.kd, Vi r.jb, Vi r.ep, Vi r.st, Vi r.ar, .slice Al r.ls.length cl]] w fun e w' => e = .returned (.string (bs (encR r))) ∧ St W F cs w'  := by
  refine enter (P := Try.prog) (args := [.agg #[Vi r.kd, Vi r.jb, Vi r.ep, Vi r.st, Vi r.ar, .slice Al r.ls.length cl]]) Try.func13 rfl rfl rfl ?_
  refine WC.seq (WC.reg ?_)
  refine WL.box rfl h rfl ?_
  intro b1 w1 h1
  refine WL.v (Runs.assign rfl) rfl ?_
  refine WL.nil (WN.thn (WC.seq (WC.seq (WC.reg ?_))))
  refine WL.v (Runs.loadAll h1 0 rfl Try.underlying24 rfl inf24 rfl rfl) rfl ?_
  refine WL.call can36 rfl rfl (may_c _ h1 hl hn) ?_
  rintro _ w2 ⟨rfl, h2⟩
  refine ⟨_, rfl, ?_⟩
  refine WL.v (Runs.not rfl) rfl ?_
  refine WL.nil (WN.thn ?_)
  refine WC.cond rfl (fun c3 => ?_) (fun c3 => ?_)
  · try simp only [dt, df, nt, nf, ba, il, ie] at c3
    first
    | (exfalso; omega)
    | skip
      refine WC.seq (WC.reg ?_)
      refine WL.v (Runs.assign rfl) rfl ?_
      refine WL.nil (WN.thn (WC.ret ?_))
      refine ret1 rfl rfl ⟨?_, h2.drop 0⟩
      rw [encR_n (by simpa using c3)]; rfl
  · try simp only [dt, df, nt, nf, ba, il, ie] at c3
    first
    | (exfalso; omega)
    | skip
      refine WC.skip (WN.thn (WC.seq (WC.reg ?_)))
      refine WL.v (Runs.assign rfl) rfl ?_
      refine WL.nil (WN.thn (WC.seq (WC.seq (WC.reg ?_))))
      refine WL.v (Runs.fld fld24_0 rfl) rfl ?_
      refine WL.v (Runs.load1 Try.underlying3 rfl rfl (h2.ocell (i := 0) rfl rfl)) rfl ?_
      refine WL.v (Runs.fld fld24_1 rfl) rfl ?_
      refine WL.v (Runs.load1 Try.underlying3 rfl rfl (h2.ocell (i := 0) rfl rfl)) rfl ?_
      refine WL.v (Runs.fld fld24_2 rfl) rfl ?_
      refine WL.v (Runs.load1 Try.underlying3 rfl rfl (h2.ocell (i := 0) rfl rfl)) rfl ?_
      refine WL.v (Runs.fld fld24_3 rfl) rfl ?_
      refine WL.v (Runs.load1 Try.underlying3 rfl rfl (h2.ocell (i := 0) rfl rfl)) rfl ?_
      refine WL.v (Runs.fld fld24_4 rfl) rfl ?_
      refine WL.v (Runs.load1 Try.underlying3 rfl rfl (h2.ocell (i := 0) rfl rfl)) rfl ?_
      refine WL.v (Runs.build (vs := [(0, Vi r.kd), (1, Vi r.jb), (2, Vi r.ep), (3, Vi r.st), (4, Vi r.ar)]) (cells := #[Vi r.kd, Vi r.jb, Vi r.ep, Vi r.st, Vi r.ar]) rfl (by kernel_rfl)) rfl ?_
      refine WL.v (Runs.move rfl) rfl ?_
      refine WL.nil (WN.thn (WC.block ?_))
      refine WC.loop (σ := Nat) (fun q_ => [(1, .pointer (some ⟨b1, 0, none⟩)), (3, .string (bs (((numsR r).take q_).flatMap numB))), (19, .agg #[Vi r.kd, Vi r.jb, Vi r.ep, Vi r.st, Vi r.ar]), (20, .int .i64 (q_ : Int))]) (fun q_ w => q_ ≤ 5 ∧ St W F ([(b1, .cells #[Vi r.kd, Vi r.jb, Vi r.ep, Vi r.st, Vi r.ar, .slice Al r.ls.length cl] 24 (0, 0))] :: cs) w) (fun q_ => 5 - q_) (0) (by repeat (first | exact trivial | refine ⟨rfl, ?_⟩)) (⟨Nat.zero_le _, h2⟩) ?_
      rintro k w4 ⟨hk, hL⟩
      try dsimp only at hk hL
      refine WC.sub (s := [(1, .pointer (some ⟨b1, 0, none⟩)), (3, .string (bs (((numsR r).take k).flatMap numB))), (19, .agg #[Vi r.kd, Vi r.jb, Vi r.ep, Vi r.st, Vi r.ar]), (20, .int .i64 (k : Int))]) (by repeat (first | exact trivial | refine ⟨rfl, ?_⟩)) ?_
      have hfl := Wir.flat_len ((numsR r).take k)
      rw [List.length_take, show (numsR r).length = 5 from rfl] at hfl
      refine WC.seq (WC.reg ?_)
      refine WL.v (Runs.lss rfl rfl) rfl ?_
      refine WL.nil (WN.thn (WC.seq ?_))
      refine WC.cond rfl (fun c5 => ?_) (fun c5 => ?_)
      · try simp only [dt, df, nt, nf, ba, il, ie] at c5
        first
        | (exfalso; omega)
        | skip
          refine WC.skip (WN.thn (WC.seq (WC.block (WC.seq (WC.reg ?_)))))
          refine WL.v (Runs.intT (n := (numsR r).getD k 0) (Runs.aggIdx Try.underlying83 Try.underlying3 rfl inf3 rfl rfl (n := k) rfl (by omega) (u := Vi ((numsR r).getD k 0)) (nums_at r (by omega))) rfl) rfl ?_
          refine WL.v (Runs.assign rfl) rfl ?_
          refine WL.nil (WN.thn (WC.reg ?_))
          refine WL.v (Runs.move rfl) rfl ?_
          refine WL.v (Runs.move rfl) rfl ?_
          refine WL.call can41 rfl rfl (Wir.wnum_c _ _ hL) ?_
          rintro _ w6 ⟨rfl, h6⟩
          refine ⟨_, rfl, ?_⟩
          refine WL.v (Runs.lsadd rfl rfl (by have := Wir.numB_len ((numsR r).getD k 0); omega)) rfl ?_
          refine WL.v (Runs.assign rfl) rfl ?_
          refine WL.nil (WN.blk (WN.thn (WC.reg ?_)))
          refine WL.v (Runs.addn rfl rfl (by omega)) rfl ?_
          refine WL.v (Runs.move rfl) rfl ?_
          refine WL.nil ?_
          exact WN.again (k + 1) (by omega) ⟨rfl, (by show some (Value.string _) = some (Value.string _); rw [Wir.flat_take (by show k < 5; omega)]), rfl, rfl, trivial⟩ ⟨by omega, h6⟩
      · try simp only [dt, df, nt, nf, ba, il, ie] at c5
        first
        | (exfalso; omega)
        | skip
          refine WC.exit (WX.thn (WX.cut (WX.hit (WN.thn (WC.seq ?_)))))
          refine WC.reg ?_
          refine WL.v (Runs.move rfl) rfl ?_
          refine WL.v (Runs.fld fld24_5 rfl) rfl ?_
          refine WL.v (Runs.load1 Try.underlying22 rfl rfl (hL.ocell (i := 0) rfl rfl)) rfl ?_
          refine WL.call can42 rfl rfl (Wir.wlist_c _ hL hl hn) ?_
          rintro _ w7 ⟨rfl, h7⟩
          refine ⟨_, rfl, ?_⟩
          refine WL.v (Runs.lsadd rfl rfl (by have := list_len r.ls; omega)) rfl ?_
          refine WL.v (Runs.assign rfl) rfl ?_
          refine WL.nil (WN.thn (WC.ret ?_))
          obtain rfl : k = 5 := by omega
          refine ret1 rfl rfl ⟨?_, h7.drop 0⟩
          rw [encR_y (by simpa using c3)]; rfl
set_option maxRecDepth 100000 in
set_option maxHeartbeats 4000000 in
theorem qencode_c {W : World} {F : Snap} {cs : List Res} (w : World) {Al : Option Addr} {cl : Nat} {r : R} (h : St W F cs w) (hl : RdS (Kd.one Vi) F Al r.ls) (hn : r.ls.length ≤ 100000) : Calls Try.prog 14 #[.agg #[Vi r.kd, Vi r.jb, Vi r.ep, Vi r.st, Vi r.ar, .slice Al r.ls.length cl]] w fun e w' => e = .returned (.string (bs (encR r))) ∧ St W F cs w'  := by
  refine enter (P := Try.prog) (args := [.agg #[Vi r.kd, Vi r.jb, Vi r.ep, Vi r.st, Vi r.ar, .slice Al r.ls.length cl]]) Try.func14 rfl rfl rfl ?_
  refine WC.seq (WC.reg ?_)
  refine WL.box rfl h rfl ?_
  intro b1 w1 h1
  refine WL.v (Runs.assign rfl) rfl ?_
  refine WL.nil (WN.thn (WC.seq (WC.seq (WC.reg ?_))))
  refine WL.v (Runs.loadAll h1 0 rfl Try.underlying24 rfl inf24 rfl rfl) rfl ?_
  refine WL.call can40 rfl rfl (qmay_c _ h1 hl hn) ?_
  rintro _ w2 ⟨rfl, h2⟩
  refine ⟨_, rfl, ?_⟩
  refine WL.v (Runs.not rfl) rfl ?_
  refine WL.nil (WN.thn ?_)
  refine WC.cond rfl (fun c3 => ?_) (fun c3 => ?_)
  · try simp only [dt, df, nt, nf, ba, il, ie] at c3
    first
    | (exfalso; omega)
    | skip
      refine WC.seq (WC.reg ?_)
      refine WL.v (Runs.assign rfl) rfl ?_
      refine WL.nil (WN.thn (WC.ret ?_))
      refine ret1 rfl rfl ⟨?_, h2.drop 0⟩
      rw [encR_n (by simpa using c3)]; rfl
  · try simp only [dt, df, nt, nf, ba, il, ie] at c3
    first
    | (exfalso; omega)
    | skip
      refine WC.skip (WN.thn (WC.seq ?_))
      refine WC.eregK h2 h2 (fun s_ => ([] : List Nat).any (Nat.beq s_)) mixed (by kernel_rfl) (fun hx => ?_)
      intro w4 h4
      refine WE.p0 hx 0 (by rfl) (fun w_ => Runs.fld fld24_0 rfl) rfl ?_
      refine WE.p0 hx 3 (by rfl) (fun w_ => Runs.fld fld24_1 rfl) rfl ?_
      refine WE.p0 hx 7 (by rfl) (fun w_ => Runs.fld fld24_2 rfl) rfl ?_
      refine WE.v0 12 hx 1 (by rfl) (fun w_ hE_ => Runs.load1 Try.underlying3 rfl rfl (hE_.ocell (i := 0) rfl rfl)) rfl ?_
      refine WE.v0 12 hx 4 (by rfl) (fun w_ hE_ => Runs.load1 Try.underlying3 rfl rfl (hE_.ocell (i := 0) rfl rfl)) rfl ?_
      refine WE.v0 12 hx 8 (by rfl) (fun w_ hE_ => Runs.load1 Try.underlying3 rfl rfl (hE_.ocell (i := 0) rfl rfl)) rfl ?_
      refine WE.op (.inr h4) (i := 2) (by rfl) (by kernel_rfl) ?_
      refine WL.call can43 rfl rfl (Wir.rnum_c _ r.kd h4) ?_
      rintro _ w5 ⟨rfl, h5⟩
      refine ⟨_, rfl, ?_⟩
      refine WL.nil (WE.next ?_)
      refine WE.op (.inr h5) (i := 5) (by rfl) (by kernel_rfl) ?_
      refine WL.call can43 rfl rfl (Wir.rnum_c _ r.jb h5) ?_
      rintro _ w6 ⟨rfl, h6⟩
      refine ⟨_, rfl, ?_⟩
      refine WL.nil (WE.next ?_)
      refine WE.p0 hx 6 (by rfl) (fun w_ => Runs.lsadd rfl rfl (by have := Wir.numB_len r.kd; have := Wir.numB_len r.jb; omega)) rfl ?_
      refine WE.op (.inr h6) (i := 9) (by rfl) (by kernel_rfl) ?_
      refine WL.call can43 rfl rfl (Wir.rnum_c _ r.ep h6) ?_
      rintro _ w7 ⟨rfl, h7⟩
      refine ⟨_, rfl, ?_⟩
      refine WL.nil (WE.next ?_)
      refine WE.p0 hx 10 (by rfl) (fun w_ => Runs.lsadd rfl rfl (by have := Wir.numB_len r.kd; have := Wir.numB_len r.jb; have := Wir.numB_len r.ep; have := Wir.numB_len r.st; have := Wir.numB_len r.ar; have := list_len r.ls; simp only [List.length_append]; omega)) rfl ?_
      refine WE.p0 hx 11 (by rfl) (fun w_ => Runs.assign rfl) rfl ?_
      refine WE.fin (.inr h7) (by kernel_rfl) ?_
      refine WN.thn (WC.seq ?_)
      refine WC.eregK h7 h7 (fun s_ => ([] : List Nat).any (Nat.beq s_)) mixed (by kernel_rfl) (fun hx => ?_)
      intro w8 h8
      refine WE.p0 hx 0 (by rfl) (fun w_ => Runs.move rfl) rfl ?_
      refine WE.p0 hx 1 (by rfl) (fun w_ => Runs.fld fld24_3 rfl) rfl ?_
      refine WE.p0 hx 5 (by rfl) (fun w_ => Runs.fld fld24_4 rfl) rfl ?_
      refine WE.p0 hx 9 (by rfl) (fun w_ => Runs.fld fld24_5 rfl) rfl ?_
      refine WE.v0 12 hx 2 (by rfl) (fun w_ hE_ => Runs.load1 Try.underlying3 rfl rfl (hE_.ocell (i := 0) rfl rfl)) rfl ?_
      refine WE.v0 12 hx 6 (by rfl) (fun w_ hE_ => Runs.load1 Try.underlying3 rfl rfl (hE_.ocell (i := 0) rfl rfl)) rfl ?_
      refine WE.v0 12 hx 10 (by rfl) (fun w_ hE_ => Runs.load1 Try.underlying22 rfl rfl (hE_.ocell (i := 0) rfl rfl)) rfl ?_
      refine WE.op (.inr h8) (i := 3) (by rfl) (by kernel_rfl) ?_
      refine WL.call can43 rfl rfl (Wir.rnum_c _ r.st h8) ?_
      rintro _ w9 ⟨rfl, h9⟩
      refine ⟨_, rfl, ?_⟩
      refine WL.nil (WE.next ?_)
      refine WE.p0 hx 4 (by rfl) (fun w_ => Runs.lsadd rfl rfl (by have := Wir.numB_len r.kd; have := Wir.numB_len r.jb; have := Wir.numB_len r.ep; have := Wir.numB_len r.st; have := Wir.numB_len r.ar; have := list_len r.ls; simp only [List.length_append]; omega)) rfl ?_
      refine WE.op (.inr h9) (i := 7) (by rfl) (by kernel_rfl) ?_
      refine WL.call can43 rfl rfl (Wir.rnum_c _ r.ar h9) ?_
      rintro _ w10 ⟨rfl, h10⟩
      refine ⟨_, rfl, ?_⟩
      refine WL.nil (WE.next ?_)
      refine WE.p0 hx 8 (by rfl) (fun w_ => Runs.lsadd rfl rfl (by have := Wir.numB_len r.kd; have := Wir.numB_len r.jb; have := Wir.numB_len r.ep; have := Wir.numB_len r.st; have := Wir.numB_len r.ar; have := list_len r.ls; simp only [List.length_append]; omega)) rfl ?_
      refine WE.op (.inr h10) (i := 11) (by rfl) (by kernel_rfl) ?_
      refine WL.call can44 rfl rfl (Wir.rlist_c _ h10 hl hn) ?_
      rintro _ w11 ⟨rfl, h11⟩
      refine ⟨_, rfl, ?_⟩
      refine WL.nil (WE.next ?_)
      refine WE.p0 hx 12 (by rfl) (fun w_ => Runs.lsadd rfl rfl (by have := Wir.numB_len r.kd; have := Wir.numB_len r.jb; have := Wir.numB_len r.ep; have := Wir.numB_len r.st; have := Wir.numB_len r.ar; have := list_len r.ls; simp only [List.length_append]; omega)) rfl ?_
      refine WE.p0 hx 13 (by rfl) (fun w_ => Runs.assign rfl) rfl ?_
      refine WE.fin (.inr h11) (by kernel_rfl) ?_
      refine WN.thn (WC.ret ?_)
      refine ret1 rfl rfl ⟨?_, h11.drop 0⟩
      rw [encR_y (by simpa using c3), enc_five]
      simp only [List.append_assoc]
set_option maxRecDepth 100000 in
set_option maxHeartbeats 8000000 in
theorem decode_c {W : World} {F : Snap} {cs : List Res} (w : World) (l : List UInt8) (h : St W F cs w) (hl : l.length ≤ 100000) : Calls Try.prog 11 #[.string (bs l)] w fun r w' => ∃ G A cap, Le F G ∧ r = .returned (.tuple #[.agg #[Vi (decM l).1.kd, Vi (decM l).1.jb, Vi (decM l).1.ep, Vi (decM l).1.st, Vi (decM l).1.ar, .slice A (decM l).1.ls.length cap], Vi (decM l).2]) ∧ RdS (Kd.one Vi) G A (decM l).1.ls ∧ St W G cs w'  := by
  refine enter (P := Try.prog) (args := [.string (bs l)]) Try.func11 rfl rfl rfl ?_
  refine WC.seq (WC.reg ?_)
  refine WL.alloc' rfl h inf24 ?_
  intro b2 w1 h1
  refine WL.v (Runs.assign rfl) rfl ?_
  refine WL.nil (WN.thn (WC.seq (WC.reg ?_)))
  refine WL.v (Runs.move rfl) rfl ?_
  refine WL.call can32 rfl rfl (Wir.read_c _ l h1) ?_
  rintro _ w2 ⟨rb, rfl, h2⟩
  refine ⟨_, rfl, ?_⟩
  refine WL.v (Runs.assign rfl) rfl ?_
  refine WL.nil (WN.thn (WC.seq (WC.reg ?_)))
  refine WL.v (Runs.move rfl) rfl ?_
  refine WL.call can33 rfl rfl (Wir.wn_c _ (p := 0) (e := 0) (i := 0) h2 rfl hl (Nat.zero_le _)) ?_
  rintro _ w3 ⟨rfl, h3⟩
  refine ⟨_, rfl, ?_⟩
  replace h3 : St W F ([(rb, .cells #[.string (bs l), Vi (((D0 l).2.1 : Nat)), Vi ((D0 l).2.2)] 103 (0, 0))] :: [(b2, .cells #[Vi 0, Vi 0, Vi 0, Vi 0, Vi 0, .slice none 0 0] 24 (0, 0))] :: cs) w3 := h3
  have hp0 : (D0 l).2.1 ≤ l.length := Wir.rdN_le _ (Nat.zero_le _)
  refine WL.v (Runs.move rfl) rfl ?_
  refine WL.call can33 rfl rfl (Wir.wn_c _ (p := (D0 l).2.1) (e := (D0 l).2.2) (i := 0) h3 rfl hl hp0) ?_
  rintro _ w4 ⟨rfl, h4⟩
  refine ⟨_, rfl, ?_⟩
  replace h4 : St W F ([(rb, .cells #[.string (bs l), Vi (((D1 l).2.1 : Nat)), Vi ((D1 l).2.2)] 103 (0, 0))] :: [(b2, .cells #[Vi 0, Vi 0, Vi 0, Vi 0, Vi 0, .slice none 0 0] 24 (0, 0))] :: cs) w4 := h4
  have hp1 : (D1 l).2.1 ≤ l.length := Wir.rdN_le _ hp0
  refine WL.v (Runs.move rfl) rfl ?_
  refine WL.call can33 rfl rfl (Wir.wn_c _ (p := (D1 l).2.1) (e := (D1 l).2.2) (i := 0) h4 rfl hl hp1) ?_
  rintro _ w5 ⟨rfl, h5⟩
  refine ⟨_, rfl, ?_⟩
  replace h5 : St W F ([(rb, .cells #[.string (bs l), Vi (((D2 l).2.1 : Nat)), Vi ((D2 l).2.2)] 103 (0, 0))] :: [(b2, .cells #[Vi 0, Vi 0, Vi 0, Vi 0, Vi 0, .slice none 0 0] 24 (0, 0))] :: cs) w5 := h5
  have hp2 : (D2 l).2.1 ≤ l.length := Wir.rdN_le _ hp1
  refine WL.v (Runs.move rfl) rfl ?_
  refine WL.call can33 rfl rfl (Wir.wn_c _ (p := (D2 l).2.1) (e := (D2 l).2.2) (i := 0) h5 rfl hl hp2) ?_
  rintro _ w6 ⟨rfl, h6⟩
  refine ⟨_, rfl, ?_⟩
  replace h6 : St W F ([(rb, .cells #[.string (bs l), Vi (((D3 l).2.1 : Nat)), Vi ((D3 l).2.2)] 103 (0, 0))] :: [(b2, .cells #[Vi 0, Vi 0, Vi 0, Vi 0, Vi 0, .slice none 0 0] 24 (0, 0))] :: cs) w6 := h6
  have hp3 : (D3 l).2.1 ≤ l.length := Wir.rdN_le _ hp2
  refine WL.v (Runs.move rfl) rfl ?_
  refine WL.call can33 rfl rfl (Wir.wn_c _ (p := (D3 l).2.1) (e := (D3 l).2.2) (i := 0) h6 rfl hl hp3) ?_
  rintro _ w7 ⟨rfl, h7⟩
  refine ⟨_, rfl, ?_⟩
  replace h7 : St W F ([(rb, .cells #[.string (bs l), Vi (((D4 l).2.1 : Nat)), Vi ((D4 l).2.2)] 103 (0, 0))] :: [(b2, .cells #[Vi 0, Vi 0, Vi 0, Vi 0, Vi 0, .slice none 0 0] 24 (0, 0))] :: cs) w7 := h7
  have hp4 : (D4 l).2.1 ≤ l.length := Wir.rdN_le _ hp3
  refine WL.v (Runs.move rfl) rfl ?_
  refine WL.call can34 rfl rfl (Wir.wl_c _ (p := (D4 l).2.1) (e := (D4 l).2.2) (most := 256) (i := 0) h7 rfl hl hp4) ?_
  rintro _ w8 ⟨G, A1, cap1, hG, rfl, hc1, hR1, h8⟩
  refine ⟨_, rfl, ?_⟩
  replace h8 : St W G ([(rb, .cells #[.string (bs l), Vi (((DL l).2.1 : Nat)), Vi ((DL l).2.2)] 103 (0, 0))] :: [(b2, .cells #[Vi 0, Vi 0, Vi 0, Vi 0, Vi 0, .slice none 0 0] 24 (0, 0))] :: cs) w8 := h8
  refine WL.v (Runs.build (vs := [(0, Vi ((D0 l).1 : Nat)), (1, Vi ((D1 l).1 : Nat)), (2, Vi ((D2 l).1 : Nat)), (3, Vi ((D3 l).1 : Nat)), (4, Vi ((D4 l).1 : Nat)), (5, .slice A1 (DL l).1.length cap1)]) (cells := #[Vi ((D0 l).1 : Nat), Vi ((D1 l).1 : Nat), Vi ((D2 l).1 : Nat), Vi ((D3 l).1 : Nat), Vi ((D4 l).1 : Nat), .slice A1 (DL l).1.length cap1]) rfl (by kernel_rfl)) rfl ?_
  refine WL.alloc' rfl h8 inf24 ?_
  intro b5 w9 h9
  refine WL.storeAll h9 0 rfl rfl rfl inf24 rfl rfl rfl (Free.zero _) ?_
  intro  w10 h10
  try simp only [lz, ls, ez, es'] at h10
  refine WL.nil (WN.thn (WC.seq (WC.seq (WC.reg ?_))))
  refine WL.v (Runs.move rfl) rfl ?_
  refine WL.call can35 rfl rfl (Wir.rend_c _ (p := (DL l).2.1) (e := (DL l).2.2) h10 (i := 1) rfl) ?_
  rintro _ w11 ⟨rfl, h11⟩
  refine ⟨_, rfl, ?_⟩
  refine WL.v (Runs.move rfl) rfl ?_
  refine WL.v (Runs.extract rfl rfl) rfl ?_
  refine WL.v (Runs.extract rfl rfl) rfl ?_
  refine WL.v (Runs.assign rfl) rfl ?_
  refine WL.v (Runs.assign rfl) rfl ?_
  refine WL.nil (WN.thn (WC.seq (WC.reg ?_)))
  refine WL.v (Runs.move rfl) rfl ?_
  refine WL.v (Runs.boolT (c := decide (decE l ≠ 0)) (Runs.neq rfl rfl) (by show (!decide (decE l = 0)) = _; simp)) rfl ?_
  refine WL.nil (WN.thn ?_)
  refine WC.cond rfl (fun c12 => ?_) (fun c12 => ?_)
  · try simp only [dt, df, nt, nf, ba, il, ie] at c12
    first
    | (exfalso; omega)
    | skip
      refine WC.seq (WC.reg ?_)
      refine WL.v (Runs.build (vs := []) (cells := #[Vi 0, Vi 0, Vi 0, Vi 0, Vi 0, .slice none 0 0]) rfl (by kernel_rfl)) rfl ?_
      refine WL.v (Runs.move rfl) rfl ?_
      refine WL.storeAll h11 2 rfl rfl rfl inf24 rfl rfl rfl (Free.zero _) ?_
      intro  w13 h13
      try simp only [lz, ls, ez, es'] at h13
      refine WL.v (Runs.assign rfl) rfl ?_
      refine WL.nil (WN.thn (WC.ret ?_))
      have e9 : decM l = (R0, decE l) := if_pos c12
      refine retB rfl (ResOk.blk h13 2 rfl Try.underlying24 rfl inf24 rfl rfl) (show lk _ _ = _ from rfl) ⟨G, none, 0, hG, by rw [e9] <;> rfl, by rw [e9]; exact .inl rfl, (((h13.drop 0).drop 0).drop 0)⟩
  · try simp only [dt, df, nt, nf, ba, il, ie] at c12
    first
    | (exfalso; omega)
    | skip
      refine WC.skip (WN.thn (WC.seq (WC.seq ?_)))
      have hbd : (decV l).ls.length ≤ 100000 := by have h9_ : (DL l).1.length ≤ l.length := Wir.rdL_len hp4; show (DL l).1.length ≤ _; omega
      refine WC.reg ?_
      refine WL.v (Runs.loadAll h11 0 rfl Try.underlying24 rfl inf24 rfl rfl) rfl ?_
      refine WL.call can36 rfl rfl (may_c (r := decV l) (A := A1) (cap := cap1) _ h11 hR1 hbd) ?_
      rintro _ w14 ⟨rfl, h14⟩
      refine ⟨_, rfl, ?_⟩
      refine WL.v (Runs.not rfl) rfl ?_
      refine WL.nil (WN.thn ?_)
      refine WC.cond rfl (fun c15 => ?_) (fun c15 => ?_)
      · try simp only [dt, df, nt, nf, ba, il, ie] at c15
        first
        | (exfalso; omega)
        | skip
          refine WC.seq (WC.reg ?_)
          refine WL.v (Runs.build (vs := []) (cells := #[Vi 0, Vi 0, Vi 0, Vi 0, Vi 0, .slice none 0 0]) rfl (by kernel_rfl)) rfl ?_
          refine WL.storeAll h14 2 rfl rfl rfl inf24 rfl rfl rfl (Free.zero _) ?_
          intro  w16 h16
          try simp only [lz, ls, ez, es'] at h16
          refine WL.v (Runs.assign rfl) rfl ?_
          refine WL.nil (WN.thn (WC.ret ?_))
          have e9 : decM l = (R0, 5) := decM_n (by simpa using c12) (by simpa using c15)
          refine retB rfl (ResOk.blk h16 2 rfl Try.underlying24 rfl inf24 rfl rfl) (show lk _ _ = _ from rfl) ⟨G, none, 0, hG, by rw [e9] <;> rfl, by rw [e9]; exact .inl rfl, (((h16.drop 0).drop 0).drop 0)⟩
      · try simp only [dt, df, nt, nf, ba, il, ie] at c15
        first
        | (exfalso; omega)
        | skip
          refine WC.skip (WN.thn (WC.seq (WC.reg ?_)))
          refine WL.v (Runs.loadAll h14 0 rfl Try.underlying24 rfl inf24 rfl rfl) rfl ?_
          refine WL.storeAll h14 2 rfl rfl rfl inf24 rfl rfl rfl (Free.zero _) ?_
          intro  w17 h17
          try simp only [lz, ls, ez, es'] at h17
          refine WL.v (Runs.assign rfl) rfl ?_
          refine WL.nil (WN.thn (WC.ret ?_))
          have e9 : decM l = (decV l, 0) := decM_y (by simpa using c12) (by simpa using c15)
          refine retB rfl (ResOk.blk h17 2 rfl Try.underlying24 rfl inf24 rfl rfl) (show lk _ _ = _ from rfl) ⟨G, A1, cap1, hG, by rw [e9] <;> rfl, by rw [e9]; exact hR1, (((h17.drop 0).drop 0).drop 0)⟩
set_option maxRecDepth 100000 in
set_option maxHeartbeats 8000000 in
theorem qdecode_c {W : World} {F : Snap} {cs : List Res} (w : World) (l : List UInt8) (h : St W F cs w) (hl : l.length ≤ 100000) : Calls Try.prog 12 #[.string (bs l)] w fun r w' => ∃ G A cap, Le F G ∧ r = .returned (.tuple #[.agg #[Vi (decM l).1.kd, Vi (decM l).1.jb, Vi (decM l).1.ep, Vi (decM l).1.st, Vi (decM l).1.ar, .slice A (decM l).1.ls.length cap], Vi (decM l).2]) ∧ RdS (Kd.one Vi) G A (decM l).1.ls ∧ St W G cs w'  := by
  refine enter (P := Try.prog) (args := [.string (bs l)]) Try.func12 rfl rfl rfl ?_
  refine WC.seq (WC.reg ?_)
  refine WL.alloc' rfl h inf24 ?_
  intro b2 w1 h1
  refine WL.v (Runs.assign rfl) rfl ?_
  refine WL.nil (WN.thn (WC.seq (WC.reg ?_)))
  refine WL.v (Runs.move rfl) rfl ?_
  refine WL.v (Runs.build (vs := [(0, .string (bs l))]) (cells := #[.string (bs l), Vi ((0 : Nat) : Int), Vi 0]) rfl (by kernel_rfl)) rfl ?_
  refine WL.box rfl h1 rfl ?_
  intro b10 w2 h2
  refine WL.v (Runs.assign rfl) rfl ?_
  refine WL.nil (WN.thn (WC.seq (WC.reg ?_)))
  refine WL.v (Runs.build (vs := []) (cells := #[Vi 0, Vi 0, Vi 0, Vi 0, Vi 0, .slice none 0 0]) rfl (by kernel_rfl)) rfl ?_
  refine WL.alloc' rfl h2 inf24 ?_
  intro b5 w3 h3
  refine WL.storeAll h3 0 rfl rfl rfl inf24 rfl rfl rfl (Free.zero _) ?_
  intro  w4 h4
  try simp only [lz, ls, ez, es'] at h4
  refine WL.nil (WN.thn (WC.seq (WC.reg ?_)))
  refine WL.v (Runs.move rfl) rfl ?_
  refine WL.call can37 rfl rfl (Wir.qnum_c _ (p := 0) (e := 0) (i := 1) h4 rfl hl (Nat.zero_le _)) ?_
  rintro _ w5 ⟨rfl, h5⟩
  refine ⟨_, rfl, ?_⟩
  replace h5 : St W F ([(b5, .cells #[Vi 0, Vi 0, Vi 0, Vi 0, Vi 0, .slice none 0 0] 24 (0, 0))] :: [(b10, .cells #[.string (bs l), Vi (((D0 l).2.1 : Nat)), Vi ((D0 l).2.2)] 82 (0, 0))] :: [(b2, .cells #[Vi 0, Vi 0, Vi 0, Vi 0, Vi 0, .slice none 0 0] 24 (0, 0))] :: cs) w5 := h5
  have hp0 : (D0 l).2.1 ≤ l.length := Wir.rdN_le _ (Nat.zero_le _)
  refine WL.v (Runs.fld fld24_0 rfl) rfl ?_
  refine WL.store' h5 0 rfl rfl rfl inf3 rfl rfl (Free.zero _) (Nat.le_of_ble_eq_true rfl) ?_
  intro  w6 h6
  try simp only [lz, ls, ez, es'] at h6
  replace h6 : St W F ([(b5, .cells #[Vi ((D0 l).1 : Nat), Vi 0, Vi 0, Vi 0, Vi 0, .slice none 0 0] 24 (0, 0))] :: [(b10, .cells #[.string (bs l), Vi (((D0 l).2.1 : Nat)), Vi ((D0 l).2.2)] 82 (0, 0))] :: [(b2, .cells #[Vi 0, Vi 0, Vi 0, Vi 0, Vi 0, .slice none 0 0] 24 (0, 0))] :: cs) w6 := h6
  refine WL.nil (WN.thn (WC.seq (WC.reg ?_)))
  refine WL.v (Runs.move rfl) rfl ?_
  refine WL.call can37 rfl rfl (Wir.qnum_c _ (p := (D0 l).2.1) (e := (D0 l).2.2) (i := 1) h6 rfl hl hp0) ?_
  rintro _ w7 ⟨rfl, h7⟩
  refine ⟨_, rfl, ?_⟩
  replace h7 : St W F ([(b5, .cells #[Vi ((D0 l).1 : Nat), Vi 0, Vi 0, Vi 0, Vi 0, .slice none 0 0] 24 (0, 0))] :: [(b10, .cells #[.string (bs l), Vi (((D1 l).2.1 : Nat)), Vi ((D1 l).2.2)] 82 (0, 0))] :: [(b2, .cells #[Vi 0, Vi 0, Vi 0, Vi 0, Vi 0, .slice none 0 0] 24 (0, 0))] :: cs) w7 := h7
  have hp1 : (D1 l).2.1 ≤ l.length := Wir.rdN_le _ hp0
  refine WL.v (Runs.fld fld24_1 rfl) rfl ?_
  refine WL.store' h7 0 rfl rfl rfl inf3 rfl rfl (Free.zero _) (Nat.le_of_ble_eq_true rfl) ?_
  intro  w8 h8
  try simp only [lz, ls, ez, es'] at h8
  replace h8 : St W F ([(b5, .cells #[Vi ((D0 l).1 : Nat), Vi ((D1 l).1 : Nat), Vi 0, Vi 0, Vi 0, .slice none 0 0] 24 (0, 0))] :: [(b10, .cells #[.string (bs l), Vi (((D1 l).2.1 : Nat)), Vi ((D1 l).2.2)] 82 (0, 0))] :: [(b2, .cells #[Vi 0, Vi 0, Vi 0, Vi 0, Vi 0, .slice none 0 0] 24 (0, 0))] :: cs) w8 := h8
  refine WL.nil (WN.thn (WC.seq (WC.reg ?_)))
  refine WL.v (Runs.move rfl) rfl ?_
  refine WL.call can37 rfl rfl (Wir.qnum_c _ (p := (D1 l).2.1) (e := (D1 l).2.2) (i := 1) h8 rfl hl hp1) ?_
  rintro _ w9 ⟨rfl, h9⟩
  refine ⟨_, rfl, ?_⟩
  replace h9 : St W F ([(b5, .cells #[Vi ((D0 l).1 : Nat), Vi ((D1 l).1 : Nat), Vi 0, Vi 0, Vi 0, .slice none 0 0] 24 (0, 0))] :: [(b10, .cells #[.string (bs l), Vi (((D2 l).2.1 : Nat)), Vi ((D2 l).2.2)] 82 (0, 0))] :: [(b2, .cells #[Vi 0, Vi 0, Vi 0, Vi 0, Vi 0, .slice none 0 0] 24 (0, 0))] :: cs) w9 := h9
  have hp2 : (D2 l).2.1 ≤ l.length := Wir.rdN_le _ hp1
  refine WL.v (Runs.fld fld24_2 rfl) rfl ?_
  refine WL.store' h9 0 rfl rfl rfl inf3 rfl rfl (Free.zero _) (Nat.le_of_ble_eq_true rfl) ?_
  intro  w10 h10
  try simp only [lz, ls, ez, es'] at h10
  replace h10 : St W F ([(b5, .cells #[Vi ((D0 l).1 : Nat), Vi ((D1 l).1 : Nat), Vi ((D2 l).1 : Nat), Vi 0, Vi 0, .slice none 0 0] 24 (0, 0))] :: [(b10, .cells #[.string (bs l), Vi (((D2 l).2.1 : Nat)), Vi ((D2 l).2.2)] 82 (0, 0))] :: [(b2, .cells #[Vi 0, Vi 0, Vi 0, Vi 0, Vi 0, .slice none 0 0] 24 (0, 0))] :: cs) w10 := h10
  refine WL.nil (WN.thn (WC.seq (WC.reg ?_)))
  refine WL.v (Runs.move rfl) rfl ?_
  refine WL.call can37 rfl rfl (Wir.qnum_c _ (p := (D2 l).2.1) (e := (D2 l).2.2) (i := 1) h10 rfl hl hp2) ?_
  rintro _ w11 ⟨rfl, h11⟩
  refine ⟨_, rfl, ?_⟩
  replace h11 : St W F ([(b5, .cells #[Vi ((D0 l).1 : Nat), Vi ((D1 l).1 : Nat), Vi ((D2 l).1 : Nat), Vi 0, Vi 0, .slice none 0 0] 24 (0, 0))] :: [(b10, .cells #[.string (bs l), Vi (((D3 l).2.1 : Nat)), Vi ((D3 l).2.2)] 82 (0, 0))] :: [(b2, .cells #[Vi 0, Vi 0, Vi 0, Vi 0, Vi 0, .slice none 0 0] 24 (0, 0))] :: cs) w11 := h11
  have hp3 : (D3 l).2.1 ≤ l.length := Wir.rdN_le _ hp2
  refine WL.v (Runs.fld fld24_3 rfl) rfl ?_
  refine WL.store' h11 0 rfl rfl rfl inf3 rfl rfl (Free.zero _) (Nat.le_of_ble_eq_true rfl) ?_
  intro  w12 h12
  try simp only [lz, ls, ez, es'] at h12
  replace h12 : St W F ([(b5, .cells #[Vi ((D0 l).1 : Nat), Vi ((D1 l).1 : Nat), Vi ((D2 l).1 : Nat), Vi ((D3 l).1 : Nat), Vi 0, .slice none 0 0] 24 (0, 0))] :: [(b10, .cells #[.string (bs l), Vi (((D3 l).2.1 : Nat)), Vi ((D3 l).2.2)] 82 (0, 0))] :: [(b2, .cells #[Vi 0, Vi 0, Vi 0, Vi 0, Vi 0, .slice none 0 0] 24 (0, 0))] :: cs) w12 := h12
  refine WL.nil (WN.thn (WC.seq (WC.reg ?_)))
  refine WL.v (Runs.move rfl) rfl ?_
  refine WL.call can37 rfl rfl (Wir.qnum_c _ (p := (D3 l).2.1) (e := (D3 l).2.2) (i := 1) h12 rfl hl hp3) ?_
  rintro _ w13 ⟨rfl, h13⟩
  refine ⟨_, rfl, ?_⟩
  replace h13 : St W F ([(b5, .cells #[Vi ((D0 l).1 : Nat), Vi ((D1 l).1 : Nat), Vi ((D2 l).1 : Nat), Vi ((D3 l).1 : Nat), Vi 0, .slice none 0 0] 24 (0, 0))] :: [(b10, .cells #[.string (bs l), Vi (((D4 l).2.1 : Nat)), Vi ((D4 l).2.2)] 82 (0, 0))] :: [(b2, .cells #[Vi 0, Vi 0, Vi 0, Vi 0, Vi 0, .slice none 0 0] 24 (0, 0))] :: cs) w13 := h13
  have hp4 : (D4 l).2.1 ≤ l.length := Wir.rdN_le _ hp3
  refine WL.v (Runs.fld fld24_4 rfl) rfl ?_
  refine WL.store' h13 0 rfl rfl rfl inf3 rfl rfl (Free.zero _) (Nat.le_of_ble_eq_true rfl) ?_
  intro  w14 h14
  try simp only [lz, ls, ez, es'] at h14
  replace h14 : St W F ([(b5, .cells #[Vi ((D0 l).1 : Nat), Vi ((D1 l).1 : Nat), Vi ((D2 l).1 : Nat), Vi ((D3 l).1 : Nat), Vi ((D4 l).1 : Nat), .slice none 0 0] 24 (0, 0))] :: [(b10, .cells #[.string (bs l), Vi (((D4 l).2.1 : Nat)), Vi ((D4 l).2.2)] 82 (0, 0))] :: [(b2, .cells #[Vi 0, Vi 0, Vi 0, Vi 0, Vi 0, .slice none 0 0] 24 (0, 0))] :: cs) w14 := h14
  refine WL.nil (WN.thn (WC.seq (WC.reg ?_)))
  refine WL.v (Runs.move rfl) rfl ?_
  refine WL.call can38 rfl rfl (Wir.ql_c _ (p := (D4 l).2.1) (e := (D4 l).2.2) (most := 256) (i := 1) h14 rfl hl hp4) ?_
  rintro _ w15 ⟨G, A1, cap1, hG, rfl, hc1, hR1, h15⟩
  refine ⟨_, rfl, ?_⟩
  replace h15 : St W G ([(b5, .cells #[Vi ((D0 l).1 : Nat), Vi ((D1 l).1 : Nat), Vi ((D2 l).1 : Nat), Vi ((D3 l).1 : Nat), Vi ((D4 l).1 : Nat), .slice none 0 0] 24 (0, 0))] :: [(b10, .cells #[.string (bs l), Vi (((DL l).2.1 : Nat)), Vi ((DL l).2.2)] 82 (0, 0))] :: [(b2, .cells #[Vi 0, Vi 0, Vi 0, Vi 0, Vi 0, .slice none 0 0] 24 (0, 0))] :: cs) w15 := h15
  refine WL.v (Runs.fld fld24_5 rfl) rfl ?_
  refine WL.store' h15 0 rfl rfl rfl inf22 rfl rfl (Free.zero _) (Nat.le_of_ble_eq_true rfl) ?_
  intro  w16 h16
  try simp only [lz, ls, ez, es'] at h16
  replace h16 : St W G ([(b5, .cells #[Vi ((D0 l).1 : Nat), Vi ((D1 l).1 : Nat), Vi ((D2 l).1 : Nat), Vi ((D3 l).1 : Nat), Vi ((D4 l).1 : Nat), .slice A1 (DL l).1.length cap1] 24 (0, 0))] :: [(b10, .cells #[.string (bs l), Vi (((DL l).2.1 : Nat)), Vi ((DL l).2.2)] 82 (0, 0))] :: [(b2, .cells #[Vi 0, Vi 0, Vi 0, Vi 0, Vi 0, .slice none 0 0] 24 (0, 0))] :: cs) w16 := h16
  refine WL.nil (WN.thn (WC.seq (WC.reg ?_)))
  refine WL.v (Runs.move rfl) rfl ?_
  refine WL.call can39 rfl rfl (Wir.qend_c _ (p := (DL l).2.1) (e := (DL l).2.2) h16 (i := 1) rfl) ?_
  rintro _ w17 ⟨rfl, h17⟩
  refine ⟨_, rfl, ?_⟩
  refine WL.v (Runs.move rfl) rfl ?_
  refine WL.v (Runs.extract rfl rfl) rfl ?_
  refine WL.v (Runs.extract rfl rfl) rfl ?_
  refine WL.v (Runs.assign rfl) rfl ?_
  refine WL.v (Runs.assign rfl) rfl ?_
  refine WL.nil (WN.thn (WC.seq (WC.seq (WC.reg ?_))))
  refine WL.v (Runs.move rfl) rfl ?_
  refine WL.v (Runs.boolT (c := decide (decE l ≠ 0)) (Runs.neq rfl rfl) (by show (!decide (decE l = 0)) = _; simp)) rfl ?_
  refine WL.nil (WN.thn ?_)
  refine WC.cond rfl (fun c18 => ?_) (fun c18 => ?_)
  · try simp only [dt, df, nt, nf, ba, il, ie] at c18
    first
    | (exfalso; omega)
    | skip
      refine WC.seq (WC.reg ?_)
      refine WL.v (Runs.build (vs := []) (cells := #[Vi 0, Vi 0, Vi 0, Vi 0, Vi 0, .slice none 0 0]) rfl (by kernel_rfl)) rfl ?_
      refine WL.v (Runs.move rfl) rfl ?_
      refine WL.storeAll h17 2 rfl rfl rfl inf24 rfl rfl rfl (Free.zero _) ?_
      intro  w19 h19
      try simp only [lz, ls, ez, es'] at h19
      refine WL.v (Runs.assign rfl) rfl ?_
      refine WL.nil (WN.thn (WC.ret ?_))
      have e9 : decM l = (R0, decE l) := if_pos c18
      refine retB rfl (ResOk.blk h19 2 rfl Try.underlying24 rfl inf24 rfl rfl) (show lk _ _ = _ from rfl) ⟨G, none, 0, hG, by rw [e9] <;> rfl, by rw [e9]; exact .inl rfl, (((h19.drop 0).drop 0).drop 0)⟩
  · try simp only [dt, df, nt, nf, ba, il, ie] at c18
    first
    | (exfalso; omega)
    | skip
      refine WC.skip (WN.thn (WC.seq (WC.seq ?_)))
      have hbd : (decV l).ls.length ≤ 100000 := by have h9_ : (DL l).1.length ≤ l.length := Wir.rdL_len hp4; show (DL l).1.length ≤ _; omega
      refine WC.reg ?_
      refine WL.v (Runs.loadAll h17 0 rfl Try.underlying24 rfl inf24 rfl rfl) rfl ?_
      refine WL.call can40 rfl rfl (qmay_c (r := decV l) (A := A1) (cap := cap1) _ h17 hR1 hbd) ?_
      rintro _ w20 ⟨rfl, h20⟩
      refine ⟨_, rfl, ?_⟩
      refine WL.v (Runs.not rfl) rfl ?_
      refine WL.nil (WN.thn ?_)
      refine WC.cond rfl (fun c21 => ?_) (fun c21 => ?_)
      · try simp only [dt, df, nt, nf, ba, il, ie] at c21
        first
        | (exfalso; omega)
        | skip
          refine WC.seq (WC.reg ?_)
          refine WL.v (Runs.build (vs := []) (cells := #[Vi 0, Vi 0, Vi 0, Vi 0, Vi 0, .slice none 0 0]) rfl (by kernel_rfl)) rfl ?_
          refine WL.storeAll h20 2 rfl rfl rfl inf24 rfl rfl rfl (Free.zero _) ?_
          intro  w22 h22
          try simp only [lz, ls, ez, es'] at h22
          refine WL.v (Runs.assign rfl) rfl ?_
          refine WL.nil (WN.thn (WC.ret ?_))
          have e9 : decM l = (R0, 5) := decM_n (by simpa using c18) (by simpa using c21)
          refine retB rfl (ResOk.blk h22 2 rfl Try.underlying24 rfl inf24 rfl rfl) (show lk _ _ = _ from rfl) ⟨G, none, 0, hG, by rw [e9] <;> rfl, by rw [e9]; exact .inl rfl, (((h22.drop 0).drop 0).drop 0)⟩
      · try simp only [dt, df, nt, nf, ba, il, ie] at c21
        first
        | (exfalso; omega)
        | skip
          refine WC.skip (WN.thn (WC.seq (WC.reg ?_)))
          refine WL.v (Runs.loadAll h20 0 rfl Try.underlying24 rfl inf24 rfl rfl) rfl ?_
          refine WL.storeAll h20 2 rfl rfl rfl inf24 rfl rfl rfl (Free.zero _) ?_
          intro  w23 h23
          try simp only [lz, ls, ez, es'] at h23
          refine WL.v (Runs.assign rfl) rfl ?_
          refine WL.nil (WN.thn (WC.ret ?_))
          have e9 : decM l = (decV l, 0) := decM_y (by simpa using c18) (by simpa using c21)
          refine retB rfl (ResOk.blk h23 2 rfl Try.underlying24 rfl inf24 rfl rfl) (show lk _ _ = _ from rfl) ⟨G, A1, cap1, hG, by rw [e9] <;> rfl, by rw [e9]; exact hR1, (((h23.drop 0).drop 0).drop 0)⟩
end Rc
end Go.Proofs.Ythejglgnoingfaa
