/- The law JournalTorn. -/
import Derived.Test.YthjcfhfbaeokeaaMJ14
namespace Go.Proofs.Ythjcfhfbaeokeaa
open Go Go.RowKit B
set_option linter.unusedVariables false
set_option linter.unusedSimpArgs false
namespace Jo
open Wir (Vi textB numB rdT rdEnd wtext_c)

theorem can25 : B.Can Try.prog 25 := ⟨_, Try.func25, by kernel_rfl, rfl⟩   -- roundhouse/roundhouselaw08.may
theorem can26 : B.Can Try.prog 26 := ⟨_, Try.func26, by kernel_rfl, rfl⟩   -- roundhouse/roundhouselaw08.write
theorem ent_0 {G : Snap} {b : Nat} {x : Ent} {xs : List Ent} (h : RdS KEn G (some ⟨b, 0, none⟩) (x :: xs)) : cellF G ⟨b, 0, none⟩ = some (Vi x.1) ∧ cellF G ⟨b, 1, none⟩ = some (.string (bs x.2)) := by
  obtain ⟨ad, hA, hen⟩ := ent_at h (n := 0) (by simp)
  injection hA with hA
  subst hA
  exact ⟨hen 0 _ rfl, hen 1 _ rfl⟩
theorem tornCase (P Q : Prop) : ¬ P ∨ (P ∧ ¬ Q) ∨ (P ∧ Q) := by
  by_cases h : P <;> by_cases h2 : Q <;> simp [h, h2]
theorem may_one {x : Ent} (h : mayL [x]) : okX x := mayL_all h x List.mem_cons_self
theorem read_torn {xs : List Ent} {x : Ent} {j : Int} (h : mayL xs) (hx : okX x) (hj : j.toNat < (recB x.1 x.2).length) : readM (tearM (writeL xs) x.1 x.2 j) = (xs, (writeL xs).length) :=
  readM_write (mayL_all h) (first_torn hx hj)
theorem rep_torn {xs : List Ent} {x : Ent} {j : Int} (h : mayL xs) (hx : okX x) (hj : j.toNat < (recB x.1 x.2).length) : (tearM (writeL xs) x.1 x.2 j).take (readM (tearM (writeL xs) x.1 x.2 j)).2 = writeL xs := by
  rw [read_torn h hx hj]
  exact List.take_left' rfl
theorem read_all {ys : List Ent} (h : ∀ y ∈ ys, okX y) : readM (writeL ys) = (ys, (writeL ys).length) := by
  have := readM_write (rest := []) h first_nil
  rwa [List.append_nil] at this
set_option maxRecDepth 100000 in
set_option maxHeartbeats 8000000 in
theorem torn_law {W : World} {F : Snap} {cs : List Res} (w : World) {A : Option Addr} {cap : Nat} {xs : List Ent} {x : Ent} {j : Int} (h : St W F cs w) (hR : RdS KEn F A xs) (hl : xs.length ≤ 9223372036854775807) : Calls Try.prog 5 #[.slice A xs.length cap, entA x, Vi j] w fun r w' => r = .returned (.bool true) ∧ St W F cs w'  := by
  refine enter (P := Try.prog) (args := [.slice A xs.length cap, entA x, Vi j]) Try.func5 rfl rfl rfl ?_
  have hle : Le F F := Le.refl F
  refine WC.seq ?_
  refine WC.reg ?_
  refine WL.box rfl h rfl ?_
  intro b4 w1 h1
  refine WL.v (Runs.assign rfl) rfl ?_
  refine WL.nil ?_
  refine WN.thn ?_
  refine WC.seq ?_
  refine WC.seq ?_
  obtain ⟨G0, hG0, gf0, hS0⟩ := h1.freeze (i := 0) rfl
  have rdx : RdS KEn G0 (some ⟨b4, 0, none⟩) [x] := RdS.blks [entC x] (gf0 _ List.mem_cons_self) rfl ⟨rfl, trivial⟩
  replace hR := hR.mono hG0
  replace hle := hG0
  rcases tornCase (mayL xs) (mayL [x]) with hm | ⟨hm1, hm⟩ | ⟨hm1, hm2⟩
  · skip
    refine WC.reg ?_
    refine WL.v (Runs.move rfl) rfl ?_
    refine WL.call can25 rfl rfl (may_c _ hS0 hR hl) ?_
    rintro _ w2 ⟨rfl, h2⟩
    refine ⟨_, rfl, ?_⟩
    refine WL.v (Runs.boolT (c := true) (Runs.not rfl) (by rw [decide_eq_false hm]; rfl)) rfl ?_
    refine WL.v (Runs.move rfl) rfl ?_
    refine WL.goff rfl rfl rfl rfl ?_
    refine WL.goff rfl rfl rfl rfl ?_
    refine WL.goff rfl rfl rfl rfl ?_
    refine WL.goff rfl rfl rfl rfl ?_
    refine WL.v (Runs.pick rfl rfl rfl) rfl ?_
    refine WL.nil ?_
    refine WN.thn ?_
    refine WC.condT rfl (rfl) ?_
    refine WC.seq ?_
    refine WC.reg ?_
    refine WL.call can8 rfl rfl (live_c _ h2) ?_
    rintro _ w3 ⟨rfl, h3⟩
    refine ⟨_, rfl, ?_⟩
    refine WL.v (Runs.assign rfl) rfl ?_
    refine WL.nil ?_
    refine WN.thn ?_
    refine WC.ret ?_
    exact ret1 rfl rfl ⟨rfl, h3.weak hle⟩
  · skip
    refine WC.reg ?_
    refine WL.v (Runs.move rfl) rfl ?_
    refine WL.call can25 rfl rfl (may_c _ hS0 hR hl) ?_
    rintro _ w4 ⟨rfl, h4⟩
    refine ⟨_, rfl, ?_⟩
    refine WL.v (Runs.boolT (c := false) (Runs.not rfl) (by rw [decide_eq_true hm1]; rfl)) rfl ?_
    refine WL.v (Runs.move rfl) rfl ?_
    refine WL.gon rfl rfl rfl ?_
    refine WL.v (Runs.valT (u := entA x) (Runs.loadRows ((0, []) : Ent) h4 rdx rfl (n := 0) (show 0 < 1 from Nat.one_pos) Try.underlying45 rfl inf45 rfl) rfl) rfl ?_
    refine WL.gon rfl rfl rfl ?_
    refine WL.buildSlice (vs := [entA (x)]) h4 rfl Try.underlying35 (inf45.elem rfl rfl) rfl rfl rfl (by decide) ?_
    intro lit22 w5 h5
    try simp only [List.set_cons_zero, List.set_cons_succ, List.eraseIdx_cons_zero, List.eraseIdx_cons_succ] at h5
    obtain ⟨G22, gl22, gf22, hS22⟩ := h5.freeze (i := 0) rfl
    have rd22 : RdS KEn G22 (some ⟨lit22, 0, none⟩) [(x)] := RdS.blks [entC (x)] (gf22 _ List.mem_cons_self) rfl ⟨rfl, trivial⟩
    replace h5 := hS22
    simp only [List.eraseIdx_cons_zero] at h5
    replace hR := hR.mono gl22
    replace rdx := rdx.mono gl22
    replace hle := Le.trans hle gl22
    refine WL.gon rfl rfl rfl ?_
    refine WL.call can25 rfl rfl ((show Calls Try.prog 25 #[.slice (some ⟨lit22, 0, none⟩) 1 1] _ (fun r w' => r = .returned (.bool (decide (mayL [x]))) ∧ St W G22 cs w') from may_c (cap := 1) _ h5 rd22 (by show 1 ≤ 9223372036854775807; omega))) ?_
    rintro _ w6 ⟨rfl, h6⟩
    refine ⟨_, rfl, ?_⟩
    refine WL.gon rfl rfl rfl ?_
    refine WL.v (Runs.boolT (c := true) (Runs.not rfl) (by rw [decide_eq_false hm]; rfl)) rfl ?_
    refine WL.v (Runs.pick rfl rfl rfl) rfl ?_
    refine WL.nil ?_
    refine WN.thn ?_
    refine WC.condT rfl (rfl) ?_
    refine WC.seq ?_
    refine WC.reg ?_
    refine WL.call can8 rfl rfl (live_c _ h6) ?_
    rintro _ w7 ⟨rfl, h7⟩
    refine ⟨_, rfl, ?_⟩
    refine WL.v (Runs.assign rfl) rfl ?_
    refine WL.nil ?_
    refine WN.thn ?_
    refine WC.ret ?_
    exact ret1 rfl rfl ⟨rfl, h7.weak hle⟩
  · skip
    refine WC.reg ?_
    refine WL.v (Runs.move rfl) rfl ?_
    refine WL.call can25 rfl rfl (may_c _ hS0 hR hl) ?_
    rintro _ w8 ⟨rfl, h8⟩
    refine ⟨_, rfl, ?_⟩
    refine WL.v (Runs.boolT (c := false) (Runs.not rfl) (by rw [decide_eq_true hm1]; rfl)) rfl ?_
    refine WL.v (Runs.move rfl) rfl ?_
    refine WL.gon rfl rfl rfl ?_
    refine WL.v (Runs.valT (u := entA x) (Runs.loadRows ((0, []) : Ent) h8 rdx rfl (n := 0) (show 0 < 1 from Nat.one_pos) Try.underlying45 rfl inf45 rfl) rfl) rfl ?_
    refine WL.gon rfl rfl rfl ?_
    refine WL.buildSlice (vs := [entA (x)]) h8 rfl Try.underlying35 (inf45.elem rfl rfl) rfl rfl rfl (by decide) ?_
    intro lit22 w9 h9
    try simp only [List.set_cons_zero, List.set_cons_succ, List.eraseIdx_cons_zero, List.eraseIdx_cons_succ] at h9
    obtain ⟨G22, gl22, gf22, hS22⟩ := h9.freeze (i := 0) rfl
    have rd22 : RdS KEn G22 (some ⟨lit22, 0, none⟩) [(x)] := RdS.blks [entC (x)] (gf22 _ List.mem_cons_self) rfl ⟨rfl, trivial⟩
    replace h9 := hS22
    simp only [List.eraseIdx_cons_zero] at h9
    replace hR := hR.mono gl22
    replace rdx := rdx.mono gl22
    replace hle := Le.trans hle gl22
    refine WL.gon rfl rfl rfl ?_
    refine WL.call can25 rfl rfl ((show Calls Try.prog 25 #[.slice (some ⟨lit22, 0, none⟩) 1 1] _ (fun r w' => r = .returned (.bool (decide (mayL [x]))) ∧ St W G22 cs w') from may_c (cap := 1) _ h9 rd22 (by show 1 ≤ 9223372036854775807; omega))) ?_
    rintro _ w10 ⟨rfl, h10⟩
    refine ⟨_, rfl, ?_⟩
    refine WL.gon rfl rfl rfl ?_
    refine WL.v (Runs.boolT (c := false) (Runs.not rfl) (by rw [decide_eq_true hm2]; rfl)) rfl ?_
    refine WL.v (Runs.pick rfl rfl rfl) rfl ?_
    refine WL.nil ?_
    refine WN.thn ?_
    refine WC.condF rfl (rfl) ?_
    refine WC.skip ?_
    refine WN.thn ?_
    refine WC.seq ?_
    have hok := may_one hm2
    have hp1 := recB_pos hok
    have hrl := recB_len (k := x.1) (s := x.2)
    have hx12 := hm1.2
    have hwl := writeL_len xs
    have hys : ∀ y ∈ xs ++ [x], okX y := fun y hy => by
      rcases List.mem_append.1 hy with hy | hy
      · exact mayL_all hm1 y hy
      · obtain rfl := List.mem_singleton.1 hy
        exact hok
    have htl : (tearM (writeL xs) x.1 x.2 j).length ≤ 100000 := by
      unfold tearM
      rw [List.length_append, List.length_take]
      omega
    refine WC.reg ?_
    refine WL.v (Runs.move rfl) rfl ?_
    refine WL.call can26 rfl rfl (write_c _ h10 hR hm1) ?_
    rintro _ w11 ⟨rfl, h11⟩
    refine ⟨_, rfl, ?_⟩
    refine WL.v (Runs.assign rfl) rfl ?_
    refine WL.nil ?_
    refine WN.thn ?_
    refine WC.seq ?_
    refine WC.reg ?_
    refine WL.v (Runs.fld fld45_0 rfl) rfl ?_
    refine WL.v (Runs.load1 Try.underlying3 rfl rfl (h11.cell (ent_0 rdx).1)) rfl ?_
    refine WL.v (Runs.fld fld45_1 rfl) rfl ?_
    refine WL.v (Runs.load1 Try.underlying9 rfl rfl (h11.cell (ent_0 rdx).2)) rfl ?_
    refine WL.call can11 rfl rfl (record_c _ x.1 x.2 h11) ?_
    rintro _ w12 ⟨rfl, h12⟩
    refine ⟨_, rfl, ?_⟩
    refine WL.v (Runs.assign rfl) rfl ?_
    refine WL.nil ?_
    refine WN.thn ?_
    refine WC.seq ?_
    refine WC.seq ?_
    have hcase : j < 0 ∨ (0 ≤ j ∧ ((recB x.1 x.2).length : Int) ≤ j) ∨ (0 ≤ j ∧ j < (recB x.1 x.2).length) := by omega
    rcases hcase with hj | ⟨hj, hj2⟩ | ⟨hj, hj3⟩
    · skip
      refine WC.reg ?_
      refine WL.v (Runs.move rfl) rfl ?_
      refine WL.v (Runs.boolT (c := true) (Runs.lss rfl rfl) (by rw [decide_eq_true_eq]; omega)) rfl ?_
      refine WL.v (Runs.move rfl) rfl ?_
      refine WL.goff rfl rfl rfl rfl ?_
      refine WL.goff rfl rfl rfl rfl ?_
      refine WL.goff rfl rfl rfl rfl ?_
      refine WL.goff rfl rfl rfl rfl ?_
      refine WL.v (Runs.pick rfl rfl rfl) rfl ?_
      refine WL.nil ?_
      refine WN.thn ?_
      refine WC.condT rfl (rfl) ?_
      refine WC.seq ?_
      refine WC.reg ?_
      refine WL.v (Runs.move rfl) rfl ?_
      refine WL.v (Runs.intT (n := ((recB x.1 x.2).length : Int)) (Runs.slen Try.underlying9 rfl rfl) rfl) rfl ?_
      refine WL.v (Runs.boolT (c := true) (Runs.gtr rfl rfl) (by rw [decide_eq_true_eq]; omega)) rfl ?_
      refine WL.v (Runs.move rfl) rfl ?_
      refine WL.gon rfl rfl rfl ?_
      refine WL.call can8 rfl rfl (live_c _ h12) ?_
      rintro _ w13 ⟨rfl, h13⟩
      refine ⟨_, rfl, ?_⟩
      refine WL.v (Runs.pick rfl rfl rfl) rfl ?_
      refine WL.v (Runs.assign rfl) rfl ?_
      refine WL.nil ?_
      refine WN.thn ?_
      refine WC.ret ?_
      exact ret1 rfl rfl ⟨rfl, h13.weak hle⟩
    · skip
      refine WC.reg ?_
      refine WL.v (Runs.move rfl) rfl ?_
      refine WL.v (Runs.boolT (c := false) (Runs.lss rfl rfl) (by rw [decide_eq_false_iff_not]; omega)) rfl ?_
      refine WL.v (Runs.move rfl) rfl ?_
      refine WL.gon rfl rfl rfl ?_
      refine WL.v (Runs.move rfl) rfl ?_
      refine WL.gon rfl rfl rfl ?_
      refine WL.v (Runs.move rfl) rfl ?_
      refine WL.gon rfl rfl rfl ?_
      refine WL.v (Runs.intT (n := ((recB x.1 x.2).length : Int)) (Runs.slen Try.underlying9 rfl rfl) rfl) rfl ?_
      refine WL.gon rfl rfl rfl ?_
      refine WL.v (Runs.boolT (c := true) (Runs.geq rfl rfl) (by rw [decide_eq_true_eq]; omega)) rfl ?_
      refine WL.v (Runs.pick rfl rfl rfl) rfl ?_
      refine WL.nil ?_
      refine WN.thn ?_
      refine WC.condT rfl (rfl) ?_
      refine WC.seq ?_
      refine WC.reg ?_
      refine WL.v (Runs.move rfl) rfl ?_
      refine WL.v (Runs.intT (n := ((recB x.1 x.2).length : Int)) (Runs.slen Try.underlying9 rfl rfl) rfl) rfl ?_
      refine WL.v (Runs.boolT (c := true) (Runs.gtr rfl rfl) (by rw [decide_eq_true_eq]; omega)) rfl ?_
      refine WL.v (Runs.move rfl) rfl ?_
      refine WL.gon rfl rfl rfl ?_
      refine WL.call can8 rfl rfl (live_c _ h12) ?_
      rintro _ w14 ⟨rfl, h14⟩
      refine ⟨_, rfl, ?_⟩
      refine WL.v (Runs.pick rfl rfl rfl) rfl ?_
      refine WL.v (Runs.assign rfl) rfl ?_
      refine WL.nil ?_
      refine WN.thn ?_
      refine WC.ret ?_
      exact ret1 rfl rfl ⟨rfl, h14.weak hle⟩
    · have hj2 : j.toNat < (recB x.1 x.2).length := by omega
      refine WC.reg ?_
      refine WL.v (Runs.move rfl) rfl ?_
      refine WL.v (Runs.boolT (c := false) (Runs.lss rfl rfl) (by rw [decide_eq_false_iff_not]; omega)) rfl ?_
      refine WL.v (Runs.move rfl) rfl ?_
      refine WL.gon rfl rfl rfl ?_
      refine WL.v (Runs.move rfl) rfl ?_
      refine WL.gon rfl rfl rfl ?_
      refine WL.v (Runs.move rfl) rfl ?_
      refine WL.gon rfl rfl rfl ?_
      refine WL.v (Runs.intT (n := ((recB x.1 x.2).length : Int)) (Runs.slen Try.underlying9 rfl rfl) rfl) rfl ?_
      refine WL.gon rfl rfl rfl ?_
      refine WL.v (Runs.boolT (c := false) (Runs.geq rfl rfl) (by rw [decide_eq_false_iff_not]; omega)) rfl ?_
      refine WL.v (Runs.pick rfl rfl rfl) rfl ?_
      refine WL.nil ?_
      refine WN.thn ?_
      refine WC.condF rfl (rfl) ?_
      refine WC.skip ?_
      refine WN.thn ?_
      refine WC.seq ?_
      refine WC.reg ?_
      refine WL.v (Runs.move rfl) rfl ?_
      refine WL.v (Runs.fld fld45_0 rfl) rfl ?_
      refine WL.v (Runs.load1 Try.underlying3 rfl rfl (h12.cell (ent_0 rdx).1)) rfl ?_
      refine WL.v (Runs.fld fld45_1 rfl) rfl ?_
      refine WL.v (Runs.load1 Try.underlying9 rfl rfl (h12.cell (ent_0 rdx).2)) rfl ?_
      refine WL.v (Runs.move rfl) rfl ?_
      refine WL.call can13 rfl rfl (tear_c _ (writeL xs) x.1 x.2 j h12 (by omega)) ?_
      rintro _ w15 ⟨rfl, h15⟩
      refine ⟨_, rfl, ?_⟩
      refine WL.v (Runs.assign rfl) rfl ?_
      refine WL.nil ?_
      refine WN.thn ?_
      refine WC.seq ?_
      refine WC.reg ?_
      refine WL.v (Runs.move rfl) rfl ?_
      refine WL.call can17 rfl rfl ((Rd.to (read_torn hm1 hok hj2) (read_c _ (tearM (writeL xs) x.1 x.2 j) h15 htl))) ?_
      rintro _ w16 ⟨Ga, Aa, capa, hGa, rfl, hca, rda, h16⟩
      refine ⟨_, rfl, ?_⟩
      replace hR := hR.mono hGa
      replace rdx := rdx.mono hGa
      replace rd22 := rd22.mono hGa
      replace hle := Le.trans hle hGa
      refine WL.v (Runs.move rfl) rfl ?_
      refine WL.v (Runs.extract rfl rfl) rfl ?_
      refine WL.v (Runs.extract rfl rfl) rfl ?_
      refine WL.v (Runs.assign rfl) rfl ?_
      refine WL.v (Runs.assign rfl) rfl ?_
      refine WL.nil ?_
      refine WN.thn ?_
      refine WC.seq ?_
      refine WC.seq ?_
      refine WC.reg ?_
      refine WL.v (Runs.move rfl) rfl ?_
      refine WL.call can20 rfl rfl (told_c _ h16 rda (by show xs.length ≤ _; omega)) ?_
      rintro _ w17 ⟨Gb, Ab, capb, hGb, rfl, rdb, h17⟩
      refine ⟨_, rfl, ?_⟩
      replace hR := hR.mono hGb
      replace rdx := rdx.mono hGb
      replace rd22 := rd22.mono hGb
      replace rda := rda.mono hGb
      replace hle := Le.trans hle hGb
      refine WL.v (Runs.move rfl) rfl ?_
      refine WL.call can19 rfl rfl (esame_c _ h17 rdb hR (by show xs.length ≤ _; omega)) ?_
      rintro _ w18 ⟨rfl, h18⟩
      refine ⟨_, rfl, ?_⟩
      refine WL.v (Runs.not rfl) rfl ?_
      refine WL.v (Runs.move rfl) rfl ?_
      refine WL.gon rfl rfl rfl ?_
      refine WL.v (Runs.move rfl) rfl ?_
      refine WL.gon rfl rfl rfl ?_
      refine WL.v (Runs.move rfl) rfl ?_
      refine WL.gon rfl rfl rfl ?_
      refine WL.v (Runs.intT (n := ((writeL xs).length : Int)) (Runs.slen Try.underlying9 rfl rfl) rfl) rfl ?_
      refine WL.gon rfl rfl rfl ?_
      refine WL.v (Runs.boolT (c := false) (Runs.neq rfl rfl) (by simp)) rfl ?_
      refine WL.v (Runs.pick rfl rfl rfl) rfl ?_
      refine WL.v (Runs.move rfl) rfl ?_
      refine WL.gon rfl rfl rfl ?_
      refine WL.v (Runs.move rfl) rfl ?_
      refine WL.gon rfl rfl rfl ?_
      refine WL.call can21 rfl rfl ((Rp.to (rep_torn hm1 hok hj2) (repair_c _ (tearM (writeL xs) x.1 x.2 j) h18 htl))) ?_
      rintro _ w19 ⟨Gc, hGc, rfl, h19⟩
      refine ⟨_, rfl, ?_⟩
      replace hR := hR.mono hGc
      replace rdx := rdx.mono hGc
      replace rd22 := rd22.mono hGc
      replace rda := rda.mono hGc
      replace rdb := rdb.mono hGc
      replace hle := Le.trans hle hGc
      refine WL.gon rfl rfl rfl ?_
      refine WL.v (Runs.move rfl) rfl ?_
      refine WL.gon rfl rfl rfl ?_
      refine WL.v (Runs.boolT (c := false) (Runs.lsneq rfl rfl) (by simp)) rfl ?_
      refine WL.v (Runs.pick rfl rfl rfl) rfl ?_
      refine WL.nil ?_
      refine WN.thn ?_
      refine WC.condF rfl (rfl) ?_
      refine WC.skip ?_
      refine WN.thn ?_
      refine WC.seq ?_
      refine WC.eregF h19 (fun s_ => ([] : List Nat).any (Nat.beq s_)) mixed (by kernel_rfl) (fun hx => ?_)
      intro w20 h20
      refine WE.pure (g := none) hx 0 (by rfl) trivial (by kernel_rfl) (by kernel_rfl) (by kernel_rfl) (by kernel_rfl) (fun w_ => Runs.move rfl) rfl ?_
      refine WE.pure (g := none) hx 2 (by rfl) trivial (by kernel_rfl) (by kernel_rfl) (by kernel_rfl) (by kernel_rfl) (fun w_ => Runs.fld fld45_0 rfl) rfl ?_
      refine WE.pure (g := none) hx 4 (by rfl) trivial (by kernel_rfl) (by kernel_rfl) (by kernel_rfl) (by kernel_rfl) (fun w_ => Runs.fld fld45_1 rfl) rfl ?_
      refine WE.val (g := none) 12 hx 3 (by rfl) trivial (by kernel_rfl) (by kernel_rfl) (by kernel_rfl) (by kernel_rfl) (fun w_ hE_ => Exists.elim hE_ (fun cs_ hC_ => Runs.load1 Try.underlying3 rfl rfl (hC_.cell (ent_0 rdx).1))) rfl ?_
      refine WE.val (g := none) 12 hx 5 (by rfl) trivial (by kernel_rfl) (by kernel_rfl) (by kernel_rfl) (by kernel_rfl) (fun w_ hE_ => Exists.elim hE_ (fun cs_ hC_ => Runs.load1 Try.underlying9 rfl rfl (hC_.cell (ent_0 rdx).2))) rfl ?_
      refine WE.op (.inr (EC.mk h20 (by first | exact Le.refl _ | assumption))) (i := 1) (by rfl) (by kernel_rfl) ?_
      refine WL.call can21 rfl rfl ((Rp.to (rep_torn hm1 hok hj2) (repair_c _ (tearM (writeL xs) x.1 x.2 j) h20 htl))) ?_
      rintro _ w21 ⟨Gd, hGd, rfl, h21⟩
      refine ⟨_, rfl, ?_⟩
      refine WL.nil ?_
      refine WE.next ?_
      refine WE.op (.inr (EC.mk h21 (by first | exact Le.refl _ | assumption))) (i := 6) (by rfl) (by kernel_rfl) ?_
      refine WL.call can9 rfl rfl ((C1.to (g := apV) (app_w rfl hok) (append_c _ (writeL xs) x.1 x.2 h21 (by omega)))) ?_
      rintro _ w22 ⟨rfl, h22⟩
      refine ⟨_, rfl, ?_⟩
      refine WL.nil ?_
      refine WE.next ?_
      refine WE.pure (g := none) hx 7 (by rfl) trivial (by kernel_rfl) (by kernel_rfl) (by kernel_rfl) (by kernel_rfl) (fun w_ => Runs.move rfl) rfl ?_
      refine WE.pure (g := none) hx 8 (by rfl) trivial (by kernel_rfl) (by kernel_rfl) (by kernel_rfl) (by kernel_rfl) (fun w_ => Runs.extract rfl rfl) rfl ?_
      refine WE.pure (g := none) hx 9 (by rfl) trivial (by kernel_rfl) (by kernel_rfl) (by kernel_rfl) (by kernel_rfl) (fun w_ => Runs.extract rfl rfl) rfl ?_
      refine WE.pure (g := none) hx 10 (by rfl) trivial (by kernel_rfl) (by kernel_rfl) (by kernel_rfl) (by kernel_rfl) (fun w_ => Runs.assign rfl) rfl ?_
      refine WE.pure (g := none) hx 11 (by rfl) trivial (by kernel_rfl) (by kernel_rfl) (by kernel_rfl) (by kernel_rfl) (fun w_ => Runs.assign rfl) rfl ?_
      refine WE.fin (.inr (EC.mk h22 (by first | exact Le.refl _ | assumption))) (by kernel_rfl) ?_
      refine WN.thn ?_
      refine WC.seq ?_
      replace hR := hR.mono hGd
      replace rdx := rdx.mono hGd
      replace rd22 := rd22.mono hGd
      replace rda := rda.mono hGd
      replace rdb := rdb.mono hGd
      replace hle := Le.trans hle hGd
      
      refine WC.reg ?_
      refine WL.v (Runs.move rfl) rfl ?_
      refine WL.call can17 rfl rfl ((Rd.to (read_all hys) (read_c _ (writeL (xs ++ [x])) h22 (by have := writeL_len (xs ++ [x]); rw [List.length_append] at this; have e1 : ([x] : List Ent).length = 1 := rfl; omega)))) ?_
      rintro _ w23 ⟨Ge, Ae, cape, hGe, rfl, hce, rde, h23⟩
      refine ⟨_, rfl, ?_⟩
      replace hR := hR.mono hGe
      replace rdx := rdx.mono hGe
      replace rd22 := rd22.mono hGe
      replace rda := rda.mono hGe
      replace rdb := rdb.mono hGe
      replace hle := Le.trans hle hGe
      refine WL.v (Runs.move rfl) rfl ?_
      refine WL.v (Runs.extract rfl rfl) rfl ?_
      refine WL.v (Runs.extract rfl rfl) rfl ?_
      refine WL.v (Runs.assign rfl) rfl ?_
      refine WL.v (Runs.assign rfl) rfl ?_
      refine WL.nil ?_
      refine WN.thn ?_
      refine WC.seq ?_
      refine WC.reg ?_
      refine WL.v (Runs.assign rfl) rfl ?_
      refine WL.nil ?_
      refine WN.thn ?_
      refine WC.seq ?_
      have hN0 := h23.nilRes
      refine WC.reg ?_
      refine WL.v (Runs.move rfl) rfl ?_
      refine WL.v (Runs.move rfl) rfl ?_
      refine WL.appM (f := entC) (ys := xs) 0 hN0 rfl rfl rfl rfl Try.underlying35 Try.underlying35 (.inr ⟨_, rfl⟩) (inf45.elem rfl rfl) (RowM.nil 45 2 entC) (Src.rdM hR hN0 rfl (fun _ => rfl)) rfl (by first | omega | (simp; done) | (simp; omega)) (by first | omega | (simp; done) | (simp; omega)) ?_
      intro r24 v24 w25 hr24 h25
      simp only [List.set_cons_zero, List.set_cons_succ] at h25
      obtain ⟨A24, cap24, rfl, hcap24⟩ := hr24.val
      refine WL.v (Runs.assign rfl) rfl ?_
      refine WL.nil ?_
      refine WN.thn ?_
      refine WC.seq ?_
      refine WC.reg ?_
      refine WL.v (Runs.move rfl) rfl ?_
      refine WL.v (Runs.valT (u := entA x) (Runs.loadRows ((0, []) : Ent) h25 rdx rfl (n := 0) (show 0 < 1 from Nat.one_pos) Try.underlying45 rfl inf45 rfl) rfl) rfl ?_
      refine WL.buildSlice (vs := [entA x]) h25 rfl Try.underlying35 (inf45.elem rfl rfl) rfl rfl rfl (by decide) ?_
      intro lit97 w26 h26
      try simp only [List.set_cons_zero, List.set_cons_succ, List.eraseIdx_cons_zero, List.eraseIdx_cons_succ] at h26
      refine WL.appM (f := entC) (ys := [x]) 1 h26 rfl rfl rfl rfl Try.underlying35 Try.underlying35 (.inr ⟨_, rfl⟩) (inf45.elem rfl rfl) hr24 (Src.litM h26 0 rfl rfl rfl) rfl (by first | omega | (simp; done) | (simp; omega)) (by first | omega | (simp; done) | (simp; omega)) ?_
      intro r27 v27 w28 hr27 h28
      simp only [List.set_cons_zero, List.set_cons_succ] at h28
      replace h28 := h28.drop 0
      simp only [List.eraseIdx_cons_zero, List.eraseIdx_cons_succ] at h28
      obtain ⟨A27, cap27, rfl, hcap27⟩ := hr27.val
      refine WL.v (Runs.assign rfl) rfl ?_
      refine WL.nil ?_
      refine WN.thn ?_
      refine WC.seq ?_
      obtain ⟨G9, hG9, gf9, hS9⟩ := h28.freeze (i := 0) rfl
      have rdo : RdS KEn G9 _ (xs ++ [x]) := RowM.read (f := entC) (m := 2) (fun _ => rfl) hr27 rfl gf9
      replace h28 := hS9
      simp only [List.eraseIdx_cons_zero] at h28
      replace hR := hR.mono hG9
      replace rdx := rdx.mono hG9
      replace rd22 := rd22.mono hG9
      replace rda := rda.mono hG9
      replace rdb := rdb.mono hG9
      replace rde := rde.mono hG9
      replace hle := Le.trans hle hG9
      
      refine WC.reg ?_
      refine WL.v (Runs.move rfl) rfl ?_
      refine WL.v (Runs.boolT (c := true) (Runs.eql rfl rfl) rfl) rfl ?_
      refine WL.v (Runs.move rfl) rfl ?_
      refine WL.gon rfl rfl rfl ?_
      refine WL.v (Runs.move rfl) rfl ?_
      refine WL.gon rfl rfl rfl ?_
      refine WL.v (Runs.move rfl) rfl ?_
      refine WL.gon rfl rfl rfl ?_
      refine WL.v (Runs.intT (n := ((writeL (xs ++ [x])).length : Int)) (Runs.slen Try.underlying9 rfl rfl) rfl) rfl ?_
      refine WL.gon rfl rfl rfl ?_
      refine WL.v (Runs.boolT (c := true) (Runs.eql rfl rfl) (by simp)) rfl ?_
      refine WL.v (Runs.pick rfl rfl rfl) rfl ?_
      refine WL.v (Runs.move rfl) rfl ?_
      refine WL.gon rfl rfl rfl ?_
      refine WL.v (Runs.move rfl) rfl ?_
      refine WL.gon rfl rfl rfl ?_
      refine WL.call can20 rfl rfl (told_c _ h28 rde (by show (xs ++ [x]).length ≤ _; rw [List.length_append]; show xs.length + 1 ≤ _; omega)) ?_
      rintro _ w29 ⟨Gf, Af, capf, hGf, rfl, rdf, h29⟩
      refine ⟨_, rfl, ?_⟩
      replace hR := hR.mono hGf
      replace rdx := rdx.mono hGf
      replace rd22 := rd22.mono hGf
      replace rda := rda.mono hGf
      replace rdb := rdb.mono hGf
      replace rde := rde.mono hGf
      replace rdo := rdo.mono hGf
      replace hle := Le.trans hle hGf
      refine WL.gon rfl rfl rfl ?_
      refine WL.v (Runs.move rfl) rfl ?_
      refine WL.gon rfl rfl rfl ?_
      refine WL.call can19 rfl rfl (esame_c _ h29 rdf rdo (by rw [List.length_append]; show xs.length + 1 ≤ _; omega)) ?_
      rintro _ w30 ⟨rfl, h30⟩
      refine ⟨_, rfl, ?_⟩
      refine WL.v (Runs.pick rfl rfl rfl) rfl ?_
      refine WL.v (Runs.move rfl) rfl ?_
      refine WL.gon rfl rfl rfl ?_
      refine WL.call can8 rfl rfl (live_c _ h30) ?_
      rintro _ w31 ⟨rfl, h31⟩
      refine ⟨_, rfl, ?_⟩
      refine WL.v (Runs.pick rfl rfl rfl) rfl ?_
      refine WL.v (Runs.assign rfl) rfl ?_
      refine WL.nil ?_
      refine WN.thn ?_
      refine WC.ret ?_
      exact ret1 rfl rfl ⟨rfl, h31.weak hle⟩
end Jo
end Go.Proofs.Ythjcfhfbaeokeaa
