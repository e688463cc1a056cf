/- Some answers that the document gives. -/
import Derived.Test.YthjcfhfbaeokeaaMJ11
namespace Go.Proofs.Ythjcfhfbaeokeaa
open Go Go.RowKit B
set_option linter.unusedVariables false
set_option linter.unusedSimpArgs false
namespace Jo
open Wir (Vi textB numB rdT rdEnd wtext_c)

theorem can9 : B.Can Try.prog 9 := ⟨_, Try.func9, by kernel_rfl, rfl⟩   -- roundhouse/journal.Append
theorem can13 : B.Can Try.prog 13 := ⟨_, Try.func13, by kernel_rfl, rfl⟩   -- roundhouse/journal.Tear
theorem can15 : B.Can Try.prog 15 := ⟨_, Try.func15, by kernel_rfl, rfl⟩   -- roundhouse/journal.Compact
theorem can19 : B.Can Try.prog 19 := ⟨_, Try.func19, by kernel_rfl, rfl⟩   -- roundhouse/roundhouseref08.Same
theorem can20 : B.Can Try.prog 20 := ⟨_, Try.func20, by kernel_rfl, rfl⟩   -- roundhouse/roundhouselaw08.told
theorem can21 : B.Can Try.prog 21 := ⟨_, Try.func21, by kernel_rfl, rfl⟩   -- roundhouse/journal.Repair
theorem can23 : B.Can Try.prog 23 := ⟨_, Try.func23, by kernel_rfl, rfl⟩   -- roundhouse/journal.Since
def vA : List UInt8 := recB 0 [97, 98]
def vB : List UInt8 := vA ++ recB 1 []
def vT : List UInt8 := vB ++ (recB 0 [99, 100]).take 5
def vR : List Ent := [(0, [97, 98]), (1, [])]
def apV (z : List UInt8 × Int) : Value := .tuple #[.string (bs z.1), Vi z.2]
theorem C1.to {W : World} {F : Snap} {cs : List Res} {w : World} {P : Program} {f : FuncId} {a : Array Value} {α : Type} {g : α → Value} {x y : α} (h1 : x = y) (h : Calls P f a w fun r w' => r = .returned (g x) ∧ St W F cs w') : Calls P f a w fun r w' => r = .returned (g y) ∧ St W F cs w' := by
  subst h1
  exact h
theorem Rd.to {W : World} {F : Snap} {cs : List Res} {w : World} {P : Program} {f : FuncId} {a : Array Value} {x y : List Ent × Nat} (h1 : x = y) (h : Calls P f a w fun r w' => ∃ G A cap, Le F G ∧ r = .returned (.tuple #[.slice A x.1.length cap, Vi (x.2 : Nat)]) ∧ x.1.length ≤ cap ∧ RdS KEn G A x.1 ∧ St W G cs w') : Calls P f a w fun r w' => ∃ G A cap, Le F G ∧ r = .returned (.tuple #[.slice A y.1.length cap, Vi (y.2 : Nat)]) ∧ y.1.length ≤ cap ∧ RdS KEn G A y.1 ∧ St W G cs w' := by
  subst h1
  exact h
theorem Si.to {W : World} {F : Snap} {cs : List Res} {w : World} {P : Program} {f : FuncId} {a : Array Value} {x y : List Ent} (h1 : x = y) (h : Calls P f a w fun r w' => ∃ G A cap, Le F G ∧ r = .returned (.slice A x.length cap) ∧ x.length ≤ cap ∧ RdS KEn G A x ∧ St W G cs w') : Calls P f a w fun r w' => ∃ G A cap, Le F G ∧ r = .returned (.slice A y.length cap) ∧ y.length ≤ cap ∧ RdS KEn G A y ∧ St W G cs w' := by
  subst h1
  exact h
theorem Rp.to {W : World} {F : Snap} {cs : List Res} {w : World} {P : Program} {f : FuncId} {a : Array Value} {x y : List UInt8} (h1 : x = y) (h : Calls P f a w fun r w' => ∃ G, Le F G ∧ r = .returned (.string (bs x)) ∧ St W G cs w') : Calls P f a w fun r w' => ∃ G, Le F G ∧ r = .returned (.string (bs y)) ∧ St W G cs w' := by
  subst h1
  exact h
theorem appM_y {l : List UInt8} {k : Int} {s : List UInt8} (h : okR k s) : appM l k s = (l ++ recB k s, 0) := by
  unfold appM
  rw [if_neg (fun hh => hh h.1), if_neg (by have := h.2; omega)]
theorem lv_A : appM [] 0 [97, 98] = (vA, 0) := appM_y (by decide)
theorem lv_B : appM vA 1 [] = (vB, 0) := appM_y (by decide)
theorem lv_W : vB = writeL vR := by
  show recB 0 [97, 98] ++ recB 1 [] = recB 0 [97, 98] ++ (recB 1 [] ++ [])
  rw [List.append_nil]
theorem rec_len {k : Int} {s : List UInt8} (h : okR k s) : (recB k s).length = (textB s).length + 6 := by
  rw [recB_y h, List.length_append, sumB, List.length_take, of_l, hdB, List.length_cons, List.length_cons]
  omega
theorem lv_t2 : (textB [99, 100]).length = 4 := by
  unfold textB
  rw [if_neg (by decide), List.length_append, Wir.numB_y (by decide)]
  unfold Wir.numN
  rw [show ((([99, 100] : List UInt8).length : Int)).toNat = 2 from rfl, Wir.hi_s (by decide), show (2 / 256 : Nat) = 0 from rfl, Wir.hi_0]
  rfl
theorem lv_t0 : textB [] = [0] := by
  unfold textB
  rw [if_neg (by decide), Wir.numB_y (by decide)]
  unfold Wir.numN
  rw [show ((([] : List UInt8).length : Int)).toNat = 0 from rfl, Wir.hi_0]
  rfl
theorem lv_R : readM vT = (vR, vB.length) := by
  unfold vT
  rw [lv_W]
  refine readM_write (fun x hx => ?_) (first_torn (by decide) (by rw [rec_len (by decide), lv_t2]; decide))
  rcases List.mem_cons.1 hx with rfl | hx
  · exact (by decide : okR 0 [97, 98])
  · obtain rfl := List.mem_singleton.1 hx
    exact (by decide : okR 1 [])
theorem lv_S : sinceL (readM vT).1 = [(1, [])] := by rw [lv_R]; rfl
theorem lv_G : appM vA 2 [] = (vA, 1) := if_pos (by decide)
theorem lv_L : ((vT.length : Nat) : Int) = (vB.length : Int) + 5 := by
  unfold vT
  rw [List.length_append, List.length_take, rec_len (by decide), lv_t2]
  omega
theorem lv_7 : ((recB 0 []).length : Int) = 7 := by rw [rec_len (by decide), lv_t0]; rfl
theorem lv_3 : (recB 0 []).take 3 = [74, 0, 0] := by
  rw [recB_y (by decide), hdB, lv_t0]
  rfl
theorem lv_P : vT.take (readM vT).2 = vB := by
  rw [lv_R]
  exact List.take_left' rfl
theorem lv_C : compM vB [120] = recB 1 [120] := if_neg (by decide)
theorem vA_len : vA.length ≤ 6000 := recB_len
theorem vB_len : vB.length ≤ 12000 := by
  have h1 := vA_len
  have h2 := recB_len (k := 1) (s := [])
  unfold vB
  rw [List.length_append]
  omega
theorem vT_len : vT.length ≤ 100000 := by
  have h1 := vB_len
  have h2 := lv_L
  omega
set_option maxRecDepth 100000 in
set_option maxHeartbeats 8000000 in
theorem live_c {W : World} {F : Snap} {cs : List Res} (w : World) (h : St W F cs w) : Calls Try.prog 8 #[] w fun r w' => r = .returned (.bool true) ∧ St W F cs w'  := by
  refine enter (P := Try.prog) (args := []) Try.func8 rfl rfl rfl ?_
  have hle : Le F F := Le.refl F
  refine WC.seq ?_
  refine WC.reg ?_
  refine WL.v (Runs.assign rfl) rfl ?_
  refine WL.nil ?_
  refine WN.thn ?_
  refine WC.seq ?_
  refine WC.reg ?_
  refine WL.call can9 rfl rfl ((C1.to (g := apV) lv_A (append_c _ [] 0 [97, 98] h (by decide)))) ?_
  rintro _ w1 ⟨rfl, h1⟩
  refine ⟨_, rfl, ?_⟩
  refine WL.v (Runs.move rfl) rfl ?_
  refine WL.v (Runs.extract rfl rfl) rfl ?_
  refine WL.v (Runs.extract rfl rfl) rfl ?_
  refine WL.v (Runs.assign rfl) rfl ?_
  refine WL.v (Runs.assign rfl) rfl ?_
  refine WL.nil ?_
  refine WN.thn ?_
  refine WC.seq ?_
  refine WC.reg ?_
  refine WL.v (Runs.move rfl) rfl ?_
  refine WL.call can9 rfl rfl ((C1.to (g := apV) lv_B (append_c _ vA 1 [] h1 (by have := vA_len; omega)))) ?_
  rintro _ w2 ⟨rfl, h2⟩
  refine ⟨_, rfl, ?_⟩
  refine WL.v (Runs.move rfl) rfl ?_
  refine WL.v (Runs.extract rfl rfl) rfl ?_
  refine WL.v (Runs.extract rfl rfl) rfl ?_
  refine WL.v (Runs.assign rfl) rfl ?_
  refine WL.v (Runs.assign rfl) rfl ?_
  refine WL.nil ?_
  refine WN.thn ?_
  refine WC.seq ?_
  refine WC.reg ?_
  refine WL.v (Runs.move rfl) rfl ?_
  refine WL.call can13 rfl rfl ((show Calls _ _ _ _ (fun r w' => r = .returned (.string (bs vT)) ∧ St W _ _ w') from tear_c _ vB 0 [99, 100] 5 h2 (by have := vB_len; omega))) ?_
  rintro _ w3 ⟨rfl, h3⟩
  refine ⟨_, rfl, ?_⟩
  refine WL.v (Runs.assign rfl) rfl ?_
  refine WL.nil ?_
  refine WN.thn ?_
  refine WC.seq ?_
  refine WC.reg ?_
  refine WL.v (Runs.move rfl) rfl ?_
  refine WL.call can17 rfl rfl ((Rd.to lv_R (read_c _ vT h3 vT_len))) ?_
  rintro _ w4 ⟨Ga, Aa, capa, hGa, rfl, hca, rda, h4⟩
  refine ⟨_, rfl, ?_⟩
  
  replace hle := Le.trans hle hGa
  refine WL.v (Runs.move rfl) rfl ?_
  refine WL.v (Runs.extract rfl rfl) rfl ?_
  refine WL.v (Runs.extract rfl rfl) rfl ?_
  refine WL.v (Runs.assign rfl) rfl ?_
  refine WL.v (Runs.assign rfl) rfl ?_
  refine WL.nil ?_
  refine WN.thn ?_
  refine WC.seq ?_
  refine WC.reg ?_
  refine WL.v (Runs.move rfl) rfl ?_
  refine WL.call can23 rfl rfl ((Si.to lv_S (since_c _ vT h4 vT_len))) ?_
  rintro _ w5 ⟨Gb, Ab, capb, hGb, rfl, hcb, rdb, h5⟩
  refine ⟨_, rfl, ?_⟩
  replace rda := rda.mono hGb
  replace hle := Le.trans hle hGb
  refine WL.v (Runs.assign rfl) rfl ?_
  refine WL.nil ?_
  refine WN.thn ?_
  refine WC.seq ?_
  refine WC.reg ?_
  refine WL.v (Runs.move rfl) rfl ?_
  refine WL.call can9 rfl rfl ((C1.to (g := apV) lv_G (append_c _ vA 2 [] h5 (by have := vA_len; omega)))) ?_
  rintro _ w6 ⟨rfl, h6⟩
  refine ⟨_, rfl, ?_⟩
  refine WL.v (Runs.move rfl) rfl ?_
  refine WL.v (Runs.extract rfl rfl) rfl ?_
  refine WL.v (Runs.extract rfl rfl) rfl ?_
  refine WL.v (Runs.assign rfl) rfl ?_
  refine WL.v (Runs.assign rfl) rfl ?_
  refine WL.nil ?_
  refine WN.thn ?_
  refine WC.seq ?_
  obtain ⟨ab, rfl, hen0⟩ := ent_at rdb (n := 0) (by decide)
  refine WC.reg ?_
  refine WL.call can11 rfl rfl (record_c _ 0 [] h6) ?_
  rintro _ w7 ⟨rfl, h7⟩
  refine ⟨_, rfl, ?_⟩
  refine WL.v (Runs.intT (n := ((recB 0 []).length : Int)) (Runs.slen Try.underlying9 rfl rfl) rfl) rfl ?_
  refine WL.v (Runs.boolT (c := true) (Runs.eql rfl rfl) (decide_eq_true lv_7)) rfl ?_
  refine WL.v (Runs.move rfl) rfl ?_
  refine WL.gon rfl rfl rfl ?_
  refine WL.call can11 rfl rfl (record_c _ 0 [] h7) ?_
  rintro _ w8 ⟨rfl, h8⟩
  refine ⟨_, rfl, ?_⟩
  refine WL.gon rfl rfl rfl ?_
  refine WL.v (Runs.lssl_hi Try.underlying9 rfl rfl (m := 3) rfl (by have := lv_7; omega)) rfl ?_
  refine WL.gon rfl rfl rfl ?_
  refine WL.v (Runs.boolT (c := true) (Runs.lseql (a := (recB 0 []).take 3) (b := [74, 0, 0]) rfl rfl) (decide_eq_true lv_3)) rfl ?_
  refine WL.v (Runs.pick rfl rfl rfl) rfl ?_
  refine WL.v (Runs.move rfl) rfl ?_
  refine WL.gon rfl rfl rfl ?_
  refine WL.v (Runs.move rfl) rfl ?_
  refine WL.gon rfl rfl rfl ?_
  refine WL.v (Runs.boolT (c := true) (Runs.eql rfl rfl) rfl) rfl ?_
  refine WL.v (Runs.pick rfl rfl rfl) rfl ?_
  refine WL.v (Runs.move rfl) rfl ?_
  refine WL.gon rfl rfl rfl ?_
  refine WL.v (Runs.move rfl) rfl ?_
  refine WL.gon rfl rfl rfl ?_
  refine WL.v (Runs.boolT (c := true) (Runs.eql rfl rfl) rfl) rfl ?_
  refine WL.v (Runs.pick rfl rfl rfl) rfl ?_
  refine WL.v (Runs.move rfl) rfl ?_
  refine WL.gon rfl rfl rfl ?_
  refine WL.v (Runs.move rfl) rfl ?_
  refine WL.gon rfl rfl rfl ?_
  refine WL.v (Runs.intT (n := (vT.length : Int)) (Runs.slen Try.underlying9 rfl rfl) rfl) rfl ?_
  refine WL.gon rfl rfl rfl ?_
  refine WL.v (Runs.move rfl) rfl ?_
  refine WL.gon rfl rfl rfl ?_
  refine WL.v (Runs.intT (n := (vB.length : Int)) (Runs.slen Try.underlying9 rfl rfl) rfl) rfl ?_
  refine WL.gon rfl rfl rfl ?_
  refine WL.v (Runs.addn rfl rfl (by have := vB_len; omega)) rfl ?_
  refine WL.gon rfl rfl rfl ?_
  refine WL.v (Runs.boolT (c := true) (Runs.eql rfl rfl) (decide_eq_true lv_L)) rfl ?_
  refine WL.v (Runs.pick rfl rfl rfl) rfl ?_
  refine WL.v (Runs.move rfl) rfl ?_
  refine WL.gon rfl rfl rfl ?_
  refine WL.v (Runs.move rfl) rfl ?_
  refine WL.gon rfl rfl rfl ?_
  refine WL.v (Runs.move rfl) rfl ?_
  refine WL.gon rfl rfl rfl ?_
  refine WL.v (Runs.intT (n := (vB.length : Int)) (Runs.slen Try.underlying9 rfl rfl) rfl) rfl ?_
  refine WL.gon rfl rfl rfl ?_
  refine WL.v (Runs.boolT (c := true) (Runs.eql rfl rfl) (by simp)) rfl ?_
  refine WL.v (Runs.pick rfl rfl rfl) rfl ?_
  refine WL.v (Runs.move rfl) rfl ?_
  refine WL.gon rfl rfl rfl ?_
  refine WL.v (Runs.move rfl) rfl ?_
  refine WL.gon rfl rfl rfl ?_
  refine WL.call can20 rfl rfl (told_c _ h8 rda (by decide)) ?_
  rintro _ w9 ⟨Gc, Bc, capc, hGc, rfl, rdc, h9⟩
  refine ⟨_, rfl, ?_⟩
  replace rda := rda.mono hGc
  replace rdb := rdb.mono hGc
  replace hle := Le.trans hle hGc
  refine WL.gon rfl rfl rfl ?_
  refine WL.v (Runs.build (vs := [(1, .string (bs [97, 98]))]) (cells := #[Vi 0, .string (bs [97, 98])]) rfl (by kernel_rfl)) rfl ?_
  refine WL.gon rfl rfl rfl ?_
  refine WL.v (Runs.build (vs := [(0, Vi 1)]) (cells := #[Vi 1, .string (bs [])]) rfl (by kernel_rfl)) rfl ?_
  refine WL.gon rfl rfl rfl ?_
  refine WL.buildSlice (vs := [entA (0, [97, 98]), entA (1, [])]) h9 rfl Try.underlying35 (inf45.elem rfl rfl) rfl rfl rfl (by decide) ?_
  intro lit69 w10 h10
  try simp only [List.set_cons_zero, List.set_cons_succ, List.eraseIdx_cons_zero, List.eraseIdx_cons_succ] at h10
  obtain ⟨G69, gl69, gf69, hS69⟩ := h10.freeze (i := 0) rfl
  have rd69 : RdS KEn G69 (some ⟨lit69, 0, none⟩) [(0, [97, 98]), (1, [])] := RdS.blks [entC (0, [97, 98]), entC (1, [])] (gf69 _ List.mem_cons_self) rfl ⟨rfl, rfl, trivial⟩
  replace h10 := hS69
  simp only [List.eraseIdx_cons_zero] at h10
  replace rda := rda.mono gl69
  replace rdb := rdb.mono gl69
  replace rdc := rdc.mono gl69
  replace hle := Le.trans hle gl69
  refine WL.gon rfl rfl rfl ?_
  refine WL.call can19 rfl rfl (esame_c _ h10 rdc rd69 (by decide)) ?_
  rintro _ w11 ⟨rfl, h11⟩
  refine ⟨_, rfl, ?_⟩
  refine WL.v (Runs.pick rfl rfl rfl) rfl ?_
  refine WL.v (Runs.move rfl) rfl ?_
  refine WL.gon rfl rfl rfl ?_
  refine WL.v (Runs.move rfl) rfl ?_
  refine WL.gon rfl rfl rfl ?_
  refine WL.v (Runs.intT (n := ((([(1, [])] : List Ent).length : Nat) : Int)) (Runs.llen Try.underlying32 rfl rfl) rfl) rfl ?_
  refine WL.gon rfl rfl rfl ?_
  refine WL.v (Runs.boolT (c := true) (Runs.eql rfl rfl) rfl) rfl ?_
  refine WL.v (Runs.pick rfl rfl rfl) rfl ?_
  refine WL.v (Runs.move rfl) rfl ?_
  refine WL.gon rfl rfl rfl ?_
  refine WL.v (Runs.move rfl) rfl ?_
  refine WL.gon rfl rfl rfl ?_
  refine WL.v (Runs.lidxK Try.underlying32 inf50 rfl rfl (n := 0) rfl (by decide)) rfl ?_
  refine WL.gon rfl rfl rfl ?_
  refine WL.v (Runs.fld fld50_0 rfl) rfl ?_
  refine WL.gon rfl rfl rfl ?_
  refine WL.v (Runs.load1 Try.underlying3 rfl rfl (by obtain ⟨a9, e9, hen⟩ := ent_at rdb (n := 0) (by decide); injection e9 with e9; subst e9; rw [add_add]; exact h11.cell (hen 0 _ rfl))) rfl ?_
  refine WL.gon rfl rfl rfl ?_
  refine WL.v (Runs.boolT (c := true) (Runs.eql rfl rfl) rfl) rfl ?_
  refine WL.v (Runs.pick rfl rfl rfl) rfl ?_
  refine WL.v (Runs.move rfl) rfl ?_
  refine WL.gon rfl rfl rfl ?_
  refine WL.v (Runs.move rfl) rfl ?_
  refine WL.gon rfl rfl rfl ?_
  refine WL.call can21 rfl rfl ((Rp.to lv_P (repair_c _ vT h11 vT_len))) ?_
  rintro _ w12 ⟨Gd, hGd, rfl, h12⟩
  refine ⟨_, rfl, ?_⟩
  replace rda := rda.mono hGd
  replace rdb := rdb.mono hGd
  replace rdc := rdc.mono hGd
  replace rd69 := rd69.mono hGd
  replace hle := Le.trans hle hGd
  refine WL.gon rfl rfl rfl ?_
  refine WL.v (Runs.move rfl) rfl ?_
  refine WL.gon rfl rfl rfl ?_
  refine WL.v (Runs.boolT (c := true) (Runs.lseql (a := vB) (b := vB) rfl rfl) (decide_eq_true rfl)) rfl ?_
  refine WL.v (Runs.pick rfl rfl rfl) rfl ?_
  refine WL.v (Runs.move rfl) rfl ?_
  refine WL.gon rfl rfl rfl ?_
  refine WL.v (Runs.move rfl) rfl ?_
  refine WL.gon rfl rfl rfl ?_
  refine WL.v (Runs.boolT (c := true) (Runs.eql rfl rfl) rfl) rfl ?_
  refine WL.v (Runs.pick rfl rfl rfl) rfl ?_
  refine WL.v (Runs.move rfl) rfl ?_
  refine WL.gon rfl rfl rfl ?_
  refine WL.v (Runs.move rfl) rfl ?_
  refine WL.gon rfl rfl rfl ?_
  refine WL.call can15 rfl rfl ((C1.to (g := fun z => .string (bs z)) lv_C (compact_c _ vB [120] h12))) ?_
  rintro _ w13 ⟨rfl, h13⟩
  refine ⟨_, rfl, ?_⟩
  refine WL.gon rfl rfl rfl ?_
  refine WL.call can11 rfl rfl (record_c _ 1 [120] h13) ?_
  rintro _ w14 ⟨rfl, h14⟩
  refine ⟨_, rfl, ?_⟩
  refine WL.gon rfl rfl rfl ?_
  refine WL.v (Runs.boolT (c := true) (Runs.lseql (a := recB 1 [120]) (b := recB 1 [120]) rfl rfl) (decide_eq_true rfl)) rfl ?_
  refine WL.v (Runs.pick rfl rfl rfl) rfl ?_
  refine WL.v (Runs.assign rfl) rfl ?_
  refine WL.nil ?_
  refine WN.thn ?_
  refine WC.ret ?_
  exact ret1 rfl rfl ⟨rfl, h14.weak hle⟩
end Jo
end Go.Proofs.Ythjcfhfbaeokeaa
