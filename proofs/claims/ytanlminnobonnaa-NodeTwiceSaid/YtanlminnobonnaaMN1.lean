/- What a node decides, plainly; walks of package node: what is asked. -/
import Derived.Test.YtanlminnobonnaaProg
import Derived.KernelRfl
import Derived.Test.YtanlminnobonnaaMBaseAH
import Derived.Test.YtanlminnobonnaaMR13
namespace Go.Proofs.Ytanlminnobonnaa
open Go Go.RowKit B
set_option linter.unusedVariables false
set_option linter.unusedSimpArgs false
namespace Rc

theorem inf27 : Inf Try.prog 27 (.agg #[.int .i64 0, .int .i64 0, .int .i64 0, .int .i64 0, .int .i64 0, .int .i64 0, .int .i64 0, .string ⟨#[]⟩]) 8 72 := by unfold Inf; kernel_rfl
theorem inf39 : Inf Try.prog 39 (.agg #[.bool false, .int .i64 0, .int .i64 0, .int .i64 0, .int .i64 0, .int .i64 0, .slice none 0 0, .bool false, .int .i64 0, .int .i64 0, .int .i64 0, .int .i64 0, .int .i64 0, .int .i64 0, .int .i64 0, .string ⟨#[]⟩, .bool false, .bool false, .bool false]) 19 160 := by unfold Inf; kernel_rfl
theorem fld27_3 : fldB Try.prog 27 3 3 = true := by kernel_rfl
theorem fld27_4 : fldB Try.prog 27 4 4 = true := by kernel_rfl
theorem fld27_5 : fldB Try.prog 27 5 5 = true := by kernel_rfl
theorem fld39_2 : fldB Try.prog 39 2 7 = true := by kernel_rfl
theorem fld39_3 : fldB Try.prog 39 3 8 = true := by kernel_rfl
theorem fld85_0 : fldB Try.prog 85 0 0 = true := by kernel_rfl
theorem fld85_1 : fldB Try.prog 85 1 8 = true := by kernel_rfl
theorem fld85_2 : fldB Try.prog 85 2 9 = true := by kernel_rfl
theorem fld85_3 : fldB Try.prog 85 3 12 = true := by kernel_rfl
theorem fld85_4 : fldB Try.prog 85 4 15 = true := by kernel_rfl
theorem fld85_5 : fldB Try.prog 85 5 16 = true := by kernel_rfl
theorem fld85_6 : fldB Try.prog 85 6 22 = true := by kernel_rfl
theorem can82 : B.Can Try.prog 82 := ⟨_, Try.func82, by kernel_rfl, rfl⟩   -- (*roundhouse/node.asked).newer$1
structure M where
  kd : Int
  fr : Int
  to : Int
  jb : Int
  ep : Int
  st : Int
  ar : Int
  tx : ByteArray
deriving DecidableEq
structure Ac where
  has : Bool
  rc : R
  bk : Bool
  rp : M
  sta : Bool
  kil : Bool
  can : Bool
structure Fc where
  cr : Int
  ps : List Int
  cd : Int
  bz : Bool
def M0 : M := ⟨0, 0, 0, 0, 0, 0, 0, ⟨#[]⟩⟩
def A0 : Ac := ⟨false, R0, false, M0, false, false, false⟩
abbrev acv (A : Option Addr) (cap : Nat) (a : Ac) : Array Value := #[.bool a.has, Vi a.rc.kd, Vi a.rc.jb, Vi a.rc.ep, Vi a.rc.st, Vi a.rc.ar, .slice A a.rc.ls.length cap, .bool a.bk, Vi a.rp.kd, Vi a.rp.fr, Vi a.rp.to, Vi a.rp.jb, Vi a.rp.ep, Vi a.rp.st, Vi a.rp.ar, .string a.rp.tx, .bool a.sta, .bool a.kil, .bool a.can]
def GivesA (W : World) (F : Snap) (cs : List Res) (a : Ac) (e : Ending) (w : World) : Prop := ∃ G A cap, Le F G ∧ e = .returned (.agg (acv A cap a)) ∧ RdS (Kd.one Vi) G A a.rc.ls ∧ St W G cs w
def hasJ (z : Z) (m : M) : Bool := (findM z m.jb m.ep).2
def phJ (z : Z) (m : M) : Int := (findM z m.jb m.ep).1.ph
def hasS (z : Z) (m : M) : Bool := (stepM z m.jb m.ep m.st).2
def phS (z : Z) (m : M) : Int := (stepM z m.jb m.ep m.st).1.ph
def upB (z : Z) (m : M) : Bool := hasJ z m && decide (phJ z m = 0)
def phB (z : Z) (m : M) (p : Int) : Bool := hasS z m && decide (phS z m = p)
def nwB (m : M) (x : J) : Bool := decide (x.jb = m.jb) && decide (x.ep > m.ep)
def nwM (z : Z) (m : M) : Bool := z.js.any (nwB m)
def wrM (m : M) (kd ar : Int) : Ac := { A0 with has := true, rc := ⟨kd, m.jb, m.ep, if kd = 0 ∨ 6 ≤ kd then 0 else m.st, ar, []⟩ }
def anM (id : Int) (m : M) (a : Ac) (kd ar : Int) : Ac := { a with bk := true, rp := ⟨kd, id, -1, m.jb, m.ep, m.st, ar, ⟨#[]⟩⟩ }
def mn1 (n : Int) : Int := if 1 < n then 1 else n
def prologA (id : Int) (z : Z) (m : M) (c : Int) : Ac :=
  if upB z m = true then anM id m A0 1 0 else if (hasJ z m && decide (phJ z m = 1)) = true then anM id m A0 1 1 else if (hasJ z m && decide (phJ z m = 2)) = true then anM id m A0 9 0
  else if (hasJ z m || nwM z m) = true then A0 else if z.dr = true then anM id m A0 1 1 else anM id m (wrM m 0 c) 1 (mn1 c)
def launchA (id : Int) (z : Z) (m : M) (f : Fc) : Ac :=
  if phB z m 2 = true then anM id m A0 3 0 else if hasS z m = true then anM id m A0 3 1 else if upB z m = false ∨ f.cr ≠ 0 ∨ f.ps.length = 0 then anM id m A0 3 0
  else anM id m { wrM m 1 0 with rc := { (wrM m 1 0).rc with ls := f.ps } } 3 1
def releaseA (id : Int) (z : Z) (m : M) : Ac := if phB z m 0 = true then { wrM m 3 0 with sta := true } else if phB z m 3 = true then anM id m A0 6 (stepM z m.jb m.ep m.st).1.cd else A0
def abortA (z : Z) (m : M) : Ac := if phB z m 0 = true then { wrM m 4 0 with kil := true } else if (!hasS z m && upB z m) = true then wrM m 2 0 else A0
def finishA (id : Int) (z : Z) (m : M) (f : Fc) : Ac :=
  if (hasJ z m = true ∧ phJ z m = 2) ∨ (hasJ z m = false ∧ nwM z m = true) then anM id m A0 9 0 else if hasJ z m = false then anM id m (wrM m 7 0) 9 0
  else if aliveM z m.jb m.ep = true ∨ f.bz = true then A0 else anM id m (wrM m 6 f.cd) 9 (mn1 f.cd)
def decideM (id : Int) (z : Z) (m : M) (f : Fc) : Ac × Int :=
  if ¬ (0 ≤ id ∧ id ≤ 15) ∨ ¬ (0 ≤ f.cd ∧ f.cd ≤ 255) ∨ m.fr ≠ -1 ∨ m.to ≠ id then (A0, 1)
  else if m.kd = 0 then (prologA id z m f.cd, 0) else if m.kd = 2 then (launchA id z m f, 0) else if m.kd = 4 then (releaseA id z m, 0) else if m.kd = 5 then (abortA z m, 0)
  else if m.kd = 7 then ({ A0 with can := phB z m 1 }, 0) else if m.kd = 8 then (finishA id z m f, 0) else (A0, 5)
/-- what is asked, as it lies in memory -/
def AK (F : Snap) (b : Nat) (id : Int) (z : Z) (m : M) : Prop := ∃ AJ AS cj cS A1 c1, F b = some (.cells #[Vi m.kd, Vi m.fr, Vi m.to, Vi m.jb, Vi m.ep, Vi m.st, Vi m.ar, .string m.tx, Vi id, .slice AJ z.js.length cj, .slice AS z.ss.length cS, .bool z.dr, Vi (findM z m.jb m.ep).1.jb, Vi (findM z m.jb m.ep).1.ep, Vi (findM z m.jb m.ep).1.ph, .bool (findM z m.jb m.ep).2, Vi (stepM z m.jb m.ep m.st).1.jb, Vi (stepM z m.jb m.ep m.st).1.ep, Vi (stepM z m.jb m.ep m.st).1.st, Vi (stepM z m.jb m.ep m.st).1.ph, Vi (stepM z m.jb m.ep m.st).1.cd, .slice A1 (stepM z m.jb m.ep m.st).1.ps.length c1, .bool (stepM z m.jb m.ep m.st).2] 85 (0, 0)) ∧ ZR F AJ AS z ∧ RdS (Kd.one Vi) F A1 (stepM z m.jb m.ep m.st).1.ps
theorem AK.mono {F G : Snap} {b : Nat} {id : Int} {z : Z} {m : M} (hle : Le F G) (h : AK F b id z m) : AK G b id z m := by
  obtain ⟨AJ, AS, cj, cS, A1, c1, h1, h2, h3⟩ := h
  exact ⟨AJ, AS, cj, cS, A1, c1, hle _ _ h1, h2.mono hle, h3.mono hle⟩
set_option maxRecDepth 100000 in
set_option maxHeartbeats 1000000 in
theorem nin_c {W : World} {F : Snap} {cs : List Res} (w : World) (n a b : Int) (h : St W F cs w) : Calls Try.prog 26 #[Vi n, Vi a, Vi b] w fun r w' => r = .returned (.bool (inB n a b)) ∧ St W F cs w'  := by
  refine enter (P := Try.prog) (args := [Vi n, Vi a, Vi b]) Try.func26 rfl rfl rfl ?_
  refine WC.seq (WC.reg ?_)
  refine WL.v (Runs.assign rfl) rfl ?_
  refine WL.nil (WN.thn (WC.seq ?_))
  by_cases h0 : n ≥ a
  · skip
    refine WC.reg ?_
    refine WL.v (Runs.move rfl) rfl ?_
    refine WL.v (Runs.move rfl) rfl ?_
    refine WL.v (Runs.boolT (c := true) (Runs.geq rfl rfl) (decide_eq_true h0)) rfl ?_
    refine WL.v (Runs.move rfl) rfl ?_
    refine WL.gon rfl rfl rfl ?_
    refine WL.v (Runs.move rfl) rfl ?_
    refine WL.gon rfl rfl rfl ?_
    refine WL.v (Runs.move rfl) rfl ?_
    refine WL.gon rfl rfl rfl ?_
    refine WL.v (Runs.leq rfl rfl) rfl ?_
    refine WL.v (Runs.pick rfl rfl rfl) rfl ?_
    refine WL.v (Runs.assign rfl) rfl ?_
    refine WL.nil (WN.thn (WC.ret ?_))
    refine ret1 rfl rfl ⟨?_, h⟩
    rw [in_dec, decide_eq_true h0]; rfl
  · skip
    refine WC.reg ?_
    refine WL.v (Runs.move rfl) rfl ?_
    refine WL.v (Runs.move rfl) rfl ?_
    refine WL.v (Runs.boolT (c := false) (Runs.geq rfl rfl) (decide_eq_false h0)) rfl ?_
    refine WL.v (Runs.move rfl) rfl ?_
    refine WL.goff rfl rfl rfl rfl ?_
    refine WL.goff rfl rfl rfl rfl ?_
    refine WL.goff rfl rfl rfl rfl ?_
    refine WL.v (Runs.pick rfl rfl rfl) rfl ?_
    refine WL.v (Runs.assign rfl) rfl ?_
    refine WL.nil (WN.thn (WC.ret ?_))
    refine ret1 rfl rfl ⟨?_, h⟩
    rw [in_dec, decide_eq_false h0]; rfl
set_option maxRecDepth 100000 in
set_option maxHeartbeats 4000000 in
theorem up_c {W : World} {F : Snap} {cs : List Res} (w : World) {bx : Nat} {id : Int} {z : Z} {m : M} (hX : AK F bx id z m) (h : St W F cs w) : Calls Try.prog 39 #[.pointer (some ⟨bx, 0, none⟩)] w fun e w' => e = .returned (.bool (upB z m)) ∧ St W F cs w'  := by
  refine enter (P := Try.prog) (args := [.pointer (some ⟨bx, 0, none⟩)]) Try.func39 rfl rfl rfl ?_
  obtain ⟨AJ, AS, cj, cS, A1, c1, hfzx, hZ, hps⟩ := hX
  refine WC.seq (WC.reg ?_)
  refine WL.v (Runs.assign rfl) rfl ?_
  refine WL.nil (WN.thn (WC.seq ?_))
  rcases Bool.eq_false_or_eq_true (findM z m.jb m.ep).2 with q | q
  · skip
    refine WC.reg ?_
    refine WL.v (Runs.move rfl) rfl ?_
    refine WL.v (Runs.nilCheckP rfl) rfl ?_
    refine WL.v (Runs.fld fld85_4 rfl) rfl ?_
    refine WL.v (Runs.boolT (c := true) (Runs.load1 Try.underlying4 rfl rfl (h.cell (cellB hfzx rfl))) q) rfl ?_
    refine WL.v (Runs.move rfl) rfl ?_
    refine WL.gon rfl rfl rfl ?_
    refine WL.v (Runs.move rfl) rfl ?_
    refine WL.gon rfl rfl rfl ?_
    refine WL.v (Runs.nilCheckP rfl) rfl ?_
    refine WL.gon rfl rfl rfl ?_
    refine WL.v (Runs.fld fld85_3 rfl) rfl ?_
    refine WL.gon rfl rfl rfl ?_
    refine WL.v (Runs.fld fld77_2 rfl) rfl ?_
    refine WL.gon rfl rfl rfl ?_
    refine WL.v (Runs.load1 Try.underlying3 rfl rfl (h.cell (cellB hfzx rfl))) rfl ?_
    refine WL.gon rfl rfl rfl ?_
    refine WL.v (Runs.eql rfl rfl) rfl ?_
    refine WL.v (Runs.pick rfl rfl rfl) rfl ?_
    refine WL.v (Runs.assign rfl) rfl ?_
    refine WL.nil (WN.thn (WC.ret ?_))
    refine ret1 rfl rfl ⟨?_, h⟩
    unfold upB hasJ phJ
    rw [q] <;> rfl
  · skip
    refine WC.reg ?_
    refine WL.v (Runs.move rfl) rfl ?_
    refine WL.v (Runs.nilCheckP rfl) rfl ?_
    refine WL.v (Runs.fld fld85_4 rfl) rfl ?_
    refine WL.v (Runs.boolT (c := false) (Runs.load1 Try.underlying4 rfl rfl (h.cell (cellB hfzx rfl))) q) rfl ?_
    refine WL.v (Runs.move rfl) rfl ?_
    refine WL.goff rfl rfl rfl rfl ?_
    refine WL.goff rfl rfl rfl rfl ?_
    refine WL.goff rfl rfl rfl rfl ?_
    refine WL.goff rfl rfl rfl rfl ?_
    refine WL.goff rfl rfl rfl rfl ?_
    refine WL.goff rfl rfl rfl rfl ?_
    refine WL.v (Runs.pick rfl rfl rfl) rfl ?_
    refine WL.v (Runs.assign rfl) rfl ?_
    refine WL.nil (WN.thn (WC.ret ?_))
    refine ret1 rfl rfl ⟨?_, h⟩
    unfold upB hasJ phJ
    rw [q] <;> rfl
set_option maxRecDepth 100000 in
set_option maxHeartbeats 4000000 in
theorem phase_c {W : World} {F : Snap} {cs : List Res} (w : World) {bx : Nat} {id : Int} {z : Z} {m : M} (hX : AK F bx id z m) (p : Int) (h : St W F cs w) : Calls Try.prog 32 #[.pointer (some ⟨bx, 0, none⟩), Vi p] w fun e w' => e = .returned (.bool (phB z m p)) ∧ St W F cs w'  := by
  refine enter (P := Try.prog) (args := [.pointer (some ⟨bx, 0, none⟩), Vi p]) Try.func32 rfl rfl rfl ?_
  obtain ⟨AJ, AS, cj, cS, A1, c1, hfzx, hZ, hps⟩ := hX
  refine WC.seq (WC.reg ?_)
  refine WL.v (Runs.assign rfl) rfl ?_
  refine WL.nil (WN.thn (WC.seq ?_))
  rcases Bool.eq_false_or_eq_true (stepM z m.jb m.ep m.st).2 with q | q
  · skip
    refine WC.reg ?_
    refine WL.v (Runs.move rfl) rfl ?_
    refine WL.v (Runs.nilCheckP rfl) rfl ?_
    refine WL.v (Runs.fld fld85_6 rfl) rfl ?_
    refine WL.v (Runs.boolT (c := true) (Runs.load1 Try.underlying4 rfl rfl (h.cell (cellB hfzx rfl))) q) rfl ?_
    refine WL.v (Runs.move rfl) rfl ?_
    refine WL.gon rfl rfl rfl ?_
    refine WL.v (Runs.move rfl) rfl ?_
    refine WL.gon rfl rfl rfl ?_
    refine WL.v (Runs.nilCheckP rfl) rfl ?_
    refine WL.gon rfl rfl rfl ?_
    refine WL.v (Runs.fld fld85_5 rfl) rfl ?_
    refine WL.gon rfl rfl rfl ?_
    refine WL.v (Runs.fld fld80_3 rfl) rfl ?_
    refine WL.gon rfl rfl rfl ?_
    refine WL.v (Runs.load1 Try.underlying3 rfl rfl (h.cell (cellB hfzx rfl))) rfl ?_
    refine WL.gon rfl rfl rfl ?_
    refine WL.v (Runs.move rfl) rfl ?_
    refine WL.gon rfl rfl rfl ?_
    refine WL.v (Runs.eql rfl rfl) rfl ?_
    refine WL.v (Runs.pick rfl rfl rfl) rfl ?_
    refine WL.v (Runs.assign rfl) rfl ?_
    refine WL.nil (WN.thn (WC.ret ?_))
    refine ret1 rfl rfl ⟨?_, h⟩
    unfold phB hasS phS
    rw [q] <;> rfl
  · skip
    refine WC.reg ?_
    refine WL.v (Runs.move rfl) rfl ?_
    refine WL.v (Runs.nilCheckP rfl) rfl ?_
    refine WL.v (Runs.fld fld85_6 rfl) rfl ?_
    refine WL.v (Runs.boolT (c := false) (Runs.load1 Try.underlying4 rfl rfl (h.cell (cellB hfzx rfl))) q) rfl ?_
    refine WL.v (Runs.move rfl) rfl ?_
    refine WL.goff rfl rfl rfl rfl ?_
    refine WL.goff rfl rfl rfl rfl ?_
    refine WL.goff rfl rfl rfl rfl ?_
    refine WL.goff rfl rfl rfl rfl ?_
    refine WL.goff rfl rfl rfl rfl ?_
    refine WL.goff rfl rfl rfl rfl ?_
    refine WL.goff rfl rfl rfl rfl ?_
    refine WL.v (Runs.pick rfl rfl rfl) rfl ?_
    refine WL.v (Runs.assign rfl) rfl ?_
    refine WL.nil (WN.thn (WC.ret ?_))
    refine ret1 rfl rfl ⟨?_, h⟩
    unfold phB hasS phS
    rw [q] <;> rfl
set_option maxRecDepth 100000 in
set_option maxHeartbeats 4000000 in
theorem write_c {W : World} {F : Snap} {cs : List Res} (w : World) {bx : Nat} {id : Int} {z : Z} {m : M} (hX : AK F bx id z m) (kd ar : Int) (h : St W F cs w) : Calls Try.prog 46 #[.pointer (some ⟨bx, 0, none⟩), Vi kd, Vi ar] w fun e w' => e = .returned (.agg (acv none 0 (wrM m kd ar))) ∧ St W F cs w'  := by
  refine enter (P := Try.prog) (args := [.pointer (some ⟨bx, 0, none⟩), Vi kd, Vi ar]) Try.func46 rfl rfl rfl ?_
  obtain ⟨AJ, AS, cj, cS, A1, c1, hfzx, hZ, hps⟩ := hX
  refine WC.seq (WC.reg ?_)
  refine WL.alloc' rfl h inf39 ?_
  intro b6 w1 h1
  refine WL.nil (WN.thn (WC.seq ?_))
  refine WC.eregK h1 h1 (fun s_ => ([19] : List Nat).any (Nat.beq s_)) mixed (by kernel_rfl) (fun hx => ?_)
  intro w2 h2
  refine WE.p0 hx 0 (by rfl) (fun w_ => Runs.move rfl) rfl ?_
  refine WE.p0 hx 1 (by rfl) (fun w_ => Runs.move rfl) rfl ?_
  refine WE.p0 hx 2 (by rfl) (fun w_ => Runs.nilCheckP rfl) rfl ?_
  refine WE.p0 hx 3 (by rfl) (fun w_ => Runs.fld fld85_0 rfl) rfl ?_
  refine WE.p0 hx 4 (by rfl) (fun w_ => Runs.fld fld27_3 rfl) rfl ?_
  refine WE.p0 hx 6 (by rfl) (fun w_ => Runs.move rfl) rfl ?_
  refine WE.p0 hx 7 (by rfl) (fun w_ => Runs.nilCheckP rfl) rfl ?_
  refine WE.p0 hx 8 (by rfl) (fun w_ => Runs.fld fld85_0 rfl) rfl ?_
  refine WE.p0 hx 9 (by rfl) (fun w_ => Runs.fld fld27_4 rfl) rfl ?_
  refine WE.p0 hx 11 (by rfl) (fun w_ => Runs.move rfl) rfl ?_
  refine WE.p0 hx 12 (by rfl) (fun w_ => Runs.nilCheckP rfl) rfl ?_
  refine WE.p0 hx 13 (by rfl) (fun w_ => Runs.fld fld85_0 rfl) rfl ?_
  refine WE.p0 hx 14 (by rfl) (fun w_ => Runs.fld fld27_5 rfl) rfl ?_
  refine WE.p0 hx 16 (by rfl) (fun w_ => Runs.move rfl) rfl ?_
  refine WE.v0 12 hx 5 (by rfl) (fun w_ hE_ => Runs.load1 Try.underlying3 rfl rfl (hE_.cell (cellB hfzx rfl))) rfl ?_
  refine WE.v0 12 hx 10 (by rfl) (fun w_ hE_ => Runs.load1 Try.underlying3 rfl rfl (hE_.cell (cellB hfzx rfl))) rfl ?_
  refine WE.v0 12 hx 15 (by rfl) (fun w_ hE_ => Runs.load1 Try.underlying3 rfl rfl (hE_.cell (cellB hfzx rfl))) rfl ?_
  refine WE.p0 hx 17 (by rfl) (fun w_ => Runs.build (vs := [(0, Vi kd), (1, Vi m.jb), (2, Vi m.ep), (3, Vi m.st), (4, Vi ar)]) (cells := #[Vi kd, Vi m.jb, Vi m.ep, Vi m.st, Vi ar, .slice none 0 0]) rfl (by kernel_rfl)) rfl ?_
  refine WE.op (.inr h2) (i := 18) (by rfl) (by kernel_rfl) ?_
  refine WL.alloc' rfl h2 inf37 ?_
  intro b7 w3 h3
  refine WL.nil (WE.next ?_)
  refine WE.op (.inr (h3.drop 0)) (i := 19) (by rfl) (by kernel_rfl) ?_
  refine WL.storeAll h3 0 rfl rfl rfl inf37 rfl rfl rfl (Free.zero _) ?_
  intro  w4 h4
  try simp only [lz, ls, ez, es'] at h4
  refine WL.nil (WE.next ?_)
  refine WE.fin (.inl ⟨19, rfl, by kernel_rfl⟩) (by kernel_rfl) ?_
  refine WN.thn (WC.seq (WC.seq ?_))
  rcases two (¬ kd = 0) (¬ 6 ≤ kd) with q0 | ⟨q0, q1⟩ | ⟨q0, q1⟩
  · skip
    refine WC.reg ?_
    refine WL.v (Runs.move rfl) rfl ?_
    refine WL.v (Runs.boolT (c := true) (Runs.eql rfl rfl) (decide_eq_true (Classical.not_not.1 q0))) rfl ?_
    refine WL.v (Runs.move rfl) rfl ?_
    refine WL.goff rfl rfl rfl rfl ?_
    refine WL.goff rfl rfl rfl rfl ?_
    refine WL.v (Runs.pick rfl rfl rfl) rfl ?_
    refine WL.nil (WN.thn ?_)
    refine WC.condT rfl (rfl) ?_
    refine WC.reg ?_
    refine WL.v (Runs.fld fld37_3 rfl) rfl ?_
    refine WL.store' h4 0 rfl rfl rfl inf3 rfl rfl (Free.zero _) (Nat.le_of_ble_eq_true rfl) ?_
    intro  w5 h5
    try simp only [lz, ls, ez, es'] at h5
    refine WL.nil (WN.thn (WC.seq (WC.reg ?_)))
    refine WL.v (Runs.loadAll h5 0 rfl Try.underlying37 rfl inf37 rfl rfl) rfl ?_
    refine WL.v (Runs.build (vs := [(0, .bool true), (1, .agg #[Vi kd, Vi m.jb, Vi m.ep, Vi 0, Vi ar, .slice none 0 0])]) (cells := #[.bool true, Vi kd, Vi m.jb, Vi m.ep, Vi 0, Vi ar, .slice none 0 0, .bool false, Vi 0, Vi 0, Vi 0, Vi 0, Vi 0, Vi 0, Vi 0, .string ⟨#[]⟩, .bool false, .bool false, .bool false]) rfl (by kernel_rfl)) rfl ?_
    refine WL.storeAll h5 1 rfl rfl rfl inf39 rfl rfl rfl (Free.zero _) ?_
    intro  w6 h6
    try simp only [lz, ls, ez, es'] at h6
    refine WL.nil (WN.thn (WC.ret ?_))
    refine retA rfl (ResOk.blk h6 1 rfl Try.underlying39 rfl inf39 rfl rfl) ⟨by unfold wrM; rw [if_pos (by omega)] <;> rfl, ((h6.drop 0).drop 0)⟩
  · skip
    refine WC.reg ?_
    refine WL.v (Runs.move rfl) rfl ?_
    refine WL.v (Runs.boolT (c := false) (Runs.eql rfl rfl) (decide_eq_false q0)) rfl ?_
    refine WL.v (Runs.move rfl) rfl ?_
    refine WL.gon rfl rfl rfl ?_
    refine WL.v (Runs.move rfl) rfl ?_
    refine WL.gon rfl rfl rfl ?_
    refine WL.v (Runs.boolT (c := true) (Runs.geq rfl rfl) (decide_eq_true (Classical.not_not.1 q1))) rfl ?_
    refine WL.v (Runs.pick rfl rfl rfl) rfl ?_
    refine WL.nil (WN.thn ?_)
    refine WC.condT rfl (rfl) ?_
    refine WC.reg ?_
    refine WL.v (Runs.fld fld37_3 rfl) rfl ?_
    refine WL.store' h4 0 rfl rfl rfl inf3 rfl rfl (Free.zero _) (Nat.le_of_ble_eq_true rfl) ?_
    intro  w7 h7
    try simp only [lz, ls, ez, es'] at h7
    refine WL.nil (WN.thn (WC.seq (WC.reg ?_)))
    refine WL.v (Runs.loadAll h7 0 rfl Try.underlying37 rfl inf37 rfl rfl) rfl ?_
    refine WL.v (Runs.build (vs := [(0, .bool true), (1, .agg #[Vi kd, Vi m.jb, Vi m.ep, Vi 0, Vi ar, .slice none 0 0])]) (cells := #[.bool true, Vi kd, Vi m.jb, Vi m.ep, Vi 0, Vi ar, .slice none 0 0, .bool false, Vi 0, Vi 0, Vi 0, Vi 0, Vi 0, Vi 0, Vi 0, .string ⟨#[]⟩, .bool false, .bool false, .bool false]) rfl (by kernel_rfl)) rfl ?_
    refine WL.storeAll h7 1 rfl rfl rfl inf39 rfl rfl rfl (Free.zero _) ?_
    intro  w8 h8
    try simp only [lz, ls, ez, es'] at h8
    refine WL.nil (WN.thn (WC.ret ?_))
    refine retA rfl (ResOk.blk h8 1 rfl Try.underlying39 rfl inf39 rfl rfl) ⟨by unfold wrM; rw [if_pos (by omega)] <;> rfl, ((h8.drop 0).drop 0)⟩
  · skip
    refine WC.reg ?_
    refine WL.v (Runs.move rfl) rfl ?_
    refine WL.v (Runs.boolT (c := false) (Runs.eql rfl rfl) (decide_eq_false q0)) rfl ?_
    refine WL.v (Runs.move rfl) rfl ?_
    refine WL.gon rfl rfl rfl ?_
    refine WL.v (Runs.move rfl) rfl ?_
    refine WL.gon rfl rfl rfl ?_
    refine WL.v (Runs.boolT (c := false) (Runs.geq rfl rfl) (decide_eq_false q1)) rfl ?_
    refine WL.v (Runs.pick rfl rfl rfl) rfl ?_
    refine WL.nil (WN.thn ?_)
    refine WC.condF rfl (rfl) ?_
    refine WC.skip (WN.thn (WC.seq (WC.reg ?_)))
    refine WL.v (Runs.loadAll h4 0 rfl Try.underlying37 rfl inf37 rfl rfl) rfl ?_
    refine WL.v (Runs.build (vs := [(0, .bool true), (1, .agg #[Vi kd, Vi m.jb, Vi m.ep, Vi m.st, Vi ar, .slice none 0 0])]) (cells := #[.bool true, Vi kd, Vi m.jb, Vi m.ep, Vi m.st, Vi ar, .slice none 0 0, .bool false, Vi 0, Vi 0, Vi 0, Vi 0, Vi 0, Vi 0, Vi 0, .string ⟨#[]⟩, .bool false, .bool false, .bool false]) rfl (by kernel_rfl)) rfl ?_
    refine WL.storeAll h4 1 rfl rfl rfl inf39 rfl rfl rfl (Free.zero _) ?_
    intro  w9 h9
    try simp only [lz, ls, ez, es'] at h9
    refine WL.nil (WN.thn (WC.ret ?_))
    refine retA rfl (ResOk.blk h9 1 rfl Try.underlying39 rfl inf39 rfl rfl) ⟨by unfold wrM; rw [if_neg (by omega)] <;> rfl, ((h9.drop 0).drop 0)⟩
set_option maxRecDepth 100000 in
set_option maxHeartbeats 4000000 in
theorem answer_c {W : World} {F : Snap} {cs : List Res} (w : World) {bx : Nat} {id : Int} {z : Z} {m : M} (hX : AK F bx id z m) {Aa : Option Addr} {ca : Nat} {a : Ac} (kd ar : Int) (h : St W F cs w) : Calls Try.prog 45 #[.pointer (some ⟨bx, 0, none⟩), .agg (acv Aa ca a), Vi kd, Vi ar] w fun e w' => e = .returned (.agg (acv Aa ca (anM id m a kd ar))) ∧ St W F cs w'  := by
  refine enter (P := Try.prog) (args := [.pointer (some ⟨bx, 0, none⟩), .agg (acv Aa ca a), Vi kd, Vi ar]) Try.func45 rfl rfl rfl ?_
  obtain ⟨AJ, AS, cj, cS, A1, c1, hfzx, hZ, hps⟩ := hX
  refine WC.seq (WC.reg ?_)
  refine WL.box rfl h rfl ?_
  intro b5 w1 h1
  refine WL.alloc' rfl h1 inf39 ?_
  intro b8 w2 h2
  refine WL.nil (WN.thn (WC.seq (WC.reg ?_)))
  refine WL.v (Runs.fld fld39_2 rfl) rfl ?_
  refine WL.store' h2 1 rfl rfl rfl inf4 rfl rfl (Free.zero _) (Nat.le_of_ble_eq_true rfl) ?_
  intro  w3 h3
  try simp only [lz, ls, ez, es'] at h3
  refine WL.nil (WN.thn (WC.seq ?_))
  refine WC.eregK h3 h3 (fun s_ => ([23] : List Nat).any (Nat.beq s_)) mixed (by kernel_rfl) (fun hx => ?_)
  intro w4 h4
  refine WE.p0 hx 0 (by rfl) (fun w_ => Runs.move rfl) rfl ?_
  refine WE.p0 hx 1 (by rfl) (fun w_ => Runs.move rfl) rfl ?_
  refine WE.p0 hx 2 (by rfl) (fun w_ => Runs.nilCheckP rfl) rfl ?_
  refine WE.p0 hx 3 (by rfl) (fun w_ => Runs.fld fld85_1 rfl) rfl ?_
  refine WE.p0 hx 5 (by rfl) (fun w_ => Runs.move rfl) rfl ?_
  refine WE.p0 hx 6 (by rfl) (fun w_ => Runs.nilCheckP rfl) rfl ?_
  refine WE.p0 hx 7 (by rfl) (fun w_ => Runs.fld fld85_0 rfl) rfl ?_
  refine WE.p0 hx 8 (by rfl) (fun w_ => Runs.fld fld27_3 rfl) rfl ?_
  refine WE.p0 hx 10 (by rfl) (fun w_ => Runs.move rfl) rfl ?_
  refine WE.p0 hx 11 (by rfl) (fun w_ => Runs.nilCheckP rfl) rfl ?_
  refine WE.p0 hx 12 (by rfl) (fun w_ => Runs.fld fld85_0 rfl) rfl ?_
  refine WE.p0 hx 13 (by rfl) (fun w_ => Runs.fld fld27_4 rfl) rfl ?_
  refine WE.p0 hx 15 (by rfl) (fun w_ => Runs.move rfl) rfl ?_
  refine WE.p0 hx 16 (by rfl) (fun w_ => Runs.nilCheckP rfl) rfl ?_
  refine WE.p0 hx 17 (by rfl) (fun w_ => Runs.fld fld85_0 rfl) rfl ?_
  refine WE.p0 hx 18 (by rfl) (fun w_ => Runs.fld fld27_5 rfl) rfl ?_
  refine WE.p0 hx 20 (by rfl) (fun w_ => Runs.move rfl) rfl ?_
  refine WE.v0 12 hx 4 (by rfl) (fun w_ hE_ => Runs.load1 Try.underlying3 rfl rfl (hE_.cell (cellB hfzx rfl))) rfl ?_
  refine WE.v0 12 hx 9 (by rfl) (fun w_ hE_ => Runs.load1 Try.underlying3 rfl rfl (hE_.cell (cellB hfzx rfl))) rfl ?_
  refine WE.v0 12 hx 14 (by rfl) (fun w_ hE_ => Runs.load1 Try.underlying3 rfl rfl (hE_.cell (cellB hfzx rfl))) rfl ?_
  refine WE.v0 12 hx 19 (by rfl) (fun w_ hE_ => Runs.load1 Try.underlying3 rfl rfl (hE_.cell (cellB hfzx rfl))) rfl ?_
  refine WE.p0 hx 21 (by rfl) (fun w_ => Runs.build (vs := [(0, Vi kd), (1, Vi id), (2, Vi (-1)), (3, Vi m.jb), (4, Vi m.ep), (5, Vi m.st), (6, Vi ar)]) (cells := #[Vi kd, Vi id, Vi (-1), Vi m.jb, Vi m.ep, Vi m.st, Vi ar, .string ⟨#[]⟩]) rfl (by kernel_rfl)) rfl ?_
  refine WE.p0 hx 22 (by rfl) (fun w_ => Runs.fld fld39_3 rfl) rfl ?_
  refine WE.op (.inr h4) (i := 23) (by rfl) (by kernel_rfl) ?_
  refine WL.storePart (arr' := acv Aa ca (anM id m a kd ar)) h4 1 rfl rfl rfl inf27 rfl rfl (Free.zero _) rfl (by kernel_rfl) ?_
  intro  w5 h5
  try simp only [lz, ls, ez, es'] at h5
  refine WL.nil (WE.next ?_)
  refine WE.fin (.inl ⟨23, rfl, by kernel_rfl⟩) (by kernel_rfl) ?_
  refine WN.thn (WC.seq (WC.reg ?_))
  refine WL.v (Runs.loadAll h5 1 rfl Try.underlying39 rfl inf39 rfl rfl) rfl ?_
  refine WL.storeAll h5 0 rfl rfl rfl inf39 rfl rfl rfl (Free.zero _) ?_
  intro  w6 h6
  try simp only [lz, ls, ez, es'] at h6
  refine WL.nil (WN.thn (WC.ret ?_))
  refine retA rfl (ResOk.blk h6 0 rfl Try.underlying39 rfl inf39 rfl rfl) ⟨rfl, ((h6.drop 0).drop 0)⟩
set_option maxRecDepth 100000 in
set_option maxHeartbeats 4000000 in
theorem nwer1_c {W : World} {F : Snap} {cs : List Res} (w : World) {bx : Nat} {id : Int} {z : Z} {m : M} (hX : AK F bx id z m) {i1 b1 : Nat} (x : J) (hi1 : cs[i1]? = some [(b1, .cells #[.pointer (some ⟨bx, 0, none⟩)] 70 (0, 0))]) (h : St W F cs w) : Calls Try.prog 82 #[JV x, .pointer (some ⟨b1, 0, none⟩)] w fun e w' => e = .returned (.bool (nwB m x)) ∧ St W F cs w'  := by
  refine enter (P := Try.prog) (args := [JV x, .pointer (some ⟨b1, 0, none⟩)]) Try.func82 rfl rfl rfl ?_
  obtain ⟨AJ, AS, cj, cS, A1, c1, hfzx, hZ, hps⟩ := hX
  refine WC.seq (WC.reg ?_)
  refine WL.box rfl h rfl ?_
  intro b2 w1 h1
  refine WL.v (Runs.assign rfl) rfl ?_
  refine WL.nil (WN.thn (WC.seq ?_))
  rcases two (x.jb = m.jb) (x.ep > m.ep) with q0 | ⟨q0, q1⟩ | ⟨q0, q1⟩
  · skip
    refine WC.eregK h1 h1 (fun s_ => ([] : List Nat).any (Nat.beq s_)) mixed (by kernel_rfl) (fun hx => ?_)
    intro w2 h2
    refine WE.p0 hx 0 (by rfl) (fun w_ => Runs.fld fld77_0 rfl) rfl ?_
    refine WE.v0 12 hx 1 (by rfl) (fun w_ hE_ => Runs.load1 Try.underlying3 rfl rfl (hE_.ocell (i := 0) rfl rfl)) rfl ?_
    refine WE.v0 12 hx 2 (by rfl) (fun w_ hE_ => Runs.load1 Try.underlying70 rfl rfl (hE_.ocell (i := (i1 + 1)) hi1 rfl)) rfl ?_
    refine WE.p0 hx 3 (by rfl) (fun w_ => Runs.nilCheckP rfl) rfl ?_
    refine WE.p0 hx 4 (by rfl) (fun w_ => Runs.fld fld85_0 rfl) rfl ?_
    refine WE.p0 hx 5 (by rfl) (fun w_ => Runs.fld fld27_3 rfl) rfl ?_
    refine WE.v0 12 hx 6 (by rfl) (fun w_ hE_ => Runs.load1 Try.underlying3 rfl rfl (hE_.cell (cellB hfzx rfl))) rfl ?_
    refine WE.p0 hx 7 (by rfl) (fun w_ => Runs.boolT (c := false) (Runs.eql rfl rfl) (decide_eq_false q0)) rfl ?_
    refine WE.p0 hx 8 (by rfl) (fun w_ => Runs.move rfl) rfl ?_
    refine WE.o1 (j := 8) (b := true) hx 9 (by rfl) ⟨_, _, rfl, rfl, .inr rfl⟩ rfl ?_
    refine WE.o1 (j := 8) (b := true) hx 10 (by rfl) ⟨_, _, rfl, rfl, .inr rfl⟩ rfl ?_
    refine WE.o1 (j := 8) (b := true) hx 11 (by rfl) ⟨_, _, rfl, rfl, .inr rfl⟩ rfl ?_
    refine WE.o1 (j := 8) (b := true) hx 12 (by rfl) ⟨_, _, rfl, rfl, .inr rfl⟩ rfl ?_
    refine WE.o1 (j := 8) (b := true) hx 13 (by rfl) ⟨_, _, rfl, rfl, .inr rfl⟩ rfl ?_
    refine WE.o1 (j := 8) (b := true) hx 14 (by rfl) ⟨_, _, rfl, rfl, .inr rfl⟩ rfl ?_
    refine WE.o1 (j := 8) (b := true) hx 15 (by rfl) ⟨_, _, rfl, rfl, .inr rfl⟩ rfl ?_
    refine WE.o1 (j := 8) (b := true) hx 16 (by rfl) ⟨_, _, rfl, rfl, .inr rfl⟩ rfl ?_
    refine WE.p0 hx 17 (by rfl) (fun w_ => Runs.pick rfl rfl rfl) rfl ?_
    refine WE.p0 hx 18 (by rfl) (fun w_ => Runs.assign rfl) rfl ?_
    refine WE.fin (.inr h2) (by kernel_rfl) ?_
    refine WN.thn (WC.ret ?_)
    refine ret1 rfl rfl ⟨?_, h2.drop 0⟩
    unfold nwB
    rw [decide_eq_false q0] <;> rfl
  · skip
    refine WC.eregK h1 h1 (fun s_ => ([] : List Nat).any (Nat.beq s_)) mixed (by kernel_rfl) (fun hx => ?_)
    intro w3 h3
    refine WE.p0 hx 0 (by rfl) (fun w_ => Runs.fld fld77_0 rfl) rfl ?_
    refine WE.v0 12 hx 1 (by rfl) (fun w_ hE_ => Runs.load1 Try.underlying3 rfl rfl (hE_.ocell (i := 0) rfl rfl)) rfl ?_
    refine WE.v0 12 hx 2 (by rfl) (fun w_ hE_ => Runs.load1 Try.underlying70 rfl rfl (hE_.ocell (i := (i1 + 1)) hi1 rfl)) rfl ?_
    refine WE.p0 hx 3 (by rfl) (fun w_ => Runs.nilCheckP rfl) rfl ?_
    refine WE.p0 hx 4 (by rfl) (fun w_ => Runs.fld fld85_0 rfl) rfl ?_
    refine WE.p0 hx 5 (by rfl) (fun w_ => Runs.fld fld27_3 rfl) rfl ?_
    refine WE.v0 12 hx 6 (by rfl) (fun w_ hE_ => Runs.load1 Try.underlying3 rfl rfl (hE_.cell (cellB hfzx rfl))) rfl ?_
    refine WE.p0 hx 7 (by rfl) (fun w_ => Runs.boolT (c := true) (Runs.eql rfl rfl) (decide_eq_true q0)) rfl ?_
    refine WE.p0 hx 8 (by rfl) (fun w_ => Runs.move rfl) rfl ?_
    refine WE.p1 (j := 8) (b := true) hx 9 (by rfl) ⟨_, _, rfl, rfl, rfl⟩ (fun w_ => Runs.fld fld77_1 rfl) rfl ?_
    refine WE.v1 (j := 8) (b := true) 12 hx 10 (by rfl) ⟨_, _, rfl, rfl, rfl⟩ (fun w_ hE_ => Runs.load1 Try.underlying3 rfl rfl (hE_.ocell (i := 0) rfl rfl)) rfl ?_
    refine WE.v1 (j := 8) (b := true) 12 hx 11 (by rfl) ⟨_, _, rfl, rfl, rfl⟩ (fun w_ hE_ => Runs.load1 Try.underlying70 rfl rfl (hE_.ocell (i := (i1 + 1)) hi1 rfl)) rfl ?_
    refine WE.p1 (j := 8) (b := true) hx 12 (by rfl) ⟨_, _, rfl, rfl, rfl⟩ (fun w_ => Runs.nilCheckP rfl) rfl ?_
    refine WE.p1 (j := 8) (b := true) hx 13 (by rfl) ⟨_, _, rfl, rfl, rfl⟩ (fun w_ => Runs.fld fld85_0 rfl) rfl ?_
    refine WE.p1 (j := 8) (b := true) hx 14 (by rfl) ⟨_, _, rfl, rfl, rfl⟩ (fun w_ => Runs.fld fld27_4 rfl) rfl ?_
    refine WE.v1 (j := 8) (b := true) 12 hx 15 (by rfl) ⟨_, _, rfl, rfl, rfl⟩ (fun w_ hE_ => Runs.load1 Try.underlying3 rfl rfl (hE_.cell (cellB hfzx rfl))) rfl ?_
    refine WE.p1 (j := 8) (b := true) hx 16 (by rfl) ⟨_, _, rfl, rfl, rfl⟩ (fun w_ => Runs.boolT (c := false) (Runs.gtr rfl rfl) (decide_eq_false q1)) rfl ?_
    refine WE.p0 hx 17 (by rfl) (fun w_ => Runs.pick rfl rfl rfl) rfl ?_
    refine WE.p0 hx 18 (by rfl) (fun w_ => Runs.assign rfl) rfl ?_
    refine WE.fin (.inr h3) (by kernel_rfl) ?_
    refine WN.thn (WC.ret ?_)
    refine ret1 rfl rfl ⟨?_, h3.drop 0⟩
    unfold nwB
    rw [decide_eq_true q0, decide_eq_false q1] <;> rfl
  · skip
    refine WC.eregK h1 h1 (fun s_ => ([] : List Nat).any (Nat.beq s_)) mixed (by kernel_rfl) (fun hx => ?_)
    intro w4 h4
    refine WE.p0 hx 0 (by rfl) (fun w_ => Runs.fld fld77_0 rfl) rfl ?_
    refine WE.v0 12 hx 1 (by rfl) (fun w_ hE_ => Runs.load1 Try.underlying3 rfl rfl (hE_.ocell (i := 0) rfl rfl)) rfl ?_
    refine WE.v0 12 hx 2 (by rfl) (fun w_ hE_ => Runs.load1 Try.underlying70 rfl rfl (hE_.ocell (i := (i1 + 1)) hi1 rfl)) rfl ?_
    refine WE.p0 hx 3 (by rfl) (fun w_ => Runs.nilCheckP rfl) rfl ?_
    refine WE.p0 hx 4 (by rfl) (fun w_ => Runs.fld fld85_0 rfl) rfl ?_
    refine WE.p0 hx 5 (by rfl) (fun w_ => Runs.fld fld27_3 rfl) rfl ?_
    refine WE.v0 12 hx 6 (by rfl) (fun w_ hE_ => Runs.load1 Try.underlying3 rfl rfl (hE_.cell (cellB hfzx rfl))) rfl ?_
    refine WE.p0 hx 7 (by rfl) (fun w_ => Runs.boolT (c := true) (Runs.eql rfl rfl) (decide_eq_true q0)) rfl ?_
    refine WE.p0 hx 8 (by rfl) (fun w_ => Runs.move rfl) rfl ?_
    refine WE.p1 (j := 8) (b := true) hx 9 (by rfl) ⟨_, _, rfl, rfl, rfl⟩ (fun w_ => Runs.fld fld77_1 rfl) rfl ?_
    refine WE.v1 (j := 8) (b := true) 12 hx 10 (by rfl) ⟨_, _, rfl, rfl, rfl⟩ (fun w_ hE_ => Runs.load1 Try.underlying3 rfl rfl (hE_.ocell (i := 0) rfl rfl)) rfl ?_
    refine WE.v1 (j := 8) (b := true) 12 hx 11 (by rfl) ⟨_, _, rfl, rfl, rfl⟩ (fun w_ hE_ => Runs.load1 Try.underlying70 rfl rfl (hE_.ocell (i := (i1 + 1)) hi1 rfl)) rfl ?_
    refine WE.p1 (j := 8) (b := true) hx 12 (by rfl) ⟨_, _, rfl, rfl, rfl⟩ (fun w_ => Runs.nilCheckP rfl) rfl ?_
    refine WE.p1 (j := 8) (b := true) hx 13 (by rfl) ⟨_, _, rfl, rfl, rfl⟩ (fun w_ => Runs.fld fld85_0 rfl) rfl ?_
    refine WE.p1 (j := 8) (b := true) hx 14 (by rfl) ⟨_, _, rfl, rfl, rfl⟩ (fun w_ => Runs.fld fld27_4 rfl) rfl ?_
    refine WE.v1 (j := 8) (b := true) 12 hx 15 (by rfl) ⟨_, _, rfl, rfl, rfl⟩ (fun w_ hE_ => Runs.load1 Try.underlying3 rfl rfl (hE_.cell (cellB hfzx rfl))) rfl ?_
    refine WE.p1 (j := 8) (b := true) hx 16 (by rfl) ⟨_, _, rfl, rfl, rfl⟩ (fun w_ => Runs.boolT (c := true) (Runs.gtr rfl rfl) (decide_eq_true q1)) rfl ?_
    refine WE.p0 hx 17 (by rfl) (fun w_ => Runs.pick rfl rfl rfl) rfl ?_
    refine WE.p0 hx 18 (by rfl) (fun w_ => Runs.assign rfl) rfl ?_
    refine WE.fin (.inr h4) (by kernel_rfl) ?_
    refine WN.thn (WC.ret ?_)
    refine ret1 rfl rfl ⟨?_, h4.drop 0⟩
    unfold nwB
    rw [decide_eq_true q0, decide_eq_true q1] <;> rfl
set_option maxRecDepth 100000 in
set_option maxHeartbeats 4000000 in
theorem nwer_c {W : World} {F : Snap} {cs : List Res} (w : World) {bx : Nat} {id : Int} {z : Z} {m : M} (hX : AK F bx id z m) (hz : few z) (h : St W F cs w) : Calls Try.prog 56 #[.pointer (some ⟨bx, 0, none⟩)] w fun e w' => e = .returned (.bool (nwM z m)) ∧ St W F cs w'  := by
  refine enter (P := Try.prog) (args := [.pointer (some ⟨bx, 0, none⟩)]) Try.func56 rfl rfl rfl ?_
  have hX0 := hX
  obtain ⟨AJ, AS, cj, cS, A1, c1, hfzx, hZ, hps⟩ := hX
  refine WC.seq (WC.reg ?_)
  refine WL.box rfl h rfl ?_
  intro b1 w1 h1
  refine WL.v (Runs.assign rfl) rfl ?_
  refine WL.nil (WN.thn (WC.seq (WC.reg ?_)))
  refine WL.v (Runs.load1 Try.underlying70 rfl rfl (h1.ocell (i := 0) rfl rfl)) rfl ?_
  refine WL.v (Runs.nilCheckP rfl) rfl ?_
  refine WL.v (Runs.fld fld85_2 rfl) rfl ?_
  refine WL.v (Runs.fld fld45_0 rfl) rfl ?_
  refine WL.v (Runs.load1 Try.underlying42 rfl rfl (h1.cell (cellB hfzx rfl))) rfl ?_
  refine WL.v (Runs.makeFunc rfl rfl) rfl ?_
  refine WL.call can81 rfl rfl (cfJ_c _ 82 [.pointer (some ⟨b1, 0, none⟩)] (nwB m) can82 h1 (RdK.of hZ.j) (by have := hz.j; omega) (fun w9 x9 _ h9 => nwer1_c (i1 := 0) w9 hX0 x9 rfl h9)) ?_
  rintro _ w2 ⟨rfl, h2⟩
  refine ⟨_, rfl, ?_⟩
  refine WL.v (Runs.assign rfl) rfl ?_
  refine WL.nil (WN.thn (WC.ret ?_))
  exact ret1 rfl rfl ⟨rfl, h2.drop 0⟩
end Rc
end Go.Proofs.Ytanlminnobonnaa
