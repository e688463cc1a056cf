/- What records do to a state, plainly; lists looked through. -/
import Derived.Test.YthejglgnoingfaaProg
import Derived.KernelRfl
import Derived.Test.YthejglgnoingfaaMBaseAH
import Derived.Test.YthejglgnoingfaaMR1
namespace Go.Proofs.Ythejglgnoingfaa
open Go Go.RowKit B
set_option linter.unusedVariables false
set_option linter.unusedSimpArgs false
namespace Rc

theorem inf47 : Inf Try.prog 47 (.agg #[.int .i64 0, .int .i64 0, .int .i64 0]) 3 24 := by unfold Inf; kernel_rfl
theorem inf54 : Inf Try.prog 54 (.agg #[.int .i64 0, .int .i64 0, .int .i64 0, .int .i64 0, .int .i64 0, .slice none 0 0]) 6 64 := by unfold Inf; kernel_rfl
theorem can78 : B.Can Try.prog 78 := ⟨_, Try.func78, by kernel_rfl, rfl⟩   -- slices.IndexFunc[[]roundhouse/rec.Job,roundhouse/rec.Job]
theorem can80 : B.Can Try.prog 80 := ⟨_, Try.func80, by kernel_rfl, rfl⟩   -- slices.IndexFunc[[]roundhouse/rec.Step,roundhouse/rec.Step]
theorem can97 : B.Can Try.prog 97 := ⟨_, Try.func97, by kernel_rfl, rfl⟩   -- slices.IndexFunc[[]int,int]
theorem can98 : B.Can Try.prog 98 := ⟨_, Try.func98, by kernel_rfl, rfl⟩   -- slices.Index[[]int,int]
/-- a job of a node, a step of one, and a state -/
structure J where
  jb : Int
  ep : Int
  ph : Int
deriving DecidableEq
structure S where
  jb : Int
  ep : Int
  st : Int
  ph : Int
  cd : Int
  ps : List Int
deriving DecidableEq
structure Z where
  js : List J
  ss : List S
  dr : Bool
deriving DecidableEq
def J0 : J := ⟨0, 0, 0⟩
def S0 : S := ⟨0, 0, 0, 0, 0, []⟩
def Z0 : Z := ⟨[], [], false⟩
/-- the place of the first one; -1: there is none -/
def ix {α : Type} (p : α → Bool) (xs : List α) : Int := if xs.any p then (xs.findIdx p : Nat) else -1
def jAt (jb ep : Int) (x : J) : Bool := decide (x.jb = jb) && decide (x.ep = ep)
def sAt (jb ep st : Int) (x : S) : Bool := decide (x.jb = jb) && decide (x.ep = ep) && decide (x.st = st)
def jIx (z : Z) (jb ep : Int) : Int := ix (jAt jb ep) z.js
def sIx (z : Z) (jb ep st : Int) : Int := ix (sAt jb ep st) z.ss
def findM (z : Z) (jb ep : Int) : J × Bool := if 0 ≤ jIx z jb ep then (z.js.getD (jIx z jb ep).toNat J0, true) else (J0, false)
def stepM (z : Z) (jb ep st : Int) : S × Bool := if 0 ≤ sIx z jb ep st then (z.ss.getD (sIx z jb ep st).toNat S0, true) else (S0, false)
def aliveB (jb ep : Int) (x : S) : Bool := decide (x.jb = jb) && decide (x.ep = ep) && (decide (x.ph = 0) || decide (x.ph = 1))
def aliveM (z : Z) (jb ep : Int) : Bool := z.ss.any (aliveB jb ep)
def newB (jb ep : Int) (x : J) : Bool := decide (x.jb = jb) && decide (x.ep ≥ ep)
def newM (z : Z) (jb ep : Int) : Bool := z.js.any (newB jb ep)
def shareB (ls : List Int) (x : S) : Bool := x.ps.any fun p => decide (p ∈ ls)
def shareM (z : Z) (ls : List Int) : Bool := z.ss.any (shareB ls)
def beginsM (z : Z) (r : R) (ph : Int) : Z × Int :=
  if (findM z r.jb r.ep).2 = false ∨ (findM z r.jb r.ep).1.ph ≠ 0 ∨ 0 ≤ sIx z r.jb r.ep r.st ∨ shareM z r.ls = true then (z, 14)
  else ({ z with ss := z.ss ++ [⟨r.jb, r.ep, r.st, ph, 0, r.ls⟩] }, 0)
def turnsM (z : Z) (r : R) (fr to : Int) : Z × Int :=
  if sIx z r.jb r.ep r.st < 0 ∨ (z.ss.getD (sIx z r.jb r.ep r.st).toNat S0).ph ≠ fr then (z, 14)
  else ({ z with ss := z.ss.set (sIx z r.jb r.ep r.st).toNat { (z.ss.getD (sIx z r.jb r.ep r.st).toNat S0) with ph := to, cd := if to = 3 then r.ar else (z.ss.getD (sIx z r.jb r.ep r.st).toNat S0).cd } }, 0)
def voidM (z : Z) (r : R) : Z × Int := if newM z r.jb r.ep then (z, 14) else ({ z with js := z.js ++ [⟨r.jb, r.ep, 2⟩] }, 0)
def prologM (z : Z) (r : R) : Z × Int := if newM z r.jb r.ep then (z, 14) else if z.dr then (z, 16) else ({ z with js := z.js ++ [⟨r.jb, r.ep, if r.ar = 0 then 0 else 1⟩], dr := decide (r.ar ≠ 0) }, 0)
def epilogM (z : Z) (r : R) : Z × Int :=
  if jIx z r.jb r.ep < 0 ∨ (z.js.getD (jIx z r.jb r.ep).toNat J0).ph = 2 ∨ aliveM z r.jb r.ep = true then (z, 14)
  else ({ z with js := z.js.set (jIx z r.jb r.ep).toNat { (z.js.getD (jIx z r.jb r.ep).toNat J0) with ph := 2 }, dr := z.dr || decide (r.ar ≠ 0) }, 0)
def doM (z : Z) (r : R) : Z × Int :=
  if r.kd = 0 then prologM z r else if r.kd = 1 then beginsM z r 0 else if r.kd = 2 then beginsM z r 2 else if r.kd = 3 then turnsM z r 0 1
  else if r.kd = 4 then turnsM z r 0 2 else if r.kd = 5 then turnsM z r 1 3 else if r.kd = 6 then epilogM z r else voidM z r
def applyM (z : Z) (r : R) : Z × Int := if okR r then doM z r else (z, 1)
def foldM (z : Z) : List R → Z × Nat
  | [] => (z, 0)
  | r :: l => if (applyM z r).2 = 0 then ((foldM (applyM z r).1 l).1, (foldM (applyM z r).1 l).2 + 1) else (z, 0)
theorem memD {α : Type} {xs : List α} {i : Nat} (d : α) (h : i < xs.length) : xs.getD i d ∈ xs := by
  rw [List.getD_eq_getElem?_getD, List.getElem?_eq_getElem h]; exact List.getElem_mem h
theorem any_f {α : Type} {xs : List α} {p : α → Bool} {d : α} (h : ∀ j, j < xs.length → p (xs.getD j d) = false) : xs.any p = false := by
  rw [List.any_eq_false]
  intro x hx
  obtain ⟨j, hj, rfl⟩ := List.getElem_of_mem hx
  have := h j hj
  rw [List.getD_eq_getElem?_getD, List.getElem?_eq_getElem hj] at this
  simpa using this
theorem any_t {α : Type} {xs : List α} {p : α → Bool} {d : α} {i : Nat} (hi : i < xs.length) (h : p (xs.getD i d) = true) : xs.any p = true := by
  rw [List.any_eq_true]
  exact ⟨_, memD d hi, h⟩
theorem ix_some {α : Type} {p : α → Bool} {xs : List α} {d : α} {i : Nat} (hi : i < xs.length) (hp : p (xs.getD i d) = true) (hno : ∀ j, j < i → p (xs.getD j d) = false) : ix p xs = (i : Int) := by
  unfold ix
  rw [if_pos (any_t hi hp)]
  congr 1
  rw [List.findIdx_eq hi]
  rw [List.getD_eq_getElem?_getD, List.getElem?_eq_getElem hi] at hp
  refine ⟨hp, fun j hj => ?_⟩
  have := hno j hj
  rwa [List.getD_eq_getElem?_getD, List.getElem?_eq_getElem (by omega)] at this
theorem ix_none {α : Type} {p : α → Bool} {xs : List α} {d : α} (hno : ∀ j, j < xs.length → p (xs.getD j d) = false) : ix p xs = -1 := by
  unfold ix
  rw [any_f hno]
  rfl
theorem ix_at {α : Type} (p : α → Bool) (xs : List α) (d : α) : (ix p xs = -1 ∧ xs.any p = false) ∨ ∃ i : Nat, i < xs.length ∧ ix p xs = (i : Int) ∧ p (xs.getD i d) = true := by
  unfold ix
  by_cases h : xs.any p = true
  · rw [if_pos h]
    have h1 : xs.findIdx p < xs.length := List.findIdx_lt_length.2 (by simpa using h)
    refine .inr ⟨xs.findIdx p, h1, rfl, ?_⟩
    rw [List.getD_eq_getElem?_getD, List.getElem?_eq_getElem h1]
    exact List.findIdx_getElem
  · rw [if_neg h]
    exact .inl ⟨rfl, by simpa using h⟩
theorem ix_any {α : Type} (p : α → Bool) (xs : List α) : decide (0 ≤ ix p xs) = xs.any p := by
  unfold ix
  by_cases h : xs.any p = true
  · rw [if_pos h, h]; simp
  · rw [if_neg h]; simp at h ⊢; exact h
theorem any_mem {xs : List Int} {n : Int} : (xs.any fun x => decide (x = n)) = decide (n ∈ xs) := by
  rw [Bool.eq_iff_iff, List.any_eq_true]
  simp
theorem rd_none {F : Snap} {xs : List Int} (h : RdS (Kd.one Vi) F none xs) : xs = [] := by
  rcases h with h | ⟨ad, hA, _⟩
  · exact h
  · cases hA
/-! how they lie -/
abbrev jc (x : J) : List Value := [Vi x.jb, Vi x.ep, Vi x.ph]
abbrev JV (x : J) : Value := .agg #[Vi x.jb, Vi x.ep, Vi x.ph]
def KJ : Kd J := Kd.rows 3 jc (fun _ => rfl)
/-- a step, and where its pids lie -/
structure E where
  s : S
  A : Option Addr
  cap : Nat
abbrev sc (e : E) : List Value := [Vi e.s.jb, Vi e.s.ep, Vi e.s.st, Vi e.s.ph, Vi e.s.cd, .slice e.A e.s.ps.length e.cap]
abbrev SV (A : Option Addr) (cap : Nat) (x : S) : Value := .agg #[Vi x.jb, Vi x.ep, Vi x.st, Vi x.ph, Vi x.cd, .slice A x.ps.length cap]
def KS : Kd S := ⟨6, fun F x c => ∃ A cap, c = sc ⟨x, A, cap⟩ ∧ RdS (Kd.one Vi) F A x.ps, fun h => by obtain ⟨_, _, rfl, _⟩ := h; rfl, fun hle h => by obtain ⟨A, cap, h1, h2⟩ := h; exact ⟨A, cap, h1, h2.mono hle⟩⟩
def fewS (ss : List S) : Prop := ∀ x ∈ ss, x.ps.length ≤ 100000

set_option maxRecDepth 100000 in
set_option maxHeartbeats 1000000 in
theorem idxJ_c {W : World} {F : Snap} {cs : List Res} (w : World) {A : Option Addr} {cap : Nat} {xs : List J} (g : FuncId) (cl : List Value) (pr : J → Bool) (hg : B.Can Try.prog g) (h : St W F cs w) (hR : RdK KJ W F cs A xs) (hn : xs.length ≤ 100000) (hcl : ∀ w x, x ∈ xs → St W F cs w → Calls Try.prog g (JV x :: cl).toArray w fun e w' => e = .returned (.bool (pr x)) ∧ St W F cs w') : Calls Try.prog 78 #[.slice A xs.length cap, .func (.func g) #[] cl.toArray] w fun e w' => e = .returned (Vi (ix pr xs)) ∧ St W F cs w'  := by
  refine enter (P := Try.prog) (args := [.slice A xs.length cap, .func (.func g) #[] cl.toArray]) Try.func78 rfl rfl rfl ?_
  refine WC.seq (WC.reg ?_)
  refine WL.v (Runs.assign rfl) rfl ?_
  refine WL.nil (WN.thn (WC.seq (WC.seq (WC.reg ?_))))
  refine WL.v (Runs.move rfl) rfl ?_
  refine WL.v (Runs.llen Try.underlying37 rfl rfl) rfl ?_
  refine WL.v (Runs.move rfl) rfl ?_
  refine WL.nil (WN.thn (WC.block ?_))
  refine WC.loop (σ := Nat) (fun q_ => [(0, .slice A xs.length cap), (1, .func (.func g) #[] cl.toArray), (7, .int .i64 (xs.length : Int)), (8, .int .i64 (q_ : Int))]) (fun q_ w => q_ ≤ xs.length ∧ (∀ j, j < q_ → pr (xs.getD j J0) = false) ∧ St W F cs w) (fun q_ => xs.length - q_) (0) (by repeat (first | exact trivial | refine ⟨rfl, ?_⟩)) (⟨Nat.zero_le _, fun j hj => absurd hj (Nat.not_lt_zero _), h⟩) ?_
  rintro i w1 ⟨hi, hno, hL⟩
  try dsimp only at hi hno hL
  refine WC.sub (s := [(0, .slice A xs.length cap), (1, .func (.func g) #[] cl.toArray), (7, .int .i64 (xs.length : Int)), (8, .int .i64 (i : Int))]) (by repeat (first | exact trivial | refine ⟨rfl, ?_⟩)) ?_
  refine WC.seq (WC.reg ?_)
  refine WL.v (Runs.lss rfl rfl) rfl ?_
  refine WL.nil (WN.thn (WC.seq ?_))
  refine WC.cond rfl (fun c2 => ?_) (fun c2 => ?_)
  · try simp only [dt, df, nt, nf, ba, il, ie] at c2
    first
    | (exfalso; omega)
    | skip
      refine WC.skip (WN.thn (WC.seq (WC.block (WC.seq (WC.reg ?_)))))
      refine WL.v (Runs.move rfl) rfl ?_
      refine WL.v (Runs.assign rfl) rfl ?_
      refine WL.nil (WN.thn (WC.seq ?_))
      obtain ⟨ad, c, rfl, hc, hcell⟩ := hR.at_ J0 (i := i) (by omega)
      obtain rfl : c = jc (xs.getD i J0) := hc
      refine WC.reg ?_
      refine WL.v (Runs.move rfl) rfl ?_
      refine WL.v (Runs.move rfl) rfl ?_
      refine WL.v (Runs.move rfl) rfl ?_
      refine WL.v (Runs.lidxK Try.underlying37 inf47 rfl rfl (n := i) rfl (by omega)) rfl ?_
      refine WL.v (Runs.loadK hL hcell Try.underlying47 rfl inf47 rfl rfl) rfl ?_
      refine WL.callv hg rfl rfl rfl (hcl _ _ (memD J0 (by omega)) hL) ?_
      rintro _ w3 ⟨rfl, h3⟩
      refine ⟨_, rfl, ?_⟩
      refine WL.nil (WN.thn ?_)
      refine WC.cond rfl (fun c4 => ?_) (fun c4 => ?_)
      · try simp only [dt, df, nt, nf, ba, il, ie] at c4
        first
        | (exfalso; omega)
        | skip
          refine WC.seq (WC.reg ?_)
          refine WL.v (Runs.move rfl) rfl ?_
          refine WL.v (Runs.assign rfl) rfl ?_
          refine WL.nil (WN.thn (WC.ret ?_))
          exact ret1 rfl rfl ⟨by rw [ix_some (d := J0) (by omega) c4 hno], h3⟩
      · try simp only [dt, df, nt, nf, ba, il, ie] at c4
        first
        | (exfalso; omega)
        | skip
          refine WC.skip (WN.blk (WN.thn (WC.reg ?_)))
          refine WL.v (Runs.addn rfl rfl (by omega)) rfl ?_
          refine WL.v (Runs.move rfl) rfl ?_
          refine WL.nil ?_
          exact WN.again (i + 1) (by omega) ⟨rfl, rfl, rfl, rfl, trivial⟩ ⟨by omega, fun j hj => (by
            by_cases e : j = i
            · subst e; exact c4
            · exact hno j (by omega)), h3⟩
  · try simp only [dt, df, nt, nf, ba, il, ie] at c2
    first
    | (exfalso; omega)
    | skip
      refine WC.exit (WX.thn (WX.cut (WX.hit (WN.thn (WC.seq ?_)))))
      refine WC.reg ?_
      refine WL.v (Runs.assign rfl) rfl ?_
      refine WL.nil (WN.thn (WC.ret ?_))
      exact ret1 rfl rfl ⟨by rw [ix_none (d := J0) (fun j hj => hno j (by omega))], hL⟩
set_option maxRecDepth 100000 in
set_option maxHeartbeats 1000000 in
theorem cfJ_c {W : World} {F : Snap} {cs : List Res} (w : World) {A : Option Addr} {cap : Nat} {xs : List J} (g : FuncId) (cl : List Value) (pr : J → Bool) (hg : B.Can Try.prog g) (h : St W F cs w) (hR : RdK KJ W F cs A xs) (hn : xs.length ≤ 100000) (hcl : ∀ w x, x ∈ xs → St W F cs w → Calls Try.prog g (JV x :: cl).toArray w fun e w' => e = .returned (.bool (pr x)) ∧ St W F cs w') : Calls Try.prog 95 #[.slice A xs.length cap, .func (.func g) #[] cl.toArray] w fun e w' => e = .returned (.bool (xs.any pr)) ∧ St W F cs w'  := by
  refine enter (P := Try.prog) (args := [.slice A xs.length cap, .func (.func g) #[] cl.toArray]) Try.func95 rfl rfl rfl ?_
  refine WC.seq (WC.reg ?_)
  refine WL.v (Runs.assign rfl) rfl ?_
  refine WL.nil (WN.thn (WC.seq (WC.reg ?_)))
  refine WL.v (Runs.move rfl) rfl ?_
  refine WL.v (Runs.move rfl) rfl ?_
  refine WL.call can78 rfl rfl (idxJ_c _ g cl pr hg h hR hn hcl) ?_
  rintro _ w1 ⟨rfl, h1⟩
  refine ⟨_, rfl, ?_⟩
  refine WL.v (Runs.geq rfl rfl) rfl ?_
  refine WL.v (Runs.assign rfl) rfl ?_
  refine WL.nil (WN.thn (WC.ret ?_))
  exact ret1 rfl rfl ⟨by rw [ix_any], h1⟩
set_option maxRecDepth 100000 in
set_option maxHeartbeats 1000000 in
theorem idxS_c {W : World} {F : Snap} {cs : List Res} (w : World) {A : Option Addr} {cap : Nat} {xs : List S} (g : FuncId) (cl : List Value) (pr : S → Bool) (hg : B.Can Try.prog g) (h : St W F cs w) (hR : RdK KS W F cs A xs) (hn : xs.length ≤ 100000) (hcl : ∀ w x A1 cap1, x ∈ xs → RdS (Kd.one Vi) F A1 x.ps → St W F cs w → Calls Try.prog g (SV A1 cap1 x :: cl).toArray w fun e w' => e = .returned (.bool (pr x)) ∧ St W F cs w') : Calls Try.prog 80 #[.slice A xs.length cap, .func (.func g) #[] cl.toArray] w fun e w' => e = .returned (Vi (ix pr xs)) ∧ St W F cs w'  := by
  refine enter (P := Try.prog) (args := [.slice A xs.length cap, .func (.func g) #[] cl.toArray]) Try.func80 rfl rfl rfl ?_
  refine WC.seq (WC.reg ?_)
  refine WL.v (Runs.assign rfl) rfl ?_
  refine WL.nil (WN.thn (WC.seq (WC.seq (WC.reg ?_))))
  refine WL.v (Runs.move rfl) rfl ?_
  refine WL.v (Runs.llen Try.underlying38 rfl rfl) rfl ?_
  refine WL.v (Runs.move rfl) rfl ?_
  refine WL.nil (WN.thn (WC.block ?_))
  refine WC.loop (σ := Nat) (fun q_ => [(0, .slice A xs.length cap), (1, .func (.func g) #[] cl.toArray), (7, .int .i64 (xs.length : Int)), (8, .int .i64 (q_ : Int))]) (fun q_ w => q_ ≤ xs.length ∧ (∀ j, j < q_ → pr (xs.getD j S0) = false) ∧ St W F cs w) (fun q_ => xs.length - q_) (0) (by repeat (first | exact trivial | refine ⟨rfl, ?_⟩)) (⟨Nat.zero_le _, fun j hj => absurd hj (Nat.not_lt_zero _), h⟩) ?_
  rintro i w1 ⟨hi, hno, hL⟩
  try dsimp only at hi hno hL
  refine WC.sub (s := [(0, .slice A xs.length cap), (1, .func (.func g) #[] cl.toArray), (7, .int .i64 (xs.length : Int)), (8, .int .i64 (i : Int))]) (by repeat (first | exact trivial | refine ⟨rfl, ?_⟩)) ?_
  refine WC.seq (WC.reg ?_)
  refine WL.v (Runs.lss rfl rfl) rfl ?_
  refine WL.nil (WN.thn (WC.seq ?_))
  refine WC.cond rfl (fun c2 => ?_) (fun c2 => ?_)
  · try simp only [dt, df, nt, nf, ba, il, ie] at c2
    first
    | (exfalso; omega)
    | skip
      refine WC.skip (WN.thn (WC.seq (WC.block (WC.seq (WC.reg ?_)))))
      refine WL.v (Runs.move rfl) rfl ?_
      refine WL.v (Runs.assign rfl) rfl ?_
      refine WL.nil (WN.thn (WC.seq ?_))
      obtain ⟨ad, c, rfl, hc, hcell⟩ := hR.at_ S0 (i := i) (by omega)
      obtain ⟨A1, cap1, rfl, hps⟩ := hc
      refine WC.reg ?_
      refine WL.v (Runs.move rfl) rfl ?_
      refine WL.v (Runs.move rfl) rfl ?_
      refine WL.v (Runs.move rfl) rfl ?_
      refine WL.v (Runs.lidxK Try.underlying38 inf54 rfl rfl (n := i) rfl (by omega)) rfl ?_
      refine WL.v (Runs.loadK hL hcell Try.underlying54 rfl inf54 rfl rfl) rfl ?_
      refine WL.callv hg rfl rfl rfl (hcl _ _ A1 cap1 (memD S0 (by omega)) hps hL) ?_
      rintro _ w3 ⟨rfl, h3⟩
      refine ⟨_, rfl, ?_⟩
      refine WL.nil (WN.thn ?_)
      refine WC.cond rfl (fun c4 => ?_) (fun c4 => ?_)
      · try simp only [dt, df, nt, nf, ba, il, ie] at c4
        first
        | (exfalso; omega)
        | skip
          refine WC.seq (WC.reg ?_)
          refine WL.v (Runs.move rfl) rfl ?_
          refine WL.v (Runs.assign rfl) rfl ?_
          refine WL.nil (WN.thn (WC.ret ?_))
          exact ret1 rfl rfl ⟨by rw [ix_some (d := S0) (by omega) c4 hno], h3⟩
      · try simp only [dt, df, nt, nf, ba, il, ie] at c4
        first
        | (exfalso; omega)
        | skip
          refine WC.skip (WN.blk (WN.thn (WC.reg ?_)))
          refine WL.v (Runs.addn rfl rfl (by omega)) rfl ?_
          refine WL.v (Runs.move rfl) rfl ?_
          refine WL.nil ?_
          exact WN.again (i + 1) (by omega) ⟨rfl, rfl, rfl, rfl, trivial⟩ ⟨by omega, fun j hj => (by
            by_cases e : j = i
            · subst e; exact c4
            · exact hno j (by omega)), h3⟩
  · try simp only [dt, df, nt, nf, ba, il, ie] at c2
    first
    | (exfalso; omega)
    | skip
      refine WC.exit (WX.thn (WX.cut (WX.hit (WN.thn (WC.seq ?_)))))
      refine WC.reg ?_
      refine WL.v (Runs.assign rfl) rfl ?_
      refine WL.nil (WN.thn (WC.ret ?_))
      exact ret1 rfl rfl ⟨by rw [ix_none (d := S0) (fun j hj => hno j (by omega))], hL⟩
set_option maxRecDepth 100000 in
set_option maxHeartbeats 1000000 in
theorem cfS_c {W : World} {F : Snap} {cs : List Res} (w : World) {A : Option Addr} {cap : Nat} {xs : List S} (g : FuncId) (cl : List Value) (pr : S → Bool) (hg : B.Can Try.prog g) (h : St W F cs w) (hR : RdK KS W F cs A xs) (hn : xs.length ≤ 100000) (hcl : ∀ w x A1 cap1, x ∈ xs → RdS (Kd.one Vi) F A1 x.ps → St W F cs w → Calls Try.prog g (SV A1 cap1 x :: cl).toArray w fun e w' => e = .returned (.bool (pr x)) ∧ St W F cs w') : Calls Try.prog 55 #[.slice A xs.length cap, .func (.func g) #[] cl.toArray] w fun e w' => e = .returned (.bool (xs.any pr)) ∧ St W F cs w'  := by
  refine enter (P := Try.prog) (args := [.slice A xs.length cap, .func (.func g) #[] cl.toArray]) Try.func55 rfl rfl rfl ?_
  refine WC.seq (WC.reg ?_)
  refine WL.v (Runs.assign rfl) rfl ?_
  refine WL.nil (WN.thn (WC.seq (WC.reg ?_)))
  refine WL.v (Runs.move rfl) rfl ?_
  refine WL.v (Runs.move rfl) rfl ?_
  refine WL.call can80 rfl rfl (idxS_c _ g cl pr hg h hR hn hcl) ?_
  rintro _ w1 ⟨rfl, h1⟩
  refine ⟨_, rfl, ?_⟩
  refine WL.v (Runs.geq rfl rfl) rfl ?_
  refine WL.v (Runs.assign rfl) rfl ?_
  refine WL.nil (WN.thn (WC.ret ?_))
  exact ret1 rfl rfl ⟨by rw [ix_any], h1⟩
set_option maxRecDepth 100000 in
set_option maxHeartbeats 1000000 in
theorem idxI_c {W : World} {F : Snap} {cs : List Res} (w : World) {A : Option Addr} {cap : Nat} {xs : List Int} (g : FuncId) (cl : List Value) (pr : Int → Bool) (hg : B.Can Try.prog g) (h : St W F cs w) (hR : RdS (Kd.one Vi) F A xs) (hn : xs.length ≤ 100000) (hcl : ∀ w x, x ∈ xs → St W F cs w → Calls Try.prog g (Vi x :: cl).toArray w fun e w' => e = .returned (.bool (pr x)) ∧ St W F cs w') : Calls Try.prog 97 #[.slice A xs.length cap, .func (.func g) #[] cl.toArray] w fun e w' => e = .returned (Vi (ix pr xs)) ∧ St W F cs w'  := by
  refine enter (P := Try.prog) (args := [.slice A xs.length cap, .func (.func g) #[] cl.toArray]) Try.func97 rfl rfl rfl ?_
  refine WC.seq (WC.reg ?_)
  refine WL.v (Runs.assign rfl) rfl ?_
  refine WL.nil (WN.thn (WC.seq (WC.seq (WC.reg ?_))))
  refine WL.v (Runs.move rfl) rfl ?_
  refine WL.v (Runs.llen Try.underlying22 rfl rfl) rfl ?_
  refine WL.v (Runs.move rfl) rfl ?_
  refine WL.nil (WN.thn (WC.block ?_))
  refine WC.loop (σ := Nat) (fun q_ => [(0, .slice A xs.length cap), (1, .func (.func g) #[] cl.toArray), (7, .int .i64 (xs.length : Int)), (8, .int .i64 (q_ : Int))]) (fun q_ w => q_ ≤ xs.length ∧ (∀ j, j < q_ → pr (xs.getD j 0) = false) ∧ St W F cs w) (fun q_ => xs.length - q_) (0) (by repeat (first | exact trivial | refine ⟨rfl, ?_⟩)) (⟨Nat.zero_le _, fun j hj => absurd hj (Nat.not_lt_zero _), h⟩) ?_
  rintro i w1 ⟨hi, hno, hL⟩
  try dsimp only at hi hno hL
  refine WC.sub (s := [(0, .slice A xs.length cap), (1, .func (.func g) #[] cl.toArray), (7, .int .i64 (xs.length : Int)), (8, .int .i64 (i : Int))]) (by repeat (first | exact trivial | refine ⟨rfl, ?_⟩)) ?_
  refine WC.seq (WC.reg ?_)
  refine WL.v (Runs.lss rfl rfl) rfl ?_
  refine WL.nil (WN.thn (WC.seq ?_))
  refine WC.cond rfl (fun c2 => ?_) (fun c2 => ?_)
  · try simp only [dt, df, nt, nf, ba, il, ie] at c2
    first
    | (exfalso; omega)
    | skip
      refine WC.skip (WN.thn (WC.seq (WC.block (WC.seq (WC.reg ?_)))))
      refine WL.v (Runs.move rfl) rfl ?_
      refine WL.v (Runs.assign rfl) rfl ?_
      refine WL.nil (WN.thn (WC.seq ?_))
      obtain ⟨ad, rfl, hrd⟩ := rd1 hR (by omega)
      refine WC.reg ?_
      refine WL.v (Runs.move rfl) rfl ?_
      refine WL.v (Runs.move rfl) rfl ?_
      refine WL.v (Runs.move rfl) rfl ?_
      refine WL.v (Runs.lidxN Try.underlying22 inf3 rfl rfl (n := i) rfl (by omega)) rfl ?_
      refine WL.v (Runs.loadR (f := Vi) (0 : Int) hL hrd (n := i) (by omega) Try.underlying3 rfl rfl) rfl ?_
      refine WL.callv hg rfl rfl rfl (hcl _ _ (memD 0 (by omega)) hL) ?_
      rintro _ w3 ⟨rfl, h3⟩
      refine ⟨_, rfl, ?_⟩
      refine WL.nil (WN.thn ?_)
      refine WC.cond rfl (fun c4 => ?_) (fun c4 => ?_)
      · try simp only [dt, df, nt, nf, ba, il, ie] at c4
        first
        | (exfalso; omega)
        | skip
          refine WC.seq (WC.reg ?_)
          refine WL.v (Runs.move rfl) rfl ?_
          refine WL.v (Runs.assign rfl) rfl ?_
          refine WL.nil (WN.thn (WC.ret ?_))
          exact ret1 rfl rfl ⟨by rw [ix_some (d := 0) (by omega) c4 hno], h3⟩
      · try simp only [dt, df, nt, nf, ba, il, ie] at c4
        first
        | (exfalso; omega)
        | skip
          refine WC.skip (WN.blk (WN.thn (WC.reg ?_)))
          refine WL.v (Runs.addn rfl rfl (by omega)) rfl ?_
          refine WL.v (Runs.move rfl) rfl ?_
          refine WL.nil ?_
          exact WN.again (i + 1) (by omega) ⟨rfl, rfl, rfl, rfl, trivial⟩ ⟨by omega, fun j hj => (by
            by_cases e : j = i
            · subst e; exact c4
            · exact hno j (by omega)), h3⟩
  · try simp only [dt, df, nt, nf, ba, il, ie] at c2
    first
    | (exfalso; omega)
    | skip
      refine WC.exit (WX.thn (WX.cut (WX.hit (WN.thn (WC.seq ?_)))))
      refine WC.reg ?_
      refine WL.v (Runs.assign rfl) rfl ?_
      refine WL.nil (WN.thn (WC.ret ?_))
      exact ret1 rfl rfl ⟨by rw [ix_none (d := 0) (fun j hj => hno j (by omega))], hL⟩
set_option maxRecDepth 100000 in
set_option maxHeartbeats 1000000 in
theorem cfI_c {W : World} {F : Snap} {cs : List Res} (w : World) {A : Option Addr} {cap : Nat} {xs : List Int} (g : FuncId) (cl : List Value) (pr : Int → Bool) (hg : B.Can Try.prog g) (h : St W F cs w) (hR : RdS (Kd.one Vi) F A xs) (hn : xs.length ≤ 100000) (hcl : ∀ w x, x ∈ xs → St W F cs w → Calls Try.prog g (Vi x :: cl).toArray w fun e w' => e = .returned (.bool (pr x)) ∧ St W F cs w') : Calls Try.prog 89 #[.slice A xs.length cap, .func (.func g) #[] cl.toArray] w fun e w' => e = .returned (.bool (xs.any pr)) ∧ St W F cs w'  := by
  refine enter (P := Try.prog) (args := [.slice A xs.length cap, .func (.func g) #[] cl.toArray]) Try.func89 rfl rfl rfl ?_
  refine WC.seq (WC.reg ?_)
  refine WL.v (Runs.assign rfl) rfl ?_
  refine WL.nil (WN.thn (WC.seq (WC.reg ?_)))
  refine WL.v (Runs.move rfl) rfl ?_
  refine WL.v (Runs.move rfl) rfl ?_
  refine WL.call can97 rfl rfl (idxI_c _ g cl pr hg h hR hn hcl) ?_
  rintro _ w1 ⟨rfl, h1⟩
  refine ⟨_, rfl, ?_⟩
  refine WL.v (Runs.geq rfl rfl) rfl ?_
  refine WL.v (Runs.assign rfl) rfl ?_
  refine WL.nil (WN.thn (WC.ret ?_))
  exact ret1 rfl rfl ⟨by rw [ix_any], h1⟩
set_option maxRecDepth 100000 in
set_option maxHeartbeats 1000000 in
theorem index_c {W : World} {F : Snap} {cs : List Res} (w : World) {A : Option Addr} {cap : Nat} {xs : List Int} (n : Int) (h : St W F cs w) (hR : RdS (Kd.one Vi) F A xs) (hn : xs.length ≤ 100000) : Calls Try.prog 98 #[.slice A xs.length cap, Vi n] w fun e w' => e = .returned (Vi (ix (fun x => decide (x = n)) xs)) ∧ St W F cs w'  := by
  refine enter (P := Try.prog) (args := [.slice A xs.length cap, Vi n]) Try.func98 rfl rfl rfl ?_
  refine WC.seq (WC.reg ?_)
  refine WL.v (Runs.assign rfl) rfl ?_
  refine WL.nil (WN.thn (WC.seq (WC.seq (WC.reg ?_))))
  refine WL.v (Runs.move rfl) rfl ?_
  refine WL.v (Runs.llen Try.underlying22 rfl rfl) rfl ?_
  refine WL.v (Runs.move rfl) rfl ?_
  refine WL.nil (WN.thn (WC.block ?_))
  refine WC.loop (σ := Nat) (fun q_ => [(0, .slice A xs.length cap), (1, Vi n), (7, .int .i64 (xs.length : Int)), (8, .int .i64 (q_ : Int))]) (fun q_ w => q_ ≤ xs.length ∧ (∀ j, j < q_ → (fun x => decide (x = n)) (xs.getD j 0) = false) ∧ St W F cs w) (fun q_ => xs.length - q_) (0) (by repeat (first | exact trivial | refine ⟨rfl, ?_⟩)) (⟨Nat.zero_le _, fun j hj => absurd hj (Nat.not_lt_zero _), h⟩) ?_
  rintro i w1 ⟨hi, hno, hL⟩
  try dsimp only at hi hno hL
  refine WC.sub (s := [(0, .slice A xs.length cap), (1, Vi n), (7, .int .i64 (xs.length : Int)), (8, .int .i64 (i : Int))]) (by repeat (first | exact trivial | refine ⟨rfl, ?_⟩)) ?_
  refine WC.seq (WC.reg ?_)
  refine WL.v (Runs.lss rfl rfl) rfl ?_
  refine WL.nil (WN.thn (WC.seq ?_))
  refine WC.cond rfl (fun c2 => ?_) (fun c2 => ?_)
  · try simp only [dt, df, nt, nf, ba, il, ie] at c2
    first
    | (exfalso; omega)
    | skip
      refine WC.skip (WN.thn (WC.seq (WC.block (WC.seq (WC.reg ?_)))))
      refine WL.v (Runs.move rfl) rfl ?_
      refine WL.v (Runs.assign rfl) rfl ?_
      refine WL.nil (WN.thn (WC.seq ?_))
      obtain ⟨ad, rfl, hrd⟩ := rd1 hR (by omega)
      refine WC.reg ?_
      refine WL.v (Runs.move rfl) rfl ?_
      refine WL.v (Runs.move rfl) rfl ?_
      refine WL.v (Runs.move rfl) rfl ?_
      refine WL.v (Runs.lidxN Try.underlying22 inf3 rfl rfl (n := i) rfl (by omega)) rfl ?_
      refine WL.v (Runs.loadR (f := Vi) (0 : Int) hL hrd (n := i) (by omega) Try.underlying3 rfl rfl) rfl ?_
      refine WL.v (Runs.eql rfl rfl) rfl ?_
      refine WL.nil (WN.thn ?_)
      refine WC.cond rfl (fun c3 => ?_) (fun c3 => ?_)
      · try simp only [dt, df, nt, nf, ba, il, ie] at c3
        first
        | (exfalso; omega)
        | skip
          refine WC.seq (WC.reg ?_)
          refine WL.v (Runs.move rfl) rfl ?_
          refine WL.v (Runs.assign rfl) rfl ?_
          refine WL.nil (WN.thn (WC.ret ?_))
          exact ret1 rfl rfl ⟨by rw [ix_some (p := fun x => decide (x = n)) (d := (0 : Int)) (by omega) (decide_eq_true c3.symm) hno], hL⟩
      · try simp only [dt, df, nt, nf, ba, il, ie] at c3
        first
        | (exfalso; omega)
        | skip
          refine WC.skip (WN.blk (WN.thn (WC.reg ?_)))
          refine WL.v (Runs.addn rfl rfl (by omega)) rfl ?_
          refine WL.v (Runs.move rfl) rfl ?_
          refine WL.nil ?_
          exact WN.again (i + 1) (by omega) ⟨rfl, rfl, rfl, rfl, trivial⟩ ⟨by omega, fun j hj => (by
            by_cases e : j = i
            · subst e; exact decide_eq_false (fun e => c3 e.symm)
            · exact hno j (by omega)), hL⟩
  · try simp only [dt, df, nt, nf, ba, il, ie] at c2
    first
    | (exfalso; omega)
    | skip
      refine WC.exit (WX.thn (WX.cut (WX.hit (WN.thn (WC.seq ?_)))))
      refine WC.reg ?_
      refine WL.v (Runs.assign rfl) rfl ?_
      refine WL.nil (WN.thn (WC.ret ?_))
      exact ret1 rfl rfl ⟨by rw [ix_none (p := fun x => decide (x = n)) (d := (0 : Int)) (fun j hj => hno j (by omega))], hL⟩
set_option maxRecDepth 100000 in
set_option maxHeartbeats 1000000 in
theorem contains_c {W : World} {F : Snap} {cs : List Res} (w : World) {A : Option Addr} {cap : Nat} {xs : List Int} (n : Int) (h : St W F cs w) (hR : RdS (Kd.one Vi) F A xs) (hn : xs.length ≤ 100000) : Calls Try.prog 91 #[.slice A xs.length cap, Vi n] w fun e w' => e = .returned (.bool (decide (n ∈ xs))) ∧ St W F cs w'  := by
  refine enter (P := Try.prog) (args := [.slice A xs.length cap, Vi n]) Try.func91 rfl rfl rfl ?_
  refine WC.seq (WC.reg ?_)
  refine WL.v (Runs.assign rfl) rfl ?_
  refine WL.nil (WN.thn (WC.seq (WC.reg ?_)))
  refine WL.v (Runs.move rfl) rfl ?_
  refine WL.v (Runs.move rfl) rfl ?_
  refine WL.call can98 rfl rfl (index_c _ n h hR hn) ?_
  rintro _ w1 ⟨rfl, h1⟩
  refine ⟨_, rfl, ?_⟩
  refine WL.v (Runs.geq rfl rfl) rfl ?_
  refine WL.v (Runs.assign rfl) rfl ?_
  refine WL.nil (WN.thn (WC.ret ?_))
  exact ret1 rfl rfl ⟨by rw [ix_any, any_mem], h1⟩
set_option maxRecDepth 100000 in
set_option maxHeartbeats 1000000 in
theorem cloneI_c {W : World} {F : Snap} {cs : List Res} (w : World) {A : Option Addr} {cap : Nat} {xs : List Int} (h : St W F cs w) (hR : RdS (Kd.one Vi) F A xs) (hn : xs.length ≤ 100000) : Calls Try.prog 92 #[.slice A xs.length cap] w fun e w' => Gives W F cs Vi xs e w'  := by
  refine enter (P := Try.prog) (args := [.slice A xs.length cap]) Try.func92 rfl rfl rfl ?_
  refine WC.seq (WC.reg ?_)
  refine WL.v (Runs.assign rfl) rfl ?_
  refine WL.nil (WN.thn (WC.seq (WC.seq (WC.reg ?_))))
  refine WL.v (Runs.move rfl) rfl ?_
  refine WL.v (Runs.nileql Try.underlying22 rfl rfl) rfl ?_
  refine WL.nil (WN.thn ?_)
  refine WC.cond rfl (fun c1 => ?_) (fun c1 => ?_)
  · try simp only [dt, df, nt, nf, ba, il, ie] at c1
    first
    | (exfalso; omega)
    | skip
      refine WC.seq (WC.reg ?_)
      refine WL.v (Runs.assign rfl) rfl ?_
      refine WL.nil (WN.thn (WC.ret ?_))
      obtain rfl : A = none := Option.isNone_iff_eq_none.1 c1
      obtain rfl := rd_none hR
      exact ret1 rfl rfl ⟨F, none, 0, Le.refl F, rfl, Nat.le_refl _, .inl rfl, h⟩
  · try simp only [dt, df, nt, nf, ba, il, ie] at c1
    first
    | (exfalso; omega)
    | skip
      refine WC.skip (WN.thn (WC.seq (WC.reg ?_)))
      refine WL.lit (vs := (([] : List Int)).map Vi) h rfl Try.underlying22 inf3 rfl rfl rfl rfl rfl ?_
      intro lit5 w2 h2
      refine WL.v (Runs.move rfl) rfl ?_
      refine WL.app (ys := xs) 0 h2 rfl rfl rfl rfl Try.underlying22 Try.underlying22 (.inr ⟨_, rfl⟩) inf3 rfl (Row.lit (xs := ([] : List Int)) rfl) (Src.rd hR h2 rfl (fun _ => rfl)) rfl rfl (by first | omega | (simp []; done) | (simp []; omega)) (by first | omega | (simp []; done) | (simp []; omega)) ?_
      intro r3 v3 w4 hr3 h4
      simp only [lz, ls] at h4
      refine WL.v (Runs.assign rfl) rfl ?_
      refine WL.nil (WN.thn (WC.ret ?_))
      refine ret1 rfl rfl (Row.gives hr3 h4)
end Rc
end Go.Proofs.Ythejglgnoingfaa
