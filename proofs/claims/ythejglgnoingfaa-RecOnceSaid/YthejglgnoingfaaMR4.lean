/- Walks of package rec: a state of one's own; Void, Prolog. -/
import Derived.Test.YthejglgnoingfaaProg
import Derived.KernelRfl
import Derived.Test.YthejglgnoingfaaMBaseAH
import Derived.Test.YthejglgnoingfaaMR3
namespace Go.Proofs.Ythejglgnoingfaa
open Go Go.RowKit B
set_option linter.unusedVariables false
set_option linter.unusedSimpArgs false
namespace Rc

theorem fld40_2 : fldB Try.prog 40 2 2 = true := by kernel_rfl
theorem can70 : B.Can Try.prog 70 := ⟨_, Try.func70, by kernel_rfl, rfl⟩   -- slices.Clone[[]roundhouse/rec.Job,roundhouse/rec.Job]
theorem can71 : B.Can Try.prog 71 := ⟨_, Try.func71, by kernel_rfl, rfl⟩   -- slices.Clone[[]roundhouse/rec.Step,roundhouse/rec.Step]
/-- a state of one's own -/
structure OS (F : Snap) (rj rs : Res) (AJ AS : Option Addr) (cj cS : Nat) (z : Z) : Prop where
  J : RowM 47 3 jc rj (.slice AJ z.js.length cj) z.js
  S : ∃ es : List E, RowM 54 6 sc rs (.slice AS z.ss.length cS) es ∧ es.map (·.s) = z.ss ∧ ∀ e ∈ es, RdS (Kd.one Vi) F e.A e.s.ps
structure few (z : Z) : Prop where
  j : z.js.length ≤ 90000
  s : z.ss.length ≤ 90000
  p : ∀ x ∈ z.ss, x.ps.length ≤ 100000
abbrev sbk (b : Nat) (AJ AS : Option Addr) (cj cS : Nat) (z : Z) : Res := [(b, .cells #[.slice AJ z.js.length cj, .slice AS z.ss.length cS, .bool z.dr] 40 (0, 0))]
def Did (W : World) (F : Snap) (cs : List Res) (bs : Nat) (q : Z × Int) (e : Ending) (w' : World) : Prop :=
  ∃ G rj rs AJ AS cj cS, Le F G ∧ e = .returned (Vi q.2) ∧ OS G rj rs AJ AS cj cS q.1 ∧ St W G (sbk bs AJ AS cj cS q.1 :: rj :: rs :: cs) w'
structure ZR (F : Snap) (AJ AS : Option Addr) (z : Z) : Prop where
  j : RdS KJ F AJ z.js
  s : RdS KS F AS z.ss
theorem ZR.mono {F G : Snap} {AJ AS : Option Addr} {z : Z} (hle : Le F G) (h : ZR F AJ AS z) : ZR G AJ AS z := ⟨h.j.mono hle, h.s.mono hle⟩
theorem OS.mono {F G : Snap} {rj rs : Res} {AJ AS : Option Addr} {cj cS : Nat} {z : Z} (hle : Le F G) (h : OS F rj rs AJ AS cj cS z) : OS G rj rs AJ AS cj cS z := by
  obtain ⟨h1, es, h2, h3, h4⟩ := h
  exact ⟨h1, es, h2, h3, fun e he => (h4 e he).mono hle⟩
theorem OS.rdJ {W : World} {F : Snap} {cs : List Res} {rj rs : Res} {AJ AS : Option Addr} {cj cS i : Nat} {z : Z} (h : OS F rj rs AJ AS cj cS z) (hi : cs[i]? = some rj) : RdK KJ W F cs AJ z.js := by
  have := RdK.row (W := W) (F := F) (d := KJ) (f := jc) (er := id) (fun _ => rfl) rfl h.J hi rfl (fun _ _ => rfl)
  rwa [List.map_id] at this
theorem OS.rdS {W : World} {F : Snap} {cs : List Res} {rj rs : Res} {AJ AS : Option Addr} {cj cS i : Nat} {z : Z} (h : OS F rj rs AJ AS cj cS z) (hi : cs[i]? = some rs) : RdK KS W F cs AS z.ss := by
  obtain ⟨es, h1, h2, h3⟩ := h.S
  have := RdK.row (W := W) (F := F) (d := KS) (f := sc) (er := E.s) (fun _ => rfl) rfl h1 hi rfl (fun e he => ⟨e.A, e.cap, rfl, h3 e he⟩)
  rwa [h2] at this
theorem OS.still {W w : World} {F : Snap} {cs : List Res} {rj rs : Res} {AJ AS : Option Addr} {cj cS : Nat} {z : Z} (h : OS F rj rs AJ AS cj cS z) (hs : St W F (rj :: rs :: cs) w) : ∃ G, Le F G ∧ ZR G AJ AS z ∧ St W G cs w := by
  obtain ⟨G1, l1, g1, S1⟩ := hs.freeze (i := 0) rfl
  obtain ⟨G2, l2, g2, S2⟩ := S1.freeze (i := 0) rfl
  obtain ⟨es, h1, h2, h3⟩ := h.S
  refine ⟨G2, Le.trans l1 l2, ⟨(RowM.read (f := jc) (fun _ => rfl) h.J rfl g1).mono l2, ?_⟩, S2⟩
  have h4 := RowM.read (f := sc) (fun _ => rfl) h1 rfl g2
  have h5 := RdS.unpick (d := KS) (er := E.s) h4 (fun e he => ⟨e.A, e.cap, rfl, (h3 e he).mono (Le.trans l1 l2)⟩)
  rwa [h2] at h5
theorem rd_none' {α : Type} {d : Kd α} {F : Snap} {xs : List α} (h : RdS d F none xs) : xs = [] := by
  rcases h with h | ⟨ad, hA, _⟩
  · exact h
  · cases hA
set_option maxRecDepth 100000 in
set_option maxHeartbeats 1000000 in
theorem cloneJ_c {W : World} {F : Snap} {cs : List Res} (w : World) {A : Option Addr} {cap : Nat} {xs : List J} (h : St W F cs w) (hR : RdS KJ F A xs) (hn : xs.length ≤ 100000) : Calls Try.prog 70 #[.slice A xs.length cap] w fun e w' => ∃ r v, e = .returned v ∧ RowM 47 3 jc r v xs ∧ St W F (r :: cs) w'  := by
  refine enter (P := Try.prog) (args := [.slice A xs.length cap]) Try.func70 rfl rfl rfl ?_
  refine WC.seq (WC.reg ?_)
  refine WL.v (Runs.assign rfl) rfl ?_
  refine WL.nil (WN.thn (WC.seq (WC.seq (WC.reg ?_))))
  refine WL.v (Runs.move rfl) rfl ?_
  refine WL.v (Runs.nileql Try.underlying37 rfl rfl) rfl ?_
  refine WL.nil (WN.thn ?_)
  refine WC.cond rfl (fun c1 => ?_) (fun c1 => ?_)
  · try simp only [dt, df, nt, nf, ba, il, ie] at c1
    first
    | (exfalso; omega)
    | skip
      refine WC.seq (WC.reg ?_)
      refine WL.v (Runs.assign rfl) rfl ?_
      refine WL.nil (WN.thn (WC.ret ?_))
      obtain rfl : A = none := Option.isNone_iff_eq_none.1 c1
      obtain rfl := rd_none' hR
      exact ret1 rfl rfl ⟨[], _, rfl, RowM.nil _ _ _, h.nilRes⟩
  · try simp only [dt, df, nt, nf, ba, il, ie] at c1
    first
    | (exfalso; omega)
    | skip
      refine WC.skip (WN.thn (WC.seq (WC.reg ?_)))
      refine WL.buildSlice (vs := []) h rfl Try.underlying37 (inf47.elem rfl rfl) rfl rfl rfl (by decide) ?_
      intro o w2 h2
      try simp only [lz, ls, ez, es'] at h2
      have hr0 : RowM 47 3 jc _ _ ([] : List J) := RowM.lit0 (b := o)
      refine WL.v (Runs.move rfl) rfl ?_
      refine WL.appM (f := jc) (ys := xs) 0 h2 rfl rfl rfl rfl Try.underlying37 Try.underlying37 (.inr ⟨_, rfl⟩) (inf47.elem rfl rfl) hr0 (Src.rdM hR h2 rfl (fun _ => rfl)) rfl (by first | omega | (simp; done) | (simp; omega) | (simp only [List.length_nil]; omega)) (by first | omega | (simp; done) | (simp; omega) | (simp only [List.length_nil]; omega)) ?_
      intro r3 v3 w4 hr3 h4
      simp only [lz, ls] at h4
      obtain ⟨A3, cap3, rfl, hcap3⟩ := hr3.val
      refine WL.v (Runs.assign rfl) rfl ?_
      refine WL.nil (WN.thn (WC.ret ?_))
      exact ret1 rfl rfl ⟨_, _, rfl, hr3, h4⟩
set_option maxRecDepth 100000 in
set_option maxHeartbeats 1000000 in
theorem cloneS_c {W : World} {F : Snap} {cs : List Res} (w : World) {A : Option Addr} {cap : Nat} {xs : List S} (h : St W F cs w) (hR : RdS KS F A xs) (hn : xs.length ≤ 100000) : Calls Try.prog 71 #[.slice A xs.length cap] w fun e w' => ∃ r v es, e = .returned v ∧ RowM 54 6 sc r v es ∧ es.map (·.s) = xs ∧ (∀ e ∈ es, RdS (Kd.one Vi) F e.A e.s.ps) ∧ St W F (r :: cs) w'  := by
  refine enter (P := Try.prog) (args := [.slice A xs.length cap]) Try.func71 rfl rfl rfl ?_
  obtain ⟨es, hes, hR1, hP1⟩ := RdS.pick (d := KS) (f := sc) (er := E.s) (P := fun e => RdS (Kd.one Vi) F e.A e.s.ps) (fun _ => rfl) (fun y c ⟨A, cap, hc, hp⟩ => ⟨⟨y, A, cap⟩, rfl, hc, hp⟩) hR
  have hel : es.length = xs.length := by rw [← hes, List.length_map]
  refine WC.seq (WC.reg ?_)
  refine WL.v (Runs.assign rfl) rfl ?_
  refine WL.nil (WN.thn (WC.seq (WC.seq (WC.reg ?_))))
  refine WL.v (Runs.move rfl) rfl ?_
  refine WL.v (Runs.nileql Try.underlying38 rfl rfl) rfl ?_
  refine WL.nil (WN.thn ?_)
  refine WC.cond rfl (fun c1 => ?_) (fun c1 => ?_)
  · try simp only [dt, df, nt, nf, ba, il, ie] at c1
    first
    | (exfalso; omega)
    | skip
      refine WC.seq (WC.reg ?_)
      refine WL.v (Runs.assign rfl) rfl ?_
      refine WL.nil (WN.thn (WC.ret ?_))
      obtain rfl : A = none := Option.isNone_iff_eq_none.1 c1
      obtain rfl := rd_none' hR
      exact ret1 rfl rfl ⟨[], _, [], rfl, RowM.nil _ _ _, rfl, (fun e he => by cases he), h.nilRes⟩
  · try simp only [dt, df, nt, nf, ba, il, ie] at c1
    first
    | (exfalso; omega)
    | skip
      refine WC.skip (WN.thn (WC.seq (WC.reg ?_)))
      refine WL.buildSlice (vs := []) h rfl Try.underlying38 (inf54.elem rfl rfl) rfl rfl rfl (by decide) ?_
      intro o w2 h2
      try simp only [lz, ls, ez, es'] at h2
      have hr0 : RowM 54 6 sc _ _ ([] : List E) := RowM.lit0 (b := o)
      refine WL.v (Runs.move rfl) rfl ?_
      refine WL.appM (f := sc) (ys := es) 0 h2 rfl rfl rfl rfl Try.underlying38 Try.underlying38 (.inr ⟨_, rfl⟩) (inf54.elem rfl rfl) hr0 (Src.rdM hR1 h2 hel.symm (fun _ => rfl)) rfl (by first | omega | (simp; done) | (simp; omega) | (simp only [List.length_nil]; omega)) (by first | omega | (simp; done) | (simp; omega) | (simp only [List.length_nil]; omega)) ?_
      intro r3 v3 w4 hr3 h4
      simp only [lz, ls] at h4
      obtain ⟨A3, cap3, rfl, hcap3⟩ := hr3.val
      refine WL.v (Runs.assign rfl) rfl ?_
      refine WL.nil (WN.thn (WC.ret ?_))
      exact ret1 rfl rfl ⟨_, _, _, rfl, hr3, hes, hP1, h4⟩
set_option maxRecDepth 100000 in
set_option maxHeartbeats 1000000 in
theorem copied_c {W : World} {F : Snap} {cs : List Res} (w : World) {AJ AS : Option Addr} {cj cS : Nat} {z : Z} (hz : few z) (h : St W F cs w) (hR : ZR F AJ AS z) : Calls Try.prog 46 #[.agg #[.slice AJ z.js.length cj, .slice AS z.ss.length cS, .bool z.dr]] w fun e w' => ∃ rj rs AJ AS cj cS, e = .returned (.agg #[.slice AJ z.js.length cj, .slice AS z.ss.length cS, .bool z.dr]) ∧ OS F rj rs AJ AS cj cS z ∧ St W F (rj :: rs :: cs) w'  := by
  refine enter (P := Try.prog) (args := [.agg #[.slice AJ z.js.length cj, .slice AS z.ss.length cS, .bool z.dr]]) Try.func46 rfl rfl rfl ?_
  refine WC.seq (WC.reg ?_)
  refine WL.box rfl h rfl ?_
  intro b1 w1 h1
  refine WL.alloc' rfl h1 inf40 ?_
  intro b2 w2 h2
  refine WL.nil (WN.thn (WC.seq ?_))
  refine WC.eregK h2 h2 (fun s_ => ([9] : List Nat).any (Nat.beq s_)) mixed (by kernel_rfl) (fun hx => ?_)
  intro w3 h3
  refine WE.p0 hx 0 (by rfl) (fun w_ => Runs.fld fld40_0 rfl) rfl ?_
  refine WE.p0 hx 3 (by rfl) (fun w_ => Runs.fld fld40_1 rfl) rfl ?_
  refine WE.p0 hx 6 (by rfl) (fun w_ => Runs.fld fld40_2 rfl) rfl ?_
  refine WE.v0 12 hx 1 (by rfl) (fun w_ hE_ => Runs.load1 Try.underlying37 rfl rfl (hE_.ocell (i := 1) rfl rfl)) rfl ?_
  refine WE.v0 12 hx 4 (by rfl) (fun w_ hE_ => Runs.load1 Try.underlying38 rfl rfl (hE_.ocell (i := 1) rfl rfl)) rfl ?_
  refine WE.v0 12 hx 7 (by rfl) (fun w_ hE_ => Runs.load1 Try.underlying4 rfl rfl (hE_.ocell (i := 1) rfl rfl)) rfl ?_
  refine WE.op (.inr h3) (i := 2) (by rfl) (by kernel_rfl) ?_
  refine WL.call can70 rfl rfl (cloneJ_c _ h3 hR.j (by have := hz.j; omega)) ?_
  rintro _ w4 ⟨rj, vj, rfl, hJ, h4⟩
  refine ⟨_, rfl, ?_⟩
  obtain ⟨AJ1, cj1, rfl, hcj⟩ := hJ.val
  refine WL.nil (WE.next ?_)
  refine WE.op (.inr (h4.drop 0)) (i := 5) (by rfl) (by kernel_rfl) ?_
  refine WL.call can71 rfl rfl (cloneS_c _ h4 hR.s (by have := hz.s; omega)) ?_
  rintro _ w5 ⟨rs, vs, es, rfl, hS, hes, hps, h5⟩
  refine ⟨_, rfl, ?_⟩
  obtain ⟨AS1, cS1, rfl, hcS⟩ := hS.val
  have hel : es.length = z.ss.length := by rw [← hes, List.length_map]
  rw [hel] at hS hcS ⊢
  refine WL.nil (WE.next ?_)
  refine WE.p0 hx 8 (by rfl) (fun w_ => Runs.build (vs := [(0, .slice AJ1 z.js.length cj1), (1, .slice AS1 z.ss.length cS1), (2, .bool z.dr)]) (cells := #[.slice AJ1 z.js.length cj1, .slice AS1 z.ss.length cS1, .bool z.dr]) rfl (by kernel_rfl)) rfl ?_
  refine WE.op (.inr ((h5.drop 1).drop 0)) (i := 9) (by rfl) (by kernel_rfl) ?_
  refine WL.storeAll h5 2 rfl rfl rfl inf40 rfl rfl rfl (Free.zero _) ?_
  intro  w6 h6
  try simp only [lz, ls, ez, es'] at h6
  refine WL.nil (WE.next ?_)
  refine WE.fin (.inl ⟨9, rfl, by kernel_rfl⟩) (by kernel_rfl) ?_
  refine WN.thn (WC.ret ?_)
  refine retA rfl (ResOk.blk h6 2 rfl Try.underlying40 rfl inf40 rfl rfl) ⟨rj, rs, AJ1, AS1, cj1, cS1, rfl, ⟨hJ, es, hS, hes, hps⟩, ((h6.drop 2).drop 2).perm (List.Perm.swap _ _ _)⟩
end Rc
end Go.Proofs.Ythejglgnoingfaa
