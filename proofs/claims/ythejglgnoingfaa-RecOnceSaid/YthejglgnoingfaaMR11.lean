/- Walks of the reference of chapter 15: what it finds; copies. -/
import Derived.Test.YthejglgnoingfaaProg
import Derived.KernelRfl
import Derived.Test.YthejglgnoingfaaMBaseAH
import Derived.Test.YthejglgnoingfaaMR10
namespace Go.Proofs.Ythejglgnoingfaa
open Go Go.RowKit B
set_option linter.unusedVariables false
set_option linter.unusedSimpArgs false
namespace Rc

theorem inf32 : Inf Try.prog 32 (.slice none 0 0) 1 24 := by unfold Inf; kernel_rfl
theorem inf33 : Inf Try.prog 33 (.slice none 0 0) 1 24 := by unfold Inf; kernel_rfl
theorem inf35 : Inf Try.prog 35 (.agg #[.slice none 0 0, .slice none 0 0, .bool false]) 3 56 := by unfold Inf; kernel_rfl
theorem fld35_2 : fldB Try.prog 35 2 2 = true := by kernel_rfl
theorem fld57_5 : fldB Try.prog 57 5 5 = true := by kernel_rfl
theorem can50 : B.Can Try.prog 50 := ⟨_, Try.func50, by kernel_rfl, rfl⟩   -- roundhouse/roundhouseref15.step
theorem can53 : B.Can Try.prog 53 := ⟨_, Try.func53, by kernel_rfl, rfl⟩   -- roundhouse/roundhouseref15.job
structure QOS (F : Snap) (rj rs : Res) (AJ AS : Option Addr) (cj cS : Nat) (z : Z) : Prop where
  J : RowM 50 3 jc rj (.slice AJ z.js.length cj) z.js
  S : ∃ es : List E, RowM 57 6 sc rs (.slice AS z.ss.length cS) es ∧ es.map (·.s) = z.ss ∧ ∀ e ∈ es, RdS (Kd.one Vi) F e.A e.s.ps
abbrev qsbk (b : Nat) (AJ AS : Option Addr) (cj cS : Nat) (z : Z) : Res := [(b, .cells #[.slice AJ z.js.length cj, .slice AS z.ss.length cS, .bool z.dr] 35 (0, 0))]
theorem QOS.mono {F G : Snap} {rj rs : Res} {AJ AS : Option Addr} {cj cS : Nat} {z : Z} (hle : Le F G) (h : QOS F rj rs AJ AS cj cS z) : QOS G rj rs AJ AS cj cS z := by
  obtain ⟨h1, es, h2, h3, h4⟩ := h
  exact ⟨h1, es, h2, h3, fun e he => (h4 e he).mono hle⟩
theorem QOS.rdJ {W : World} {F : Snap} {cs : List Res} {rj rs : Res} {AJ AS : Option Addr} {cj cS i : Nat} {z : Z} (h : QOS F rj rs AJ AS cj cS z) (hi : cs[i]? = some rj) : RdK KJ W F cs AJ z.js := by
  have := RdK.row (W := W) (F := F) (d := KJ) (f := jc) (er := id) (fun _ => rfl) rfl h.J hi rfl (fun _ _ => rfl)
  rwa [List.map_id] at this
theorem QOS.rdS {W : World} {F : Snap} {cs : List Res} {rj rs : Res} {AJ AS : Option Addr} {cj cS i : Nat} {z : Z} (h : QOS F rj rs AJ AS cj cS z) (hi : cs[i]? = some rs) : RdK KS W F cs AS z.ss := by
  obtain ⟨es, h1, h2, h3⟩ := h.S
  have := RdK.row (W := W) (F := F) (d := KS) (f := sc) (er := E.s) (fun _ => rfl) rfl h1 hi rfl (fun e he => ⟨e.A, e.cap, rfl, h3 e he⟩)
  rwa [h2] at this
theorem QOS.still {W w : World} {F : Snap} {cs : List Res} {rj rs : Res} {AJ AS : Option Addr} {cj cS : Nat} {z : Z} (h : QOS F rj rs AJ AS cj cS z) (hs : St W F (rj :: rs :: cs) w) : ∃ G, Le F G ∧ ZR G AJ AS z ∧ St W G cs w := by
  obtain ⟨G1, l1, g1, S1⟩ := hs.freeze (i := 0) rfl
  obtain ⟨G2, l2, g2, S2⟩ := S1.freeze (i := 0) rfl
  obtain ⟨es, h1, h2, h3⟩ := h.S
  refine ⟨G2, Le.trans l1 l2, ⟨(RowM.read (f := jc) (fun _ => rfl) h.J rfl g1).mono l2, ?_⟩, S2⟩
  have h4 := RowM.read (f := sc) (fun _ => rfl) h1 rfl g2
  have h5 := RdS.unpick (d := KS) (er := E.s) h4 (fun e he => ⟨e.A, e.cap, rfl, (h3 e he).mono (Le.trans l1 l2)⟩)
  rwa [h2] at h5
theorem QOS.cellJ {W : World} {F : Snap} {rj rs : Res} {AJ AS : Option Addr} {cj cS i : Nat} {z : Z} (h : QOS F rj rs AJ AS cj cS z) (hi : i < z.js.length) : ∃ ad, AJ = some ad ∧ ∀ (cs : List Res) (k : Nat), cs[k]? = some rj → ∀ w, St W F cs w → ∀ j v, (jc (z.js.getD i J0))[j]? = some v → w.cell? (ad.add (i * 3 + j)) = some v := by
  have key : ∀ (cs : List Res) (k : Nat), cs[k]? = some rj → ∃ ad, AJ = some ad ∧ ∀ w, St W F cs w → ∀ j v, (jc (z.js.getD i J0))[j]? = some v → w.cell? (ad.add (i * 3 + j)) = some v := fun cs k hk => by
    obtain ⟨ad, c, hA, hc, hcell⟩ := (h.rdJ (W := W) hk).at_ J0 hi
    obtain rfl : c = jc (z.js.getD i J0) := hc
    exact ⟨ad, hA, hcell⟩
  obtain ⟨ad, hA, _⟩ := key [rj] 0 rfl
  refine ⟨ad, hA, fun cs k hk => ?_⟩
  obtain ⟨ad', hA', h'⟩ := key cs k hk
  rw [hA] at hA'
  injection hA' with hA'
  subst hA'
  exact h'
theorem qrowCell {W : World} {F : Snap} {rs : Res} {AS : Option Addr} {n cS i : Nat} {es : List E} {e : E} (h : RowM 57 6 sc rs (.slice AS n cS) es) (hi : es[i]? = some e) : ∃ ad, AS = some ad ∧ ∀ (cs : List Res) (k : Nat), cs[k]? = some rs → ∀ w, St W F cs w → ∀ j v, (sc e)[j]? = some v → w.cell? (ad.add (i * 6 + j)) = some v := by
  have key : ∀ (cs : List Res) (k : Nat), cs[k]? = some rs → ∃ ad, AS = some ad ∧ ∀ w, St W F cs w → ∀ j v, (sc e)[j]? = some v → w.cell? (ad.add (i * 6 + j)) = some v := fun cs k hk => by
    have h1 := RdK.row (W := W) (F := F) (d := Kd.rows 6 sc (fun _ => rfl)) (f := sc) (er := id) (fun _ => rfl) rfl h hk rfl (fun _ _ => rfl)
    rw [List.map_id] at h1
    have hl := (List.getElem?_eq_some_iff.1 hi).1
    obtain ⟨ad, c, hA, hc, hcell⟩ := h1.at_ e hl
    have he : es.getD i e = e := by rw [List.getD_eq_getElem?_getD, hi]; rfl
    rw [he] at hc
    obtain rfl : c = sc e := hc
    exact ⟨ad, hA, hcell⟩
  obtain ⟨ad, hA, _⟩ := key [rs] 0 rfl
  refine ⟨ad, hA, fun cs k hk => ?_⟩
  obtain ⟨ad', hA', h'⟩ := key cs k hk
  rw [hA] at hA'
  injection hA' with hA'
  subst hA'
  exact h'
theorem QOS.setJ {F : Snap} {rj rs rj' : Res} {AJ AS : Option Addr} {cj cS i : Nat} {z : Z} {x : Rc.J} {dr : Bool} (h : QOS F rj rs AJ AS cj cS z) (hr : RowM 50 3 jc rj' (.slice AJ z.js.length cj) (z.js.set i x)) : QOS F rj' rs AJ AS cj cS { z with js := z.js.set i x, dr := dr } :=
  ⟨by show RowM _ _ _ _ (.slice AJ (z.js.set i x).length cj) _; rw [List.length_set]; exact hr, h.S⟩
theorem qsbk_js {b : Nat} {AJ AS : Option Addr} {cj cS i : Nat} {z : Z} {x : J} {dr : Bool} : qsbk b AJ AS cj cS { z with js := z.js.set i x, dr := dr } = [(b, .cells #[.slice AJ z.js.length cj, .slice AS z.ss.length cS, .bool dr] 35 (0, 0))] := by
  simp only [qsbk, List.length_set]
theorem QOS.setS {F : Snap} {rj rs rs' : Res} {AJ AS : Option Addr} {cj cS i : Nat} {z : Z} {es : List E} {e e' : E} (h : QOS F rj rs AJ AS cj cS z) (hes : es.map (·.s) = z.ss) (hp : ∀ e ∈ es, RdS (Kd.one Vi) F e.A e.s.ps) (hi : es[i]? = some e) (h1 : e'.s.ps = e.s.ps) (h2 : e'.A = e.A)
    (hr : RowM 57 6 sc rs' (.slice AS z.ss.length cS) (es.set i e')) : QOS F rj rs' AJ AS cj cS { z with ss := z.ss.set i e'.s } :=
  ⟨h.J, es.set i e', by show RowM _ _ _ _ (.slice AS (z.ss.set i e'.s).length cS) _; rw [List.length_set]; exact hr, by rw [← hes, List.map_set], fun x hx => by
    rcases List.mem_or_eq_of_mem_set hx with hx | rfl
    · exact hp x hx
    · rw [h2, h1]; exact hp e (List.mem_of_getElem? hi)⟩
theorem qsbk_ss {b : Nat} {AJ AS : Option Addr} {cj cS i : Nat} {z : Z} {x : S} : qsbk b AJ AS cj cS { z with ss := z.ss.set i x } = [(b, .cells #[.slice AJ z.js.length cj, .slice AS z.ss.length cS, .bool z.dr] 35 (0, 0))] := by
  simp only [qsbk, List.length_set]
theorem QOS.addS {F : Snap} {rj rs rs' : Res} {AJ AS A : Option Addr} {cj cS cap : Nat} {z : Z} {es : List E} {e : E} (h : QOS F rj rs AJ AS cj cS z) (hes : es.map (·.s) = z.ss) (hp : ∀ e ∈ es, RdS (Kd.one Vi) F e.A e.s.ps) (he : RdS (Kd.one Vi) F e.A e.s.ps)
    (hr : RowM 57 6 sc rs' (.slice A (es ++ [e]).length cap) (es ++ [e])) : QOS F rj rs' AJ A cj cap { z with ss := z.ss ++ [e.s] } :=
  ⟨h.J, es ++ [e], by show RowM _ _ _ _ (.slice A (z.ss ++ [e.s]).length cap) _; rw [show (z.ss ++ [e.s]).length = (es ++ [e]).length by rw [← hes]; simp]; exact hr, by rw [List.map_append, hes]; rfl, fun x hx => by
    rcases List.mem_append.1 hx with hx | hx
    · exact hp x hx
    · rw [List.mem_singleton.1 hx]; exact he⟩
theorem qsbk_ap {b : Nat} {AJ A : Option Addr} {cj cap : Nat} {z : Z} {es : List E} {e : E} (hes : es.map (·.s) = z.ss) : qsbk b AJ A cj cap { z with ss := z.ss ++ [e.s] } = [(b, .cells #[.slice AJ z.js.length cj, .slice A (es ++ [e]).length cap, .bool z.dr] 35 (0, 0))] := by
  have : (z.ss ++ [e.s]).length = (es ++ [e]).length := by rw [← hes]; simp
  simp only [qsbk, this]
set_option maxRecDepth 100000 in
set_option maxHeartbeats 1000000 in
theorem qfind_c {W : World} {F : Snap} {cs : List Res} (w : World) {AJ AS : Option Addr} {cj cS : Nat} {z : Z} (jb ep : Int) (h : St W F cs w) (hR : RdS KJ F AJ z.js) (hn : z.js.length ≤ 100000) : Calls Try.prog 21 #[.agg #[.slice AJ z.js.length cj, .slice AS z.ss.length cS, .bool z.dr], Vi jb, Vi ep] w fun e w' => e = .returned (.tuple #[JV (findM z jb ep).1, .bool (findM z jb ep).2]) ∧ St W F cs w'  := by
  refine enter (P := Try.prog) (args := [.agg #[.slice AJ z.js.length cj, .slice AS z.ss.length cS, .bool z.dr], Vi jb, Vi ep]) Try.func21 rfl rfl rfl ?_
  refine WC.seq (WC.reg ?_)
  refine WL.box rfl h rfl ?_
  intro b3 w1 h1
  refine WL.alloc' rfl h1 inf50 ?_
  intro b6 w2 h2
  refine WL.v (Runs.assign rfl) rfl ?_
  refine WL.nil (WN.thn (WC.seq (WC.reg ?_)))
  refine WL.v (Runs.loadAll h2 1 rfl Try.underlying35 rfl inf35 rfl rfl) rfl ?_
  refine WL.v (Runs.move rfl) rfl ?_
  refine WL.v (Runs.move rfl) rfl ?_
  refine WL.call can53 rfl rfl (qjob_c _ jb ep h2 hR hn) ?_
  rintro _ w3 ⟨rfl, h3⟩
  refine ⟨_, rfl, ?_⟩
  refine WL.v (Runs.assign rfl) rfl ?_
  refine WL.nil (WN.thn (WC.seq (WC.seq ?_)))
  rcases ix_at (jAt jb ep) z.js J0 with ⟨hix, _⟩ | ⟨i, hi2, hix, _⟩
  · replace hix : jIx z jb ep = -1 := hix
    refine WC.reg ?_
    refine WL.v (Runs.move rfl) rfl ?_
    refine WL.v (Runs.boolT (c := true) (Runs.lss rfl rfl) (by rw [decide_eq_true_eq]; omega)) rfl ?_
    refine WL.nil (WN.thn ?_)
    refine WC.condT rfl (rfl) ?_
    refine WC.seq (WC.reg ?_)
    refine WL.v (Runs.build (vs := []) (cells := #[Vi 0, Vi 0, Vi 0]) rfl (by kernel_rfl)) rfl ?_
    refine WL.storeAll h3 0 rfl rfl rfl inf50 rfl rfl rfl (Free.zero _) ?_
    intro  w4 h4
    try simp only [lz, ls, ez, es'] at h4
    refine WL.v (Runs.assign rfl) rfl ?_
    refine WL.nil (WN.thn (WC.ret ?_))
    refine retB rfl (ResOk.blk h4 0 rfl Try.underlying50 rfl inf50 rfl rfl) (show lk _ _ = _ from rfl) ⟨by rw [findM_f hix] <;> rfl, (h4.drop 0).drop 0⟩
  · replace hix : jIx z jb ep = (i : Int) := hix
    refine WC.reg ?_
    refine WL.v (Runs.move rfl) rfl ?_
    refine WL.v (Runs.boolT (c := false) (Runs.lss rfl rfl) (by rw [decide_eq_false_iff_not]; omega)) rfl ?_
    refine WL.nil (WN.thn ?_)
    refine WC.condF rfl (rfl) ?_
    refine WC.skip (WN.thn (WC.seq ?_))
    obtain ⟨ad, c, rfl, hc, hcell⟩ := hR.atD J0 hi2
    obtain rfl : c = jc (z.js.getD i J0) := hc
    refine WC.reg ?_
    refine WL.v (Runs.fld fld35_0 rfl) rfl ?_
    refine WL.v (Runs.load1 Try.underlying32 rfl rfl (h3.ocell (i := 1) rfl rfl)) rfl ?_
    refine WL.v (Runs.move rfl) rfl ?_
    refine WL.v (Runs.lidxK Try.underlying32 inf50 rfl rfl (n := i) hix hi2) rfl ?_
    refine WL.v (Runs.loadKF h3 hcell Try.underlying50 rfl inf50 rfl rfl) rfl ?_
    refine WL.storeAll h3 0 rfl rfl rfl inf50 rfl rfl rfl (Free.zero _) ?_
    intro  w5 h5
    try simp only [lz, ls, ez, es'] at h5
    refine WL.v (Runs.assign rfl) rfl ?_
    refine WL.nil (WN.thn (WC.ret ?_))
    refine retB rfl (ResOk.blk h5 0 rfl Try.underlying50 rfl inf50 rfl rfl) (show lk _ _ = _ from rfl) ⟨by rw [findM_t hix] <;> rfl, (h5.drop 0).drop 0⟩
set_option maxRecDepth 100000 in
set_option maxHeartbeats 1000000 in
theorem qstepOf_c {W : World} {F : Snap} {cs : List Res} (w : World) {AJ AS : Option Addr} {cj cS : Nat} {z : Z} (jb ep st : Int) (h : St W F cs w) (hR : RdS KS F AS z.ss) (hn : z.ss.length ≤ 100000) : Calls Try.prog 23 #[.agg #[.slice AJ z.js.length cj, .slice AS z.ss.length cS, .bool z.dr], Vi jb, Vi ep, Vi st] w fun e w' => (∃ A1 cap1, e = .returned (.tuple #[SV A1 cap1 (stepM z jb ep st).1, .bool (stepM z jb ep st).2]) ∧ RdS (Kd.one Vi) F A1 (stepM z jb ep st).1.ps) ∧ St W F cs w'  := by
  refine enter (P := Try.prog) (args := [.agg #[.slice AJ z.js.length cj, .slice AS z.ss.length cS, .bool z.dr], Vi jb, Vi ep, Vi st]) Try.func23 rfl rfl rfl ?_
  refine WC.seq (WC.reg ?_)
  refine WL.box rfl h rfl ?_
  intro b4 w1 h1
  refine WL.alloc' rfl h1 inf57 ?_
  intro b8 w2 h2
  refine WL.v (Runs.assign rfl) rfl ?_
  refine WL.nil (WN.thn (WC.seq (WC.reg ?_)))
  refine WL.v (Runs.loadAll h2 1 rfl Try.underlying35 rfl inf35 rfl rfl) rfl ?_
  refine WL.v (Runs.move rfl) rfl ?_
  refine WL.v (Runs.move rfl) rfl ?_
  refine WL.v (Runs.move rfl) rfl ?_
  refine WL.call can50 rfl rfl (qstep_c _ jb ep st h2 hR hn) ?_
  rintro _ w3 ⟨rfl, h3⟩
  refine ⟨_, rfl, ?_⟩
  refine WL.v (Runs.assign rfl) rfl ?_
  refine WL.nil (WN.thn (WC.seq (WC.seq ?_)))
  rcases ix_at (sAt jb ep st) z.ss S0 with ⟨hix, _⟩ | ⟨i, hi2, hix, _⟩
  · replace hix : sIx z jb ep st = -1 := hix
    refine WC.reg ?_
    refine WL.v (Runs.move rfl) rfl ?_
    refine WL.v (Runs.boolT (c := true) (Runs.lss rfl rfl) (by rw [decide_eq_true_eq]; omega)) rfl ?_
    refine WL.nil (WN.thn ?_)
    refine WC.condT rfl (rfl) ?_
    refine WC.seq (WC.reg ?_)
    refine WL.v (Runs.build (vs := []) (cells := #[Vi 0, Vi 0, Vi 0, Vi 0, Vi 0, .slice none 0 0]) rfl (by kernel_rfl)) rfl ?_
    refine WL.storeAll h3 0 rfl rfl rfl inf57 rfl rfl rfl (Free.zero _) ?_
    intro  w4 h4
    try simp only [lz, ls, ez, es'] at h4
    refine WL.v (Runs.assign rfl) rfl ?_
    refine WL.nil (WN.thn (WC.ret ?_))
    refine retB rfl (ResOk.blk h4 0 rfl Try.underlying57 rfl inf57 rfl rfl) (show lk _ _ = _ from rfl) ⟨⟨none, 0, by rw [stepM_f hix] <;> rfl, by rw [stepM_f hix]; exact .inl rfl⟩, (h4.drop 0).drop 0⟩
  · replace hix : sIx z jb ep st = (i : Int) := hix
    refine WC.reg ?_
    refine WL.v (Runs.move rfl) rfl ?_
    refine WL.v (Runs.boolT (c := false) (Runs.lss rfl rfl) (by rw [decide_eq_false_iff_not]; omega)) rfl ?_
    refine WL.nil (WN.thn ?_)
    refine WC.condF rfl (rfl) ?_
    refine WC.skip (WN.thn (WC.seq ?_))
    obtain ⟨ad, c, rfl, hc, hcell⟩ := hR.atD S0 hi2
    obtain ⟨A1, cap1, rfl, hps⟩ := hc
    refine WC.reg ?_
    refine WL.v (Runs.fld fld35_1 rfl) rfl ?_
    refine WL.v (Runs.load1 Try.underlying33 rfl rfl (h3.ocell (i := 1) rfl rfl)) rfl ?_
    refine WL.v (Runs.move rfl) rfl ?_
    refine WL.v (Runs.lidxK Try.underlying33 inf57 rfl rfl (n := i) hix hi2) rfl ?_
    refine WL.v (Runs.loadKF h3 hcell Try.underlying57 rfl inf57 rfl rfl) rfl ?_
    refine WL.storeAll h3 0 rfl rfl rfl inf57 rfl rfl rfl (Free.zero _) ?_
    intro  w5 h5
    try simp only [lz, ls, ez, es'] at h5
    refine WL.v (Runs.assign rfl) rfl ?_
    refine WL.nil (WN.thn (WC.ret ?_))
    refine retB rfl (ResOk.blk h5 0 rfl Try.underlying57 rfl inf57 rfl rfl) (show lk _ _ = _ from rfl) ⟨⟨A1, cap1, by rw [stepM_t hix] <;> rfl, by rw [stepM_t hix]; exact hps⟩, (h5.drop 0).drop 0⟩
set_option maxRecDepth 100000 in
set_option maxHeartbeats 4000000 in
theorem qshare_c {W : World} {F : Snap} {cs : List Res} (w : World) {AJ AS : Option Addr} {cj cS : Nat} {z : Z} {Al : Option Addr} {c9 : Nat} {ls : List Int} (hz : few z) (h : St W F cs w) (hR : RdS KS F AS z.ss) (hl : RdS (Kd.one Vi) F Al ls) (hn : ls.length ≤ 100000) : Calls Try.prog 51 #[.agg #[.slice AJ z.js.length cj, .slice AS z.ss.length cS, .bool z.dr], .slice Al ls.length c9] w fun e w' => e = .returned (.bool (shareM z ls)) ∧ St W F cs w'  := by
  refine enter (P := Try.prog) (args := [.agg #[.slice AJ z.js.length cj, .slice AS z.ss.length cS, .bool z.dr], .slice Al ls.length c9]) Try.func51 rfl rfl rfl ?_
  refine WC.seq (WC.reg ?_)
  refine WL.box rfl h rfl ?_
  intro b2 w1 h1
  refine WL.v (Runs.assign rfl) rfl ?_
  refine WL.nil (WN.thn (WC.seq (WC.seq (WC.reg ?_))))
  refine WL.v (Runs.assign rfl) rfl ?_
  refine WL.nil (WN.thn (WC.block ?_))
  have hzs0 := hz.s
  refine WC.loop (σ := Nat) (fun q_ => [(1, .slice Al ls.length c9), (2, .pointer (some ⟨b2, 0, none⟩)), (5, .int .i64 (q_ : Int))]) (fun q_ w => q_ ≤ z.ss.length ∧ (∀ j, j < q_ → shareB ls (z.ss.getD j S0) = false) ∧ St W F ([(b2, .cells #[.slice AJ z.js.length cj, .slice AS z.ss.length cS, .bool z.dr] 35 (0, 0))] :: cs) w) (fun q_ => z.ss.length - q_) (0) (by repeat (first | exact trivial | refine ⟨rfl, ?_⟩)) (⟨Nat.zero_le _, fun j hj => absurd hj (Nat.not_lt_zero _), h1⟩) ?_
  rintro i w2 ⟨hi, hno, hL⟩
  try dsimp only at hi hno hL
  refine WC.sub (s := [(1, .slice Al ls.length c9), (2, .pointer (some ⟨b2, 0, none⟩)), (5, .int .i64 (i : Int))]) (by repeat (first | exact trivial | refine ⟨rfl, ?_⟩)) ?_
  refine WC.seq (WC.seq (WC.reg ?_))
  refine WL.v (Runs.move rfl) rfl ?_
  refine WL.v (Runs.fld fld35_1 rfl) rfl ?_
  refine WL.v (Runs.load1 Try.underlying33 rfl rfl (hL.ocell (i := 0) rfl rfl)) rfl ?_
  refine WL.v (Runs.llen Try.underlying33 rfl rfl) rfl ?_
  refine WL.v (Runs.lss rfl rfl) rfl ?_
  refine WL.nil (WN.thn ?_)
  refine WC.cond rfl (fun c3 => ?_) (fun c3 => ?_)
  · try simp only [dt, df, nt, nf, ba, il, ie] at c3
    first
    | (exfalso; omega)
    | skip
      refine WC.skip (WN.thn (WC.seq (WC.block (WC.seq ?_))))
      have hzs := hz.s
      have hi2 : i < z.ss.length := by omega
      obtain ⟨ad, c, rfl, hc, hcell⟩ := hR.atD S0 hi2
      obtain ⟨A1, cap1, rfl, hps⟩ := hc
      have hpl := hz.p _ (memD S0 hi2)
      refine WC.reg ?_
      refine WL.v (Runs.assign rfl) rfl ?_
      refine WL.nil (WN.thn (WC.block ?_))
      refine WC.loop (σ := Nat) (fun q_ => [(1, .slice Al ls.length c9), (2, .pointer (some ⟨b2, 0, none⟩)), (5, .int .i64 (i : Int)), (6, .int .i64 (q_ : Int))]) (fun q_ w => q_ ≤ (z.ss.getD i S0).ps.length ∧ (∀ j, j < q_ → (fun p => decide (p ∈ ls)) ((z.ss.getD i S0).ps.getD j 0) = false) ∧ St W F ([(b2, .cells #[.slice AJ z.js.length cj, .slice (some ad) z.ss.length cS, .bool z.dr] 35 (0, 0))] :: cs) w) (fun q_ => (z.ss.getD i S0).ps.length - q_) (0) (by repeat (first | exact trivial | refine ⟨rfl, ?_⟩)) (⟨Nat.zero_le _, fun j hj => absurd hj (Nat.not_lt_zero _), hL⟩) ?_
      rintro k w4 ⟨hk, hnok, hL⟩
      try dsimp only at hk hnok hL
      refine WC.sub (s := [(1, .slice Al ls.length c9), (2, .pointer (some ⟨b2, 0, none⟩)), (5, .int .i64 (i : Int)), (6, .int .i64 (k : Int))]) (by repeat (first | exact trivial | refine ⟨rfl, ?_⟩)) ?_
      refine WC.seq (WC.seq (WC.reg ?_))
      refine WL.v (Runs.move rfl) rfl ?_
      refine WL.v (Runs.fld fld35_1 rfl) rfl ?_
      refine WL.v (Runs.load1 Try.underlying33 rfl rfl (hL.ocell (i := 0) rfl rfl)) rfl ?_
      refine WL.v (Runs.move rfl) rfl ?_
      refine WL.v (Runs.lidxK Try.underlying33 inf57 rfl rfl (n := i) rfl hi2) rfl ?_
      refine WL.v (Runs.fld fld57_5 rfl) rfl ?_
      refine WL.v (Runs.fldKF (n := i) hL hcell Try.underlying22 rfl rfl rfl) rfl ?_
      refine WL.v (Runs.llen Try.underlying22 rfl rfl) rfl ?_
      refine WL.v (Runs.lss rfl rfl) rfl ?_
      refine WL.nil (WN.thn ?_)
      refine WC.cond rfl (fun c5 => ?_) (fun c5 => ?_)
      · try simp only [dt, df, nt, nf, ba, il, ie] at c5
        first
        | (exfalso; omega)
        | skip
          refine WC.skip (WN.thn (WC.seq (WC.block (WC.seq ?_))))
          have hk2 : k < (z.ss.getD i S0).ps.length := by omega
          obtain ⟨ap, rfl, hrp⟩ := rd1 hps (by omega)
          refine WC.reg ?_
          refine WL.v (Runs.assign rfl) rfl ?_
          refine WL.nil (WN.thn (WC.block ?_))
          refine WC.loop (σ := Nat) (fun q_ => [(1, .slice Al ls.length c9), (2, .pointer (some ⟨b2, 0, none⟩)), (5, .int .i64 (i : Int)), (6, .int .i64 (k : Int)), (7, .int .i64 (q_ : Int))]) (fun q_ w => q_ ≤ ls.length ∧ (∀ j, j < q_ → ¬ ls.getD j 0 = (z.ss.getD i S0).ps.getD k 0) ∧ St W F ([(b2, .cells #[.slice AJ z.js.length cj, .slice (some ad) z.ss.length cS, .bool z.dr] 35 (0, 0))] :: cs) w) (fun q_ => ls.length - q_) (0) (by repeat (first | exact trivial | refine ⟨rfl, ?_⟩)) (⟨Nat.zero_le _, fun j hj => absurd hj (Nat.not_lt_zero _), hL⟩) ?_
          rintro m w6 ⟨hm, hnom, hL⟩
          try dsimp only at hm hnom hL
          refine WC.sub (s := [(1, .slice Al ls.length c9), (2, .pointer (some ⟨b2, 0, none⟩)), (5, .int .i64 (i : Int)), (6, .int .i64 (k : Int)), (7, .int .i64 (m : Int))]) (by repeat (first | exact trivial | refine ⟨rfl, ?_⟩)) ?_
          refine WC.seq (WC.seq (WC.reg ?_))
          refine WL.v (Runs.move rfl) rfl ?_
          refine WL.v (Runs.move rfl) rfl ?_
          refine WL.v (Runs.llen Try.underlying22 rfl rfl) rfl ?_
          refine WL.v (Runs.lss rfl rfl) rfl ?_
          refine WL.nil (WN.thn ?_)
          refine WC.cond rfl (fun c7 => ?_) (fun c7 => ?_)
          · try simp only [dt, df, nt, nf, ba, il, ie] at c7
            first
            | (exfalso; omega)
            | skip
              refine WC.skip (WN.thn (WC.seq (WC.block (WC.seq ?_))))
              have hm2 : m < ls.length := by omega
              obtain ⟨al, rfl, hrl⟩ := rd1 hl (by omega)
              refine WC.eregK hL hL (fun s_ => ([] : List Nat).any (Nat.beq s_)) mixed (by kernel_rfl) (fun hx => ?_)
              intro w8 h8
              refine WE.p0 hx 0 (by rfl) (fun w_ => Runs.fld fld35_1 rfl) rfl ?_
              refine WE.p0 hx 2 (by rfl) (fun w_ => Runs.move rfl) rfl ?_
              refine WE.p0 hx 6 (by rfl) (fun w_ => Runs.move rfl) rfl ?_
              refine WE.p0 hx 9 (by rfl) (fun w_ => Runs.move rfl) rfl ?_
              refine WE.p0 hx 10 (by rfl) (fun w_ => Runs.move rfl) rfl ?_
              refine WE.p0 hx 11 (by rfl) (fun w_ => Runs.lidxN Try.underlying22 inf3 rfl rfl (n := m) rfl hm2) rfl ?_
              refine WE.v0 12 hx 1 (by rfl) (fun w_ hE_ => Runs.load1 Try.underlying33 rfl rfl (hE_.ocell (i := 0) rfl rfl)) rfl ?_
              refine WE.p0 hx 3 (by rfl) (fun w_ => Runs.lidxK Try.underlying33 inf57 rfl rfl (n := i) rfl hi2) rfl ?_
              refine WE.p0 hx 4 (by rfl) (fun w_ => Runs.fld fld57_5 rfl) rfl ?_
              refine WE.v0 12 hx 5 (by rfl) (fun w_ hE_ => Runs.fldKF (n := i) hE_ hcell Try.underlying22 rfl rfl rfl) rfl ?_
              refine WE.p0 hx 7 (by rfl) (fun w_ => Runs.lidxN Try.underlying22 inf3 rfl rfl (n := k) rfl hk2) rfl ?_
              refine WE.v0 12 hx 8 (by rfl) (fun w_ hE_ => Runs.loadR (f := Vi) (0 : Int) hE_ hrp (n := k) hk2 Try.underlying3 rfl rfl) rfl ?_
              refine WE.v0 12 hx 12 (by rfl) (fun w_ hE_ => Runs.loadR (f := Vi) (0 : Int) hE_ hrl (n := m) hm2 Try.underlying3 rfl rfl) rfl ?_
              refine WE.p0 hx 13 (by rfl) (fun w_ => Runs.eql rfl rfl) rfl ?_
              refine WE.fin (.inr h8) (by kernel_rfl) ?_
              refine WN.thn ?_
              refine WC.cond rfl (fun c9 => ?_) (fun c9 => ?_)
              · try simp only [dt, df, nt, nf, ba, il, ie] at c9
                first
                | (exfalso; omega)
                | skip
                  refine WC.seq (WC.reg ?_)
                  refine WL.v (Runs.assign rfl) rfl ?_
                  refine WL.nil (WN.thn (WC.ret ?_))
                  refine ret1 rfl rfl ⟨?_, h8.drop 0⟩
                  rw [show shareM z ls = true from any_t (p := shareB ls) (d := S0) hi2 (any_t (p := fun p => decide (p ∈ ls)) (d := 0) hk2 (decide_eq_true (by rw [c9]; exact memD 0 hm2)))] <;> rfl
              · try simp only [dt, df, nt, nf, ba, il, ie] at c9
                first
                | (exfalso; omega)
                | skip
                  refine WC.skip (WN.blk (WN.thn (WC.reg ?_)))
                  refine WL.v (Runs.move rfl) rfl ?_
                  refine WL.v (Runs.addn rfl rfl (by omega)) rfl ?_
                  refine WL.v (Runs.assign rfl) rfl ?_
                  refine WL.nil ?_
                  exact WN.again (m + 1) (by omega) ⟨rfl, rfl, rfl, rfl, rfl, trivial⟩ ⟨by omega, fun j hj => (by
                    by_cases e : j = m
                    · subst e; exact fun e => c9 e.symm
                    · exact hnom j (by omega)), h8⟩
          · try simp only [dt, df, nt, nf, ba, il, ie] at c7
            first
            | (exfalso; omega)
            | skip
              refine WC.exit (WX.thn (WX.cut (WX.hit (WN.blk (WN.thn ?_)))))
              refine WC.reg ?_
              refine WL.v (Runs.move rfl) rfl ?_
              refine WL.v (Runs.addn rfl rfl (by omega)) rfl ?_
              refine WL.v (Runs.assign rfl) rfl ?_
              refine WL.nil ?_
              exact WN.again (k + 1) (by omega) ⟨rfl, rfl, rfl, rfl, trivial⟩ ⟨by omega, fun j hj => (by
                by_cases e : j = k
                · subst e; exact decide_eq_false (fun hm => by
                    obtain ⟨m9, hm9, he9⟩ := List.getElem_of_mem hm
                    exact hnom m9 (by omega) (by rw [List.getD_eq_getElem?_getD, List.getElem?_eq_getElem hm9]; exact he9))
                · exact hnok j (by omega)), hL⟩
      · try simp only [dt, df, nt, nf, ba, il, ie] at c5
        first
        | (exfalso; omega)
        | skip
          refine WC.exit (WX.thn (WX.cut (WX.hit (WN.blk (WN.thn ?_)))))
          refine WC.reg ?_
          refine WL.v (Runs.move rfl) rfl ?_
          refine WL.v (Runs.addn rfl rfl (by omega)) rfl ?_
          refine WL.v (Runs.assign rfl) rfl ?_
          refine WL.nil ?_
          exact WN.again (i + 1) (by omega) ⟨rfl, rfl, rfl, trivial⟩ ⟨by omega, fun j hj => (by
            by_cases e : j = i
            · subst e; exact any_f (d := 0) (fun m hm => hnok m (by omega))
            · exact hno j (by omega)), hL⟩
  · try simp only [dt, df, nt, nf, ba, il, ie] at c3
    first
    | (exfalso; omega)
    | skip
      refine WC.exit (WX.thn (WX.cut (WX.hit (WN.thn (WC.seq ?_)))))
      refine WC.reg ?_
      refine WL.v (Runs.assign rfl) rfl ?_
      refine WL.nil (WN.thn (WC.ret ?_))
      refine ret1 rfl rfl ⟨?_, hL.drop 0⟩
      rw [show shareM z ls = false from any_f (p := shareB ls) (d := S0) (fun j hj => hno j (by omega))] <;> rfl
set_option maxRecDepth 100000 in
set_option maxHeartbeats 4000000 in
theorem qcopy_c {W : World} {F : Snap} {cs : List Res} (w : World) {AJ AS : Option Addr} {cj cS : Nat} {z : Z} (hz : few z) (h : St W F cs w) (hR : ZR F AJ AS z) : Calls Try.prog 49 #[.agg #[.slice AJ z.js.length cj, .slice AS z.ss.length cS, .bool z.dr]] w fun e w' => ∃ rj rs AJ AS cj cS, e = .returned (.agg #[.slice AJ z.js.length cj, .slice AS z.ss.length cS, .bool z.dr]) ∧ QOS F rj rs AJ AS cj cS z ∧ St W F (rj :: rs :: cs) w'  := by
  refine enter (P := Try.prog) (args := [.agg #[.slice AJ z.js.length cj, .slice AS z.ss.length cS, .bool z.dr]]) Try.func49 rfl rfl rfl ?_
  obtain ⟨es, hes, hR1, hP1⟩ := RdS.pick (d := KS) (f := sc) (er := E.s) (P := fun e => RdS (Kd.one Vi) F e.A e.s.ps) (fun _ => rfl) (fun y c ⟨A, cap, hc, hp⟩ => ⟨⟨y, A, cap⟩, rfl, hc, hp⟩) hR.s
  have hel : es.length = z.ss.length := by rw [← hes, List.length_map]
  have hzj := hz.j
  have hzs := hz.s
  refine WC.seq (WC.reg ?_)
  refine WL.box rfl h rfl ?_
  intro b1 w1 h1
  refine WL.alloc' rfl h1 inf35 ?_
  intro b2 w2 h2
  refine WL.nil (WN.thn (WC.seq (WC.reg ?_)))
  refine WL.v (Runs.fld fld35_2 rfl) rfl ?_
  refine WL.v (Runs.load1 Try.underlying4 rfl rfl (h2.ocell (i := 1) rfl rfl)) rfl ?_
  refine WL.v (Runs.build (vs := [(2, .bool z.dr)]) (cells := #[.slice none 0 0, .slice none 0 0, .bool z.dr]) rfl (by kernel_rfl)) rfl ?_
  refine WL.alloc' rfl h2 inf35 ?_
  intro b3 w3 h3
  refine WL.storeAll h3 0 rfl rfl rfl inf35 rfl rfl rfl (Free.zero _) ?_
  intro  w4 h4
  try simp only [lz, ls, ez, es'] at h4
  refine WL.nil (WN.thn (WC.seq ?_))
  have hN2 := h4.nilRes
  
  refine WC.reg ?_
  refine WL.v (Runs.fld fld35_0 rfl) rfl ?_
  refine WL.v (Runs.load1 Try.underlying32 rfl rfl (hN2.ocell (i := 1) rfl rfl)) rfl ?_
  refine WL.v (Runs.fld fld35_0 rfl) rfl ?_
  refine WL.v (Runs.load1 Try.underlying32 rfl rfl (hN2.ocell (i := 3) rfl rfl)) rfl ?_
  refine WL.appM (f := jc) (ys := z.js) 0 hN2 rfl rfl rfl rfl Try.underlying32 Try.underlying32 (.inr ⟨_, rfl⟩) (inf50.elem rfl rfl) (RowM.nil 50 3 jc) (Src.rdM hR.j hN2 rfl (fun _ => rfl)) rfl (by first | omega | (simp; done) | (simp; omega) | (simp only [List.length_nil]; omega)) (by first | omega | (simp; done) | (simp; omega) | (simp only [List.length_nil]; omega)) ?_
  intro r5 v5 w6 hr5 h6
  simp only [lz, ls] at h6
  obtain ⟨A5, cap5, rfl, hcap5⟩ := hr5.val
  refine WL.v (Runs.fld fld35_0 rfl) rfl ?_
  refine WL.store' h6 1 rfl rfl rfl inf32 rfl rfl (Free.zero _) (Nat.le_of_ble_eq_true rfl) ?_
  intro  w7 h7
  try simp only [lz, ls, ez, es'] at h7
  refine WL.nil (WN.thn (WC.seq ?_))
  have hN3 := h7.nilRes
  
  refine WC.reg ?_
  refine WL.v (Runs.fld fld35_1 rfl) rfl ?_
  refine WL.v (Runs.load1 Try.underlying33 rfl rfl (hN3.ocell (i := 2) rfl rfl)) rfl ?_
  refine WL.v (Runs.fld fld35_1 rfl) rfl ?_
  refine WL.v (Runs.load1 Try.underlying33 rfl rfl (hN3.ocell (i := 4) rfl rfl)) rfl ?_
  refine WL.appM (f := sc) (ys := es) 0 hN3 rfl rfl rfl rfl Try.underlying33 Try.underlying33 (.inr ⟨_, rfl⟩) (inf57.elem rfl rfl) (RowM.nil 57 6 sc) (Src.rdM hR1 hN3 hel.symm (fun _ => rfl)) rfl (by first | omega | (simp; done) | (simp; omega) | (simp only [List.length_nil]; omega)) (by first | omega | (simp; done) | (simp; omega) | (simp only [List.length_nil]; omega)) ?_
  intro r8 v8 w9 hr8 h9
  simp only [lz, ls] at h9
  obtain ⟨A8, cap8, rfl, hcap8⟩ := hr8.val
  refine WL.v (Runs.fld fld35_1 rfl) rfl ?_
  refine WL.store' h9 2 rfl rfl rfl inf33 rfl rfl (Free.zero _) (Nat.le_of_ble_eq_true rfl) ?_
  intro  w10 h10
  try simp only [lz, ls, ez, es'] at h10
  refine WL.nil (WN.thn (WC.seq (WC.reg ?_)))
  refine WL.v (Runs.loadAll h10 2 rfl Try.underlying35 rfl inf35 rfl rfl) rfl ?_
  refine WL.storeAll h10 3 rfl rfl rfl inf35 rfl rfl rfl (Free.zero _) ?_
  intro  w11 h11
  try simp only [lz, ls, ez, es'] at h11
  refine WL.nil (WN.thn (WC.ret ?_))
  have hr9 := hr8
  simp only [List.nil_append] at hr9
  have hr8 := hr5
  simp only [List.nil_append] at hr8
  refine retA rfl (ResOk.blk h11 3 rfl Try.underlying35 rfl inf35 rfl rfl) ⟨r5, r8, _, _, _, _, by rw [← hel] <;> rfl, ⟨hr8, es, by rw [← hel]; exact hr9, hes, hP1⟩, ?_⟩
  exact (((h11.drop 4).drop 3).drop 2).perm (List.Perm.swap _ _ _)
end Rc
end Go.Proofs.Ythejglgnoingfaa
