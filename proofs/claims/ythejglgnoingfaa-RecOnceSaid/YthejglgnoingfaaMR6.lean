/- Walks of package rec: Epilog; a step's turn. -/
import Derived.Test.YthejglgnoingfaaProg
import Derived.KernelRfl
import Derived.Test.YthejglgnoingfaaMBaseAH
import Derived.Test.YthejglgnoingfaaMR5
namespace Go.Proofs.Ythejglgnoingfaa
open Go Go.RowKit B
set_option linter.unusedVariables false
set_option linter.unusedSimpArgs false
namespace Rc

theorem fld54_4 : fldB Try.prog 54 4 4 = true := by kernel_rfl
theorem can26 : B.Can Try.prog 26 := ⟨_, Try.func26, by kernel_rfl, rfl⟩   -- roundhouse/rec.Alive
theorem OS.cellJ {W : World} {F : Snap} {rj rs : Res} {AJ AS : Option Addr} {cj cS i : Nat} {z : Z} (h : OS F rj rs AJ AS cj cS z) (hi : i < z.js.length) : ∃ ad, AJ = some ad ∧ ∀ (cs : List Res) (k : Nat), cs[k]? = some rj → ∀ w, St W F cs w → ∀ j v, (jc (z.js.getD i J0))[j]? = some v → w.cell? (ad.add (i * 3 + j)) = some v := by
  have key : ∀ (cs : List Res) (k : Nat), cs[k]? = some rj → ∃ ad, AJ = some ad ∧ ∀ w, St W F cs w → ∀ j v, (jc (z.js.getD i J0))[j]? = some v → w.cell? (ad.add (i * 3 + j)) = some v := fun cs k hk => by
    obtain ⟨ad, c, hA, hc, hcell⟩ := (h.rdJ (W := W) hk).at_ J0 hi
    obtain rfl : c = jc (z.js.getD i J0) := hc
    exact ⟨ad, hA, hcell⟩
  obtain ⟨ad, hA, _⟩ := key [rj] 0 rfl
  refine ⟨ad, hA, fun cs k hk => ?_⟩
  obtain ⟨ad', hA', h'⟩ := key cs k hk
  rw [hA] at hA'
  injection hA' with hA'
  subst hA'
  exact h'
theorem rowCell {W : World} {F : Snap} {rs : Res} {AS : Option Addr} {n cS i : Nat} {es : List E} {e : E} (h : RowM 54 6 sc rs (.slice AS n cS) es) (hi : es[i]? = some e) : ∃ ad, AS = some ad ∧ ∀ (cs : List Res) (k : Nat), cs[k]? = some rs → ∀ w, St W F cs w → ∀ j v, (sc e)[j]? = some v → w.cell? (ad.add (i * 6 + j)) = some v := by
  have key : ∀ (cs : List Res) (k : Nat), cs[k]? = some rs → ∃ ad, AS = some ad ∧ ∀ w, St W F cs w → ∀ j v, (sc e)[j]? = some v → w.cell? (ad.add (i * 6 + j)) = some v := fun cs k hk => by
    have h1 := RdK.row (W := W) (F := F) (d := Kd.rows 6 sc (fun _ => rfl)) (f := sc) (er := id) (fun _ => rfl) rfl h hk rfl (fun _ _ => rfl)
    rw [List.map_id] at h1
    have hl := (List.getElem?_eq_some_iff.1 hi).1
    obtain ⟨ad, c, hA, hc, hcell⟩ := h1.at_ e hl
    have he : es.getD i e = e := by rw [List.getD_eq_getElem?_getD, hi]; rfl
    rw [he] at hc
    obtain rfl : c = sc e := hc
    exact ⟨ad, hA, hcell⟩
  obtain ⟨ad, hA, _⟩ := key [rs] 0 rfl
  refine ⟨ad, hA, fun cs k hk => ?_⟩
  obtain ⟨ad', hA', h'⟩ := key cs k hk
  rw [hA] at hA'
  injection hA' with hA'
  subst hA'
  exact h'
theorem ix_at2 {α : Type} (p : α → Bool) (xs : List α) (d : α) (Q : α → Prop) : ix p xs = -1 ∨ (∃ i : Nat, i < xs.length ∧ ix p xs = (i : Int) ∧ Q (xs.getD i d)) ∨ (∃ i : Nat, i < xs.length ∧ ix p xs = (i : Int) ∧ ¬ Q (xs.getD i d)) := by
  rcases ix_at p xs d with ⟨h, _⟩ | ⟨i, h1, h2, _⟩
  · exact .inl h
  · by_cases hq : Q (xs.getD i d)
    · exact .inr (.inl ⟨i, h1, h2, hq⟩)
    · exact .inr (.inr ⟨i, h1, h2, hq⟩)
theorem getD_at {α : Type} {xs : List α} {i : Nat} (d : α) (hi : i < xs.length) : xs[i]? = some (xs.getD i d) := by
  rw [List.getD_eq_getElem?_getD, List.getElem?_eq_getElem hi]; rfl
theorem map_at {es : List E} {ss : List S} {i : Nat} (h : es.map (·.s) = ss) (hi : i < ss.length) : ∃ e, es[i]? = some e ∧ e.s = ss.getD i S0 := by
  subst h
  rw [List.length_map] at hi
  exact ⟨es[i], List.getElem?_eq_getElem hi, by rw [List.getD_eq_getElem?_getD, List.getElem?_map, List.getElem?_eq_getElem hi]; rfl⟩
theorem OS.setJ {F : Snap} {rj rs rj' : Res} {AJ AS : Option Addr} {cj cS i : Nat} {z : Z} {x : Rc.J} {dr : Bool} (h : OS F rj rs AJ AS cj cS z) (hr : RowM 47 3 jc rj' (.slice AJ z.js.length cj) (z.js.set i x)) : OS F rj' rs AJ AS cj cS { z with js := z.js.set i x, dr := dr } :=
  ⟨by show RowM _ _ _ _ (.slice AJ (z.js.set i x).length cj) _; rw [List.length_set]; exact hr, h.S⟩
theorem sbk_js {b : Nat} {AJ AS : Option Addr} {cj cS i : Nat} {z : Z} {x : J} {dr : Bool} : sbk b AJ AS cj cS { z with js := z.js.set i x, dr := dr } = [(b, .cells #[.slice AJ z.js.length cj, .slice AS z.ss.length cS, .bool dr] 40 (0, 0))] := by
  simp only [sbk, List.length_set]
theorem OS.setS {F : Snap} {rj rs rs' : Res} {AJ AS : Option Addr} {cj cS i : Nat} {z : Z} {es : List E} {e e' : E} (h : OS F rj rs AJ AS cj cS z) (hes : es.map (·.s) = z.ss) (hp : ∀ e ∈ es, RdS (Kd.one Vi) F e.A e.s.ps) (hi : es[i]? = some e) (h1 : e'.s.ps = e.s.ps) (h2 : e'.A = e.A)
    (hr : RowM 54 6 sc rs' (.slice AS z.ss.length cS) (es.set i e')) : OS F rj rs' AJ AS cj cS { z with ss := z.ss.set i e'.s } :=
  ⟨h.J, es.set i e', by show RowM _ _ _ _ (.slice AS (z.ss.set i e'.s).length cS) _; rw [List.length_set]; exact hr, by rw [← hes, List.map_set], fun x hx => by
    rcases List.mem_or_eq_of_mem_set hx with hx | rfl
    · exact hp x hx
    · rw [h2, h1]; exact hp e (List.mem_of_getElem? hi)⟩
theorem sbk_ss {b : Nat} {AJ AS : Option Addr} {cj cS i : Nat} {z : Z} {x : S} : sbk b AJ AS cj cS { z with ss := z.ss.set i x } = [(b, .cells #[.slice AJ z.js.length cj, .slice AS z.ss.length cS, .bool z.dr] 40 (0, 0))] := by
  simp only [sbk, List.length_set]
theorem epilog_14 {z : Z} {r : R} (h : jIx z r.jb r.ep < 0 ∨ (z.js.getD (jIx z r.jb r.ep).toNat J0).ph = 2 ∨ aliveM z r.jb r.ep = true) : epilogM z r = (z, 14) := if_pos h
theorem epilog_0 {z : Z} {r : R} {i : Nat} (hix : jIx z r.jb r.ep = (i : Int)) (h1 : ¬ (z.js.getD i J0).ph = 2) (h2 : aliveM z r.jb r.ep = false) : epilogM z r = ({ z with js := z.js.set i { z.js.getD i J0 with ph := 2 }, dr := z.dr || decide (r.ar ≠ 0) }, 0) := by
  unfold epilogM
  rw [hix, Int.toNat_natCast, if_neg (by rintro (h | h | h); omega; exact h1 h; rw [h2] at h; cases h)]
theorem turns_14 {z : Z} {r : R} {fr to : Int} (h : sIx z r.jb r.ep r.st < 0 ∨ (z.ss.getD (sIx z r.jb r.ep r.st).toNat S0).ph ≠ fr) : turnsM z r fr to = (z, 14) := if_pos h
theorem turns_0 {z : Z} {r : R} {fr to : Int} {i : Nat} {x : S} (hix : sIx z r.jb r.ep r.st = (i : Int)) (hx : x = z.ss.getD i S0) (h1 : x.ph = fr) : turnsM z r fr to = ({ z with ss := z.ss.set i { x with ph := to, cd := if to = 3 then r.ar else x.cd } }, 0) := by
  subst hx
  unfold turnsM
  rw [hix, Int.toNat_natCast, if_neg (by rintro (h | h); omega; exact h h1)]
set_option maxRecDepth 100000 in
set_option maxHeartbeats 4000000 in
theorem epilog_c {W : World} {F : Snap} {cs : List Res} (w : World) {rj rs : Res} {AJ AS : Option Addr} {cj cS bs : Nat} {z : Z} {Al : Option Addr} {cl : Nat} {r : R} (hl : RdS (Kd.one Vi) F Al r.ls) (hn : r.ls.length ≤ 100000) (hO : OS F rj rs AJ AS cj cS z) (hz : few z) (h : St W F (sbk bs AJ AS cj cS z :: rj :: rs :: cs) w) : Calls Try.prog 75 #[.pointer (some ⟨bs, 0, none⟩), .agg #[Vi r.kd, Vi r.jb, Vi r.ep, Vi r.st, Vi r.ar, .slice Al r.ls.length cl]] w fun e w' => Did W F cs bs (epilogM z r) e w'  := by
  refine enter (P := Try.prog) (args := [.pointer (some ⟨bs, 0, none⟩), .agg #[Vi r.kd, Vi r.jb, Vi r.ep, Vi r.st, Vi r.ar, .slice Al r.ls.length cl]]) Try.func75 rfl rfl rfl ?_
  refine WC.seq (WC.reg ?_)
  refine WL.box rfl h rfl ?_
  intro b3 w1 h1
  refine WL.v (Runs.assign rfl) rfl ?_
  refine WL.nil (WN.thn (WC.seq ?_))
  refine WC.eregK h1 h1 (fun s_ => ([] : List Nat).any (Nat.beq s_)) mixed (by kernel_rfl) (fun hx => ?_)
  intro w2 h2
  refine WE.p0 hx 0 (by rfl) (fun w_ => Runs.move rfl) rfl ?_
  refine WE.p0 hx 1 (by rfl) (fun w_ => Runs.nilCheckP rfl) rfl ?_
  refine WE.p0 hx 3 (by rfl) (fun w_ => Runs.fld fld24_1 rfl) rfl ?_
  refine WE.p0 hx 5 (by rfl) (fun w_ => Runs.fld fld24_2 rfl) rfl ?_
  refine WE.v0 12 hx 2 (by rfl) (fun w_ hE_ => Runs.loadAll hE_ 1 rfl Try.underlying40 rfl inf40 rfl rfl) rfl ?_
  refine WE.v0 12 hx 4 (by rfl) (fun w_ hE_ => Runs.load1 Try.underlying3 rfl rfl (hE_.ocell (i := 0) rfl rfl)) rfl ?_
  refine WE.v0 12 hx 6 (by rfl) (fun w_ hE_ => Runs.load1 Try.underlying3 rfl rfl (hE_.ocell (i := 0) rfl rfl)) rfl ?_
  refine WE.op (.inr h2) (i := 7) (by rfl) (by kernel_rfl) ?_
  refine WL.call can52 rfl rfl (job_c _ r.jb r.ep h2 (hO.rdJ (i := 2) rfl) (by have := hz.j; omega)) ?_
  rintro _ w3 ⟨rfl, h3⟩
  refine ⟨_, rfl, ?_⟩
  refine WL.nil (WE.next ?_)
  refine WE.p0 hx 8 (by rfl) (fun w_ => Runs.assign rfl) rfl ?_
  refine WE.fin (.inr h3) (by kernel_rfl) ?_
  refine WN.thn (WC.seq (WC.seq ?_))
  rcases ix_at2 (jAt r.jb r.ep) z.js J0 (fun x => x.ph = 2) with hix | ⟨i, hi, hix, hp⟩ | ⟨i, hi, hix, hp⟩
  · replace hix : jIx z r.jb r.ep = -1 := hix
    refine WC.eregK h3 h3 (fun s_ => ([] : List Nat).any (Nat.beq s_)) mixed (by kernel_rfl) (fun hx => ?_)
    intro w4 h4
    refine WE.p0 hx 0 (by rfl) (fun w_ => Runs.move rfl) rfl ?_
    refine WE.p0 hx 1 (by rfl) (fun w_ => Runs.boolT (c := true) (Runs.lss rfl rfl) (by rw [decide_eq_true_eq]; omega)) rfl ?_
    refine WE.p0 hx 2 (by rfl) (fun w_ => Runs.move rfl) rfl ?_
    refine WE.o1 (j := 2) (b := false) hx 3 (by rfl) ⟨_, _, rfl, rfl, .inr rfl⟩ rfl ?_
    refine WE.o1 (j := 2) (b := false) hx 4 (by rfl) ⟨_, _, rfl, rfl, .inr rfl⟩ rfl ?_
    refine WE.o1 (j := 2) (b := false) hx 5 (by rfl) ⟨_, _, rfl, rfl, .inr rfl⟩ rfl ?_
    refine WE.o1 (j := 2) (b := false) hx 6 (by rfl) ⟨_, _, rfl, rfl, .inr rfl⟩ rfl ?_
    refine WE.o1 (j := 2) (b := false) hx 7 (by rfl) ⟨_, _, rfl, rfl, .inr rfl⟩ rfl ?_
    refine WE.o1 (j := 2) (b := false) hx 8 (by rfl) ⟨_, _, rfl, rfl, .inr rfl⟩ rfl ?_
    refine WE.o1 (j := 2) (b := false) hx 9 (by rfl) ⟨_, _, rfl, rfl, .inr rfl⟩ rfl ?_
    refine WE.o1 (j := 2) (b := false) hx 10 (by rfl) ⟨_, _, rfl, rfl, .inr rfl⟩ rfl ?_
    refine WE.o1 (j := 2) (b := false) hx 11 (by rfl) ⟨_, _, rfl, rfl, .inr rfl⟩ rfl ?_
    refine WE.p0 hx 12 (by rfl) (fun w_ => Runs.pick rfl rfl rfl) rfl ?_
    refine WE.p0 hx 13 (by rfl) (fun w_ => Runs.move rfl) rfl ?_
    refine WE.o1 (j := 13) (b := false) hx 14 (by rfl) ⟨_, _, rfl, rfl, .inr rfl⟩ rfl ?_
    refine WE.o1 (j := 13) (b := false) hx 15 (by rfl) ⟨_, _, rfl, rfl, .inr rfl⟩ rfl ?_
    refine WE.o1 (j := 13) (b := false) hx 16 (by rfl) ⟨_, _, rfl, rfl, .inr rfl⟩ rfl ?_
    refine WE.o1 (j := 13) (b := false) hx 17 (by rfl) ⟨_, _, rfl, rfl, .inr rfl⟩ rfl ?_
    refine WE.o1 (j := 13) (b := false) hx 18 (by rfl) ⟨_, _, rfl, rfl, .inr rfl⟩ rfl ?_
    refine WE.o1 (j := 13) (b := false) hx 19 (by rfl) ⟨_, _, rfl, rfl, .inr rfl⟩ rfl ?_
    refine WE.o1 (j := 13) (b := false) hx 20 (by rfl) ⟨_, _, rfl, rfl, .inr rfl⟩ rfl ?_
    refine WE.o1 (j := 13) (b := false) hx 21 (by rfl) ⟨_, _, rfl, rfl, .inr rfl⟩ rfl ?_
    refine WE.p0 hx 22 (by rfl) (fun w_ => Runs.pick rfl rfl rfl) rfl ?_
    refine WE.fin (.inr h4) (by kernel_rfl) ?_
    refine WN.thn ?_
    refine WC.condT rfl (rfl) ?_
    refine WC.seq (WC.reg ?_)
    refine WL.v (Runs.assign rfl) rfl ?_
    refine WL.nil (WN.thn (WC.ret ?_))
    refine ret1 rfl rfl ?_
    rw [show epilogM z r = (z, 14) from epilog_14 (.inl (by omega))]
    exact ⟨F, rj, rs, AJ, AS, cj, cS, Le.refl F, rfl, hO, (h4.drop 0)⟩
  · replace hix : jIx z r.jb r.ep = (i : Int) := hix
    obtain ⟨ad, rfl, hcj⟩ := hO.cellJ (W := W) hi
    refine WC.eregK h3 h3 (fun s_ => ([] : List Nat).any (Nat.beq s_)) mixed (by kernel_rfl) (fun hx => ?_)
    intro w5 h5
    refine WE.p0 hx 0 (by rfl) (fun w_ => Runs.move rfl) rfl ?_
    refine WE.p0 hx 1 (by rfl) (fun w_ => Runs.boolT (c := false) (Runs.lss rfl rfl) (by rw [decide_eq_false_iff_not]; omega)) rfl ?_
    refine WE.p0 hx 2 (by rfl) (fun w_ => Runs.move rfl) rfl ?_
    refine WE.p1 (j := 2) (b := false) hx 3 (by rfl) ⟨_, _, rfl, rfl, rfl⟩ (fun w_ => Runs.move rfl) rfl ?_
    refine WE.p1 (j := 2) (b := false) hx 4 (by rfl) ⟨_, _, rfl, rfl, rfl⟩ (fun w_ => Runs.nilCheckP rfl) rfl ?_
    refine WE.p1 (j := 2) (b := false) hx 5 (by rfl) ⟨_, _, rfl, rfl, rfl⟩ (fun w_ => Runs.fld fld40_0 rfl) rfl ?_
    refine WE.p1 (j := 2) (b := false) hx 7 (by rfl) ⟨_, _, rfl, rfl, rfl⟩ (fun w_ => Runs.move rfl) rfl ?_
    refine WE.v1 (j := 2) (b := false) 12 hx 6 (by rfl) ⟨_, _, rfl, rfl, rfl⟩ (fun w_ hE_ => Runs.load1 Try.underlying37 rfl rfl (hE_.ocell (i := 1) rfl rfl)) rfl ?_
    refine WE.p1 (j := 2) (b := false) hx 8 (by rfl) ⟨_, _, rfl, rfl, rfl⟩ (fun w_ => Runs.lidxK Try.underlying37 inf47 rfl rfl (n := i) hix hi) rfl ?_
    refine WE.p1 (j := 2) (b := false) hx 9 (by rfl) ⟨_, _, rfl, rfl, rfl⟩ (fun w_ => Runs.fld fld47_2 rfl) rfl ?_
    refine WE.v1 (j := 2) (b := false) 12 hx 10 (by rfl) ⟨_, _, rfl, rfl, rfl⟩ (fun w_ hE_ => Runs.fldK (n := i) hE_ (hcj _ 2 rfl) Try.underlying3 rfl rfl rfl) rfl ?_
    refine WE.p1 (j := 2) (b := false) hx 11 (by rfl) ⟨_, _, rfl, rfl, rfl⟩ (fun w_ => Runs.boolT (c := true) (Runs.eql rfl rfl) (decide_eq_true hp)) rfl ?_
    refine WE.p0 hx 12 (by rfl) (fun w_ => Runs.pick rfl rfl rfl) rfl ?_
    refine WE.p0 hx 13 (by rfl) (fun w_ => Runs.move rfl) rfl ?_
    refine WE.o1 (j := 13) (b := false) hx 14 (by rfl) ⟨_, _, rfl, rfl, .inr rfl⟩ rfl ?_
    refine WE.o1 (j := 13) (b := false) hx 15 (by rfl) ⟨_, _, rfl, rfl, .inr rfl⟩ rfl ?_
    refine WE.o1 (j := 13) (b := false) hx 16 (by rfl) ⟨_, _, rfl, rfl, .inr rfl⟩ rfl ?_
    refine WE.o1 (j := 13) (b := false) hx 17 (by rfl) ⟨_, _, rfl, rfl, .inr rfl⟩ rfl ?_
    refine WE.o1 (j := 13) (b := false) hx 18 (by rfl) ⟨_, _, rfl, rfl, .inr rfl⟩ rfl ?_
    refine WE.o1 (j := 13) (b := false) hx 19 (by rfl) ⟨_, _, rfl, rfl, .inr rfl⟩ rfl ?_
    refine WE.o1 (j := 13) (b := false) hx 20 (by rfl) ⟨_, _, rfl, rfl, .inr rfl⟩ rfl ?_
    refine WE.o1 (j := 13) (b := false) hx 21 (by rfl) ⟨_, _, rfl, rfl, .inr rfl⟩ rfl ?_
    refine WE.p0 hx 22 (by rfl) (fun w_ => Runs.pick rfl rfl rfl) rfl ?_
    refine WE.fin (.inr h5) (by kernel_rfl) ?_
    refine WN.thn ?_
    refine WC.condT rfl (rfl) ?_
    refine WC.seq (WC.reg ?_)
    refine WL.v (Runs.assign rfl) rfl ?_
    refine WL.nil (WN.thn (WC.ret ?_))
    refine ret1 rfl rfl ?_
    rw [show epilogM z r = (z, 14) from epilog_14 (.inr (.inl (by rw [hix, Int.toNat_natCast]; exact hp)))]
    exact ⟨F, rj, rs, (some ad), AS, cj, cS, Le.refl F, rfl, hO, (h5.drop 0)⟩
  · replace hix : jIx z r.jb r.ep = (i : Int) := hix
    obtain ⟨ad, rfl, hcj⟩ := hO.cellJ (W := W) hi
    refine WC.eregK h3 h3 (fun s_ => ([] : List Nat).any (Nat.beq s_)) mixed (by kernel_rfl) (fun hx => ?_)
    intro w6 h6
    refine WE.p0 hx 0 (by rfl) (fun w_ => Runs.move rfl) rfl ?_
    refine WE.p0 hx 1 (by rfl) (fun w_ => Runs.boolT (c := false) (Runs.lss rfl rfl) (by rw [decide_eq_false_iff_not]; omega)) rfl ?_
    refine WE.p0 hx 2 (by rfl) (fun w_ => Runs.move rfl) rfl ?_
    refine WE.p1 (j := 2) (b := false) hx 3 (by rfl) ⟨_, _, rfl, rfl, rfl⟩ (fun w_ => Runs.move rfl) rfl ?_
    refine WE.p1 (j := 2) (b := false) hx 4 (by rfl) ⟨_, _, rfl, rfl, rfl⟩ (fun w_ => Runs.nilCheckP rfl) rfl ?_
    refine WE.p1 (j := 2) (b := false) hx 5 (by rfl) ⟨_, _, rfl, rfl, rfl⟩ (fun w_ => Runs.fld fld40_0 rfl) rfl ?_
    refine WE.p1 (j := 2) (b := false) hx 7 (by rfl) ⟨_, _, rfl, rfl, rfl⟩ (fun w_ => Runs.move rfl) rfl ?_
    refine WE.v1 (j := 2) (b := false) 12 hx 6 (by rfl) ⟨_, _, rfl, rfl, rfl⟩ (fun w_ hE_ => Runs.load1 Try.underlying37 rfl rfl (hE_.ocell (i := 1) rfl rfl)) rfl ?_
    refine WE.p1 (j := 2) (b := false) hx 8 (by rfl) ⟨_, _, rfl, rfl, rfl⟩ (fun w_ => Runs.lidxK Try.underlying37 inf47 rfl rfl (n := i) hix hi) rfl ?_
    refine WE.p1 (j := 2) (b := false) hx 9 (by rfl) ⟨_, _, rfl, rfl, rfl⟩ (fun w_ => Runs.fld fld47_2 rfl) rfl ?_
    refine WE.v1 (j := 2) (b := false) 12 hx 10 (by rfl) ⟨_, _, rfl, rfl, rfl⟩ (fun w_ hE_ => Runs.fldK (n := i) hE_ (hcj _ 2 rfl) Try.underlying3 rfl rfl rfl) rfl ?_
    refine WE.p1 (j := 2) (b := false) hx 11 (by rfl) ⟨_, _, rfl, rfl, rfl⟩ (fun w_ => Runs.boolT (c := false) (Runs.eql rfl rfl) (decide_eq_false hp)) rfl ?_
    refine WE.p0 hx 12 (by rfl) (fun w_ => Runs.pick rfl rfl rfl) rfl ?_
    refine WE.p0 hx 13 (by rfl) (fun w_ => Runs.move rfl) rfl ?_
    refine WE.p1 (j := 13) (b := false) hx 14 (by rfl) ⟨_, _, rfl, rfl, rfl⟩ (fun w_ => Runs.move rfl) rfl ?_
    refine WE.p1 (j := 13) (b := false) hx 15 (by rfl) ⟨_, _, rfl, rfl, rfl⟩ (fun w_ => Runs.nilCheckP rfl) rfl ?_
    refine WE.p1 (j := 13) (b := false) hx 17 (by rfl) ⟨_, _, rfl, rfl, rfl⟩ (fun w_ => Runs.fld fld24_1 rfl) rfl ?_
    refine WE.p1 (j := 13) (b := false) hx 19 (by rfl) ⟨_, _, rfl, rfl, rfl⟩ (fun w_ => Runs.fld fld24_2 rfl) rfl ?_
    refine WE.v1 (j := 13) (b := false) 12 hx 16 (by rfl) ⟨_, _, rfl, rfl, rfl⟩ (fun w_ hE_ => Runs.loadAll hE_ 1 rfl Try.underlying40 rfl inf40 rfl rfl) rfl ?_
    refine WE.v1 (j := 13) (b := false) 12 hx 18 (by rfl) ⟨_, _, rfl, rfl, rfl⟩ (fun w_ hE_ => Runs.load1 Try.underlying3 rfl rfl (hE_.ocell (i := 0) rfl rfl)) rfl ?_
    refine WE.v1 (j := 13) (b := false) 12 hx 20 (by rfl) ⟨_, _, rfl, rfl, rfl⟩ (fun w_ hE_ => Runs.load1 Try.underlying3 rfl rfl (hE_.ocell (i := 0) rfl rfl)) rfl ?_
    refine WE.op (.inr h6) (i := 21) (by rfl) (by kernel_rfl) ?_
    refine WL.gon rfl rfl rfl ?_
    refine WL.call can26 rfl rfl (alive_c _ r.jb r.ep h6 (hO.rdS (i := 3) rfl) (by have := hz.s; omega)) ?_
    rintro _ w7 ⟨rfl, h7⟩
    refine ⟨_, rfl, ?_⟩
    refine WL.nil (WE.next ?_)
    refine WE.p0 hx 22 (by rfl) (fun w_ => Runs.pick rfl rfl rfl) rfl ?_
    refine WE.fin (.inr h7) (by kernel_rfl) ?_
    refine WN.thn ?_
    refine WC.cond rfl (fun c8 => ?_) (fun c8 => ?_)
    · try simp only [dt, df, nt, nf, ba, il, ie] at c8
      first
      | (exfalso; omega)
      | skip
        refine WC.seq (WC.reg ?_)
        refine WL.v (Runs.assign rfl) rfl ?_
        refine WL.nil (WN.thn (WC.ret ?_))
        refine ret1 rfl rfl ?_
        rw [show epilogM z r = (z, 14) from epilog_14 (.inr (.inr c8))]
        exact ⟨F, rj, rs, (some ad), AS, cj, cS, Le.refl F, rfl, hO, (h7.drop 0)⟩
    · try simp only [dt, df, nt, nf, ba, il, ie] at c8
      first
      | (exfalso; omega)
      | skip
        refine WC.skip (WN.thn (WC.seq (WC.reg ?_)))
        refine WL.v (Runs.move rfl) rfl ?_
        refine WL.v (Runs.nilCheckP rfl) rfl ?_
        refine WL.v (Runs.fld fld40_0 rfl) rfl ?_
        refine WL.v (Runs.load1 Try.underlying37 rfl rfl (h7.ocell (i := 1) rfl rfl)) rfl ?_
        refine WL.v (Runs.move rfl) rfl ?_
        refine WL.v (Runs.lidxK Try.underlying37 inf47 rfl rfl (n := i) hix hi) rfl ?_
        refine WL.v (Runs.fld fld47_2 rfl) rfl ?_
        refine WL.storeM h7 2 (fun _ => rfl) (f := jc) (e := z.js.getD i J0) (e' := { z.js.getD i J0 with ph := 2 }) rfl hO.J rfl (getD_at J0 hi) (k := 2) (by omega) rfl rfl rfl inf3 rfl ?_
        intro r9 w10 hr9 h10
        try simp only [lz, ls, ez, es'] at h10
        refine WL.nil (WN.thn (WC.seq ?_))
        rcases Bool.eq_false_or_eq_true z.dr with hdr | hdr
        · skip
          refine WC.reg ?_
          refine WL.v (Runs.move rfl) rfl ?_
          refine WL.v (Runs.move rfl) rfl ?_
          refine WL.v (Runs.nilCheckP rfl) rfl ?_
          refine WL.v (Runs.fld fld40_2 rfl) rfl ?_
          refine WL.v (Runs.boolT (c := true) (Runs.load1 Try.underlying4 rfl rfl (h10.ocell (i := 1) rfl rfl)) hdr) rfl ?_
          refine WL.v (Runs.move rfl) rfl ?_
          refine WL.goff rfl rfl rfl rfl ?_
          refine WL.goff rfl rfl rfl rfl ?_
          refine WL.goff rfl rfl rfl rfl ?_
          refine WL.v (Runs.pick rfl rfl rfl) rfl ?_
          refine WL.v (Runs.nilCheckP rfl) rfl ?_
          refine WL.v (Runs.fld fld40_2 rfl) rfl ?_
          refine WL.store' h10 1 rfl rfl rfl inf4 rfl rfl (Free.zero _) (Nat.le_of_ble_eq_true rfl) ?_
          intro  w11 h11
          try simp only [lz, ls, ez, es'] at h11
          refine WL.nil (WN.thn (WC.seq (WC.reg ?_)))
          refine WL.v (Runs.assign rfl) rfl ?_
          refine WL.nil (WN.thn (WC.ret ?_))
          refine ret1 rfl rfl ?_
          rw [epilog_0 hix hp c8]
          refine ⟨F, _, rs, some ad, AS, cj, cS, Le.refl F, rfl, hO.setJ hr9, ?_⟩
          rw [sbk_js, show (z.dr || decide (r.ar ≠ 0)) = true from by simp [hdr]]
          exact h11.drop 0
        · skip
          refine WC.reg ?_
          refine WL.v (Runs.move rfl) rfl ?_
          refine WL.v (Runs.move rfl) rfl ?_
          refine WL.v (Runs.nilCheckP rfl) rfl ?_
          refine WL.v (Runs.fld fld40_2 rfl) rfl ?_
          refine WL.v (Runs.boolT (c := false) (Runs.load1 Try.underlying4 rfl rfl (h10.ocell (i := 1) rfl rfl)) hdr) rfl ?_
          refine WL.v (Runs.move rfl) rfl ?_
          refine WL.gon rfl rfl rfl ?_
          refine WL.v (Runs.fld fld24_4 rfl) rfl ?_
          refine WL.gon rfl rfl rfl ?_
          refine WL.v (Runs.load1 Try.underlying3 rfl rfl (h10.ocell (i := 0) rfl rfl)) rfl ?_
          refine WL.gon rfl rfl rfl ?_
          refine WL.v (Runs.neq rfl rfl) rfl ?_
          refine WL.v (Runs.pick rfl rfl rfl) rfl ?_
          refine WL.v (Runs.nilCheckP rfl) rfl ?_
          refine WL.v (Runs.fld fld40_2 rfl) rfl ?_
          refine WL.store' h10 1 rfl rfl rfl inf4 rfl rfl (Free.zero _) (Nat.le_of_ble_eq_true rfl) ?_
          intro  w12 h12
          try simp only [lz, ls, ez, es'] at h12
          refine WL.nil (WN.thn (WC.seq (WC.reg ?_)))
          refine WL.v (Runs.assign rfl) rfl ?_
          refine WL.nil (WN.thn (WC.ret ?_))
          refine ret1 rfl rfl ?_
          rw [epilog_0 hix hp c8]
          refine ⟨F, _, rs, some ad, AS, cj, cS, Le.refl F, rfl, hO.setJ hr9, ?_⟩
          rw [sbk_js, show (z.dr || decide (r.ar ≠ 0)) = (!decide (r.ar = 0)) from by simp [hdr]]
          exact h12.drop 0
set_option maxRecDepth 100000 in
set_option maxHeartbeats 4000000 in
theorem turns_c {W : World} {F : Snap} {cs : List Res} (w : World) {rj rs : Res} {AJ AS : Option Addr} {cj cS bs : Nat} {z : Z} {Al : Option Addr} {cl : Nat} {r : R} (hl : RdS (Kd.one Vi) F Al r.ls) (hn : r.ls.length ≤ 100000) (hO : OS F rj rs AJ AS cj cS z) (hz : few z) (h : St W F (sbk bs AJ AS cj cS z :: rj :: rs :: cs) w) {bf bt : Nat} {fr to : Int} (hfzbf : F bf = some (.cells #[Vi fr] 3 (0, 0))) (hfzbt : F bt = some (.cells #[Vi to] 3 (0, 0))) : Calls Try.prog 93 #[.pointer (some ⟨bs, 0, none⟩), .agg #[Vi r.kd, Vi r.jb, Vi r.ep, Vi r.st, Vi r.ar, .slice Al r.ls.length cl], .pointer (some ⟨bf, 0, none⟩), .pointer (some ⟨bt, 0, none⟩)] w fun e w' => Did W F cs bs (turnsM z r fr to) e w'  := by
  refine enter (P := Try.prog) (args := [.pointer (some ⟨bs, 0, none⟩), .agg #[Vi r.kd, Vi r.jb, Vi r.ep, Vi r.st, Vi r.ar, .slice Al r.ls.length cl], .pointer (some ⟨bf, 0, none⟩), .pointer (some ⟨bt, 0, none⟩)]) Try.func93 rfl rfl rfl ?_
  refine WC.seq (WC.reg ?_)
  refine WL.box rfl h rfl ?_
  intro b5 w1 h1
  refine WL.v (Runs.assign rfl) rfl ?_
  refine WL.nil (WN.thn (WC.seq ?_))
  refine WC.eregK h1 h1 (fun s_ => ([] : List Nat).any (Nat.beq s_)) mixed (by kernel_rfl) (fun hx => ?_)
  intro w2 h2
  refine WE.p0 hx 0 (by rfl) (fun w_ => Runs.move rfl) rfl ?_
  refine WE.p0 hx 1 (by rfl) (fun w_ => Runs.nilCheckP rfl) rfl ?_
  refine WE.p0 hx 3 (by rfl) (fun w_ => Runs.fld fld24_1 rfl) rfl ?_
  refine WE.p0 hx 5 (by rfl) (fun w_ => Runs.fld fld24_2 rfl) rfl ?_
  refine WE.p0 hx 7 (by rfl) (fun w_ => Runs.fld fld24_3 rfl) rfl ?_
  refine WE.v0 12 hx 2 (by rfl) (fun w_ hE_ => Runs.loadAll hE_ 1 rfl Try.underlying40 rfl inf40 rfl rfl) rfl ?_
  refine WE.v0 12 hx 4 (by rfl) (fun w_ hE_ => Runs.load1 Try.underlying3 rfl rfl (hE_.ocell (i := 0) rfl rfl)) rfl ?_
  refine WE.v0 12 hx 6 (by rfl) (fun w_ hE_ => Runs.load1 Try.underlying3 rfl rfl (hE_.ocell (i := 0) rfl rfl)) rfl ?_
  refine WE.v0 12 hx 8 (by rfl) (fun w_ hE_ => Runs.load1 Try.underlying3 rfl rfl (hE_.ocell (i := 0) rfl rfl)) rfl ?_
  refine WE.op (.inr h2) (i := 9) (by rfl) (by kernel_rfl) ?_
  refine WL.call can54 rfl rfl (step_c _ r.jb r.ep r.st h2 (hO.rdS (i := 3) rfl) (by have := hz.s; omega)) ?_
  rintro _ w3 ⟨rfl, h3⟩
  refine ⟨_, rfl, ?_⟩
  refine WL.nil (WE.next ?_)
  refine WE.p0 hx 10 (by rfl) (fun w_ => Runs.assign rfl) rfl ?_
  refine WE.fin (.inr h3) (by kernel_rfl) ?_
  refine WN.thn (WC.seq (WC.seq ?_))
  rcases ix_at (sAt r.jb r.ep r.st) z.ss S0 with ⟨hix, _⟩ | ⟨i, hi, hix, _⟩
  · replace hix : sIx z r.jb r.ep r.st = -1 := hix
    refine WC.eregK h3 h3 (fun s_ => ([] : List Nat).any (Nat.beq s_)) mixed (by kernel_rfl) (fun hx => ?_)
    intro w4 h4
    refine WE.p0 hx 0 (by rfl) (fun w_ => Runs.move rfl) rfl ?_
    refine WE.p0 hx 1 (by rfl) (fun w_ => Runs.boolT (c := true) (Runs.lss rfl rfl) (by rw [decide_eq_true_eq]; omega)) rfl ?_
    refine WE.p0 hx 2 (by rfl) (fun w_ => Runs.move rfl) rfl ?_
    refine WE.o1 (j := 2) (b := false) hx 3 (by rfl) ⟨_, _, rfl, rfl, .inr rfl⟩ rfl ?_
    refine WE.o1 (j := 2) (b := false) hx 4 (by rfl) ⟨_, _, rfl, rfl, .inr rfl⟩ rfl ?_
    refine WE.o1 (j := 2) (b := false) hx 5 (by rfl) ⟨_, _, rfl, rfl, .inr rfl⟩ rfl ?_
    refine WE.o1 (j := 2) (b := false) hx 6 (by rfl) ⟨_, _, rfl, rfl, .inr rfl⟩ rfl ?_
    refine WE.o1 (j := 2) (b := false) hx 7 (by rfl) ⟨_, _, rfl, rfl, .inr rfl⟩ rfl ?_
    refine WE.o1 (j := 2) (b := false) hx 8 (by rfl) ⟨_, _, rfl, rfl, .inr rfl⟩ rfl ?_
    refine WE.o1 (j := 2) (b := false) hx 9 (by rfl) ⟨_, _, rfl, rfl, .inr rfl⟩ rfl ?_
    refine WE.o1 (j := 2) (b := false) hx 10 (by rfl) ⟨_, _, rfl, rfl, .inr rfl⟩ rfl ?_
    refine WE.o1 (j := 2) (b := false) hx 11 (by rfl) ⟨_, _, rfl, rfl, .inr rfl⟩ rfl ?_
    refine WE.o1 (j := 2) (b := false) hx 12 (by rfl) ⟨_, _, rfl, rfl, .inr rfl⟩ rfl ?_
    refine WE.p0 hx 13 (by rfl) (fun w_ => Runs.pick rfl rfl rfl) rfl ?_
    refine WE.fin (.inr h4) (by kernel_rfl) ?_
    refine WN.thn ?_
    refine WC.condT rfl (rfl) ?_
    refine WC.seq (WC.reg ?_)
    refine WL.v (Runs.assign rfl) rfl ?_
    refine WL.nil (WN.thn (WC.ret ?_))
    refine ret1 rfl rfl ?_
    rw [show turnsM z r fr to = (z, 14) from turns_14 (.inl (by omega))]
    exact ⟨F, rj, rs, AJ, AS, cj, cS, Le.refl F, rfl, hO, (h4.drop 0)⟩
  · replace hix : sIx z r.jb r.ep r.st = (i : Int) := hix
    obtain ⟨es, hS, hes, hps⟩ := hO.S
    obtain ⟨e, hei, hes2⟩ := map_at hes hi
    obtain ⟨ad, rfl, hcs⟩ := rowCell (W := W) hS hei
    refine WC.eregK h3 h3 (fun s_ => ([] : List Nat).any (Nat.beq s_)) mixed (by kernel_rfl) (fun hx => ?_)
    intro w5 h5
    refine WE.p0 hx 0 (by rfl) (fun w_ => Runs.move rfl) rfl ?_
    refine WE.p0 hx 1 (by rfl) (fun w_ => Runs.boolT (c := false) (Runs.lss rfl rfl) (by rw [decide_eq_false_iff_not]; omega)) rfl ?_
    refine WE.p0 hx 2 (by rfl) (fun w_ => Runs.move rfl) rfl ?_
    refine WE.p1 (j := 2) (b := false) hx 3 (by rfl) ⟨_, _, rfl, rfl, rfl⟩ (fun w_ => Runs.move rfl) rfl ?_
    refine WE.p1 (j := 2) (b := false) hx 4 (by rfl) ⟨_, _, rfl, rfl, rfl⟩ (fun w_ => Runs.nilCheckP rfl) rfl ?_
    refine WE.p1 (j := 2) (b := false) hx 5 (by rfl) ⟨_, _, rfl, rfl, rfl⟩ (fun w_ => Runs.fld fld40_1 rfl) rfl ?_
    refine WE.p1 (j := 2) (b := false) hx 7 (by rfl) ⟨_, _, rfl, rfl, rfl⟩ (fun w_ => Runs.move rfl) rfl ?_
    refine WE.v1 (j := 2) (b := false) 12 hx 6 (by rfl) ⟨_, _, rfl, rfl, rfl⟩ (fun w_ hE_ => Runs.load1 Try.underlying38 rfl rfl (hE_.ocell (i := 1) rfl rfl)) rfl ?_
    refine WE.p1 (j := 2) (b := false) hx 8 (by rfl) ⟨_, _, rfl, rfl, rfl⟩ (fun w_ => Runs.lidxK Try.underlying38 inf54 rfl rfl (n := i) hix hi) rfl ?_
    refine WE.p1 (j := 2) (b := false) hx 9 (by rfl) ⟨_, _, rfl, rfl, rfl⟩ (fun w_ => Runs.fld fld54_3 rfl) rfl ?_
    refine WE.v1 (j := 2) (b := false) 12 hx 10 (by rfl) ⟨_, _, rfl, rfl, rfl⟩ (fun w_ hE_ => Runs.fldK (n := i) hE_ (hcs _ 3 rfl) Try.underlying3 rfl rfl rfl) rfl ?_
    refine WE.v1 (j := 2) (b := false) 12 hx 11 (by rfl) ⟨_, _, rfl, rfl, rfl⟩ (fun w_ hE_ => Runs.load1 Try.underlying3 rfl rfl (hE_.cell (cellB hfzbf rfl))) rfl ?_
    refine WE.p1 (j := 2) (b := false) hx 12 (by rfl) ⟨_, _, rfl, rfl, rfl⟩ (fun w_ => Runs.neq rfl rfl) rfl ?_
    refine WE.p0 hx 13 (by rfl) (fun w_ => Runs.pick rfl rfl rfl) rfl ?_
    refine WE.fin (.inr h5) (by kernel_rfl) ?_
    refine WN.thn ?_
    refine WC.cond rfl (fun c6 => ?_) (fun c6 => ?_)
    · try simp only [dt, df, nt, nf, ba, il, ie] at c6
      first
      | (exfalso; omega)
      | skip
        refine WC.seq (WC.reg ?_)
        refine WL.v (Runs.assign rfl) rfl ?_
        refine WL.nil (WN.thn (WC.ret ?_))
        refine ret1 rfl rfl ?_
        rw [show turnsM z r fr to = (z, 14) from turns_14 (.inr (by rw [hix, Int.toNat_natCast, ← hes2]; exact c6))]
        exact ⟨F, rj, rs, AJ, (some ad), cj, cS, Le.refl F, rfl, hO, (h5.drop 0)⟩
    · try simp only [dt, df, nt, nf, ba, il, ie] at c6
      first
      | (exfalso; omega)
      | skip
        refine WC.skip (WN.thn (WC.seq ?_))
        refine WC.eregK h5 h5 (fun s_ => ([8] : List Nat).any (Nat.beq s_)) mixed (by kernel_rfl) (fun hx => ?_)
        intro w7 h7
        refine WE.p0 hx 0 (by rfl) (fun w_ => Runs.move rfl) rfl ?_
        refine WE.p0 hx 1 (by rfl) (fun w_ => Runs.nilCheckP rfl) rfl ?_
        refine WE.p0 hx 2 (by rfl) (fun w_ => Runs.fld fld40_1 rfl) rfl ?_
        refine WE.p0 hx 4 (by rfl) (fun w_ => Runs.move rfl) rfl ?_
        refine WE.v0 12 hx 3 (by rfl) (fun w_ hE_ => Runs.load1 Try.underlying38 rfl rfl (hE_.ocell (i := 1) rfl rfl)) rfl ?_
        refine WE.v0 12 hx 5 (by rfl) (fun w_ hE_ => Runs.load1 Try.underlying3 rfl rfl (hE_.cell (cellB hfzbt rfl))) rfl ?_
        refine WE.p0 hx 6 (by rfl) (fun w_ => Runs.lidxK Try.underlying38 inf54 rfl rfl (n := i) hix hi) rfl ?_
        refine WE.p0 hx 7 (by rfl) (fun w_ => Runs.fld fld54_3 rfl) rfl ?_
        refine WE.op (.inr h7) (i := 8) (by rfl) (by kernel_rfl) ?_
        refine WL.storeM h7 3 (fun _ => rfl) (f := sc) (e := e) (e' := { e with s := { e.s with ph := to } }) rfl hS rfl hei (k := 3) (by omega) rfl rfl rfl inf3 rfl ?_
        intro r8 w9 hr8 h9
        try simp only [lz, ls, ez, es'] at h9
        refine WL.nil (WE.next ?_)
        refine WE.fin (.inl ⟨8, rfl, by kernel_rfl⟩) (by kernel_rfl) ?_
        refine WN.thn (WC.seq (WC.seq (WC.reg ?_)))
        refine WL.v (Runs.load1 Try.underlying3 rfl rfl (h9.cell (cellB hfzbt rfl))) rfl ?_
        refine WL.v (Runs.eql rfl rfl) rfl ?_
        refine WL.nil (WN.thn ?_)
        refine WC.cond rfl (fun c10 => ?_) (fun c10 => ?_)
        · try simp only [dt, df, nt, nf, ba, il, ie] at c10
          first
          | (exfalso; omega)
          | skip
            refine WC.eregK h9 h9 (fun s_ => ([9] : List Nat).any (Nat.beq s_)) mixed (by kernel_rfl) (fun hx => ?_)
            intro w11 h11
            refine WE.p0 hx 0 (by rfl) (fun w_ => Runs.move rfl) rfl ?_
            refine WE.p0 hx 1 (by rfl) (fun w_ => Runs.nilCheckP rfl) rfl ?_
            refine WE.p0 hx 2 (by rfl) (fun w_ => Runs.fld fld40_1 rfl) rfl ?_
            refine WE.p0 hx 4 (by rfl) (fun w_ => Runs.move rfl) rfl ?_
            refine WE.p0 hx 5 (by rfl) (fun w_ => Runs.fld fld24_4 rfl) rfl ?_
            refine WE.v0 12 hx 3 (by rfl) (fun w_ hE_ => Runs.load1 Try.underlying38 rfl rfl (hE_.ocell (i := 1) rfl rfl)) rfl ?_
            refine WE.v0 12 hx 6 (by rfl) (fun w_ hE_ => Runs.load1 Try.underlying3 rfl rfl (hE_.ocell (i := 0) rfl rfl)) rfl ?_
            refine WE.p0 hx 7 (by rfl) (fun w_ => Runs.lidxK Try.underlying38 inf54 rfl rfl (n := i) hix hi) rfl ?_
            refine WE.p0 hx 8 (by rfl) (fun w_ => Runs.fld fld54_4 rfl) rfl ?_
            refine WE.op (.inr h11) (i := 9) (by rfl) (by kernel_rfl) ?_
            refine WL.storeM h11 3 (fun _ => rfl) (f := sc) (e := { e with s := { e.s with ph := to } }) (e' := { e with s := { e.s with ph := to, cd := r.ar } }) rfl hr8 rfl (List.getElem?_set_self (List.getElem?_eq_some_iff.1 hei).1) (k := 4) (by omega) rfl rfl rfl inf3 rfl ?_
            intro r12 w13 hr12 h13
            try simp only [lz, ls, ez, es'] at h13
            refine WL.nil (WE.next ?_)
            refine WE.fin (.inl ⟨9, rfl, by kernel_rfl⟩) (by kernel_rfl) ?_
            refine WN.thn (WC.seq (WC.reg ?_))
            refine WL.v (Runs.assign rfl) rfl ?_
            refine WL.nil (WN.thn (WC.ret ?_))
            refine ret1 rfl rfl ?_
            rw [turns_0 hix hes2 (c6)]
            have e9 := c10
            have hr9 := hr12
            rw [List.set_set] at hr9
            rw [if_pos e9]
            exact ⟨F, rj, _, AJ, some ad, cj, cS, Le.refl F, rfl, hO.setS hes hps hei (e' := { e with s := { e.s with ph := to, cd := r.ar } }) rfl rfl hr9, by rw [sbk_ss]; exact h13.drop 0⟩
        · try simp only [dt, df, nt, nf, ba, il, ie] at c10
          first
          | (exfalso; omega)
          | skip
            refine WC.skip (WN.thn (WC.seq (WC.reg ?_)))
            refine WL.v (Runs.assign rfl) rfl ?_
            refine WL.nil (WN.thn (WC.ret ?_))
            refine ret1 rfl rfl ?_
            rw [turns_0 hix hes2 (c6)]
            have e9 := c10
            rw [if_neg e9]
            exact ⟨F, rj, _, AJ, some ad, cj, cS, Le.refl F, rfl, hO.setS hes hps hei (e' := { e with s := { e.s with ph := to, cd := e.s.cd } }) rfl rfl hr8, by rw [sbk_ss]; exact h9.drop 0⟩
end Rc
end Go.Proofs.Ythejglgnoingfaa
