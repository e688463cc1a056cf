/- The law NodeAsks. -/
import Derived.Test.YtanlminnobonnaaProg
import Derived.KernelRfl
import Derived.Test.YtanlminnobonnaaMBaseAH
import Derived.Test.YtanlminnobonnaaMN8
namespace Go.Proofs.Ytanlminnobonnaa
open Go Go.RowKit B
set_option linter.unusedVariables false
set_option linter.unusedSimpArgs false
namespace Rc

theorem fld33_0 : fldB Try.prog 33 0 0 = true := by kernel_rfl
theorem fld33_2 : fldB Try.prog 33 2 4 = true := by kernel_rfl
theorem can10 : B.Can Try.prog 10 := ⟨_, Try.func10, by kernel_rfl, rfl⟩   -- roundhouse/roundhouselaw16.live
theorem can12 : B.Can Try.prog 12 := ⟨_, Try.func12, by kernel_rfl, rfl⟩   -- roundhouse/roundhouselaw16.own
theorem can13 : B.Can Try.prog 13 := ⟨_, Try.func13, by kernel_rfl, rfl⟩   -- roundhouse/roundhouselaw16.facts
theorem can21 : B.Can Try.prog 21 := ⟨_, Try.func21, by kernel_rfl, rfl⟩   -- roundhouse/roundhouseref15.Fold
theorem can22 : B.Can Try.prog 22 := ⟨_, Try.func22, by kernel_rfl, rfl⟩   -- roundhouse/roundhouselaw16.fresh
/-- a number may be, behind those ahead of it -/
def frAt (ps : List Int) (i : Nat) : Prop := ¬ ps.getD i 0 < 1 ∧ ¬ 1099511627776 < ps.getD i 0 ∧ ¬ (0 < i ∧ ps.getD i 0 ≤ ps.getD (i - 1) 0)
def frM (z : Z) (ps : List Int) : Prop := ∀ i, i < ps.length → frAt ps i ∧ ∀ k, k < z.ss.length → ∀ m, m < (z.ss.getD k S0).ps.length → (z.ss.getD k S0).ps.getD m 0 ≠ ps.getD i 0
theorem fresh4 (P Q R S : Prop) : P ∨ (¬ P ∧ Q) ∨ (¬ P ∧ ¬ Q ∧ ¬ R) ∨ (¬ P ∧ ¬ Q ∧ R ∧ S) ∨ (¬ P ∧ ¬ Q ∧ R ∧ ¬ S) := by
  by_cases h : P <;> by_cases h2 : Q <;> by_cases h3 : R <;> by_cases h4 : S <;> simp [h, h2, h3, h4]
theorem frM.okP {z : Z} {ps : List Int} (h : frM z ps) (h1 : 1 ≤ ps.length) (h2 : ps.length ≤ 40) : okP ps := by
  refine ⟨fun i hi => ?_, h1, by omega⟩
  obtain ⟨a1, a2, a3⟩ := (h i hi).1
  unfold pdAt lastP
  refine ⟨?_, by omega⟩
  split
  · omega
  · rename_i h0
    have : ¬ (0 < i ∧ ps.getD i 0 ≤ ps.getD (i - 1) 0) := a3
    omega
theorem frM.share {z : Z} {ps : List Int} (h : frM z ps) : shareM z ps = false := by
  refine any_f (d := S0) fun k hk => ?_
  show (z.ss.getD k S0).ps.any (fun p => decide (p ∈ ps)) = false
  refine any_f (d := 0) fun m hm => ?_
  show decide ((z.ss.getD k S0).ps.getD m 0 ∈ ps) = false
  rw [decide_eq_false_iff_not]
  intro hin
  obtain ⟨i, hi, he⟩ := List.getElem_of_mem hin
  exact (h i hi).2 k hk m hm (by rw [List.getD_eq_getElem?_getD (l := ps), List.getElem?_eq_getElem hi]; exact he.symm)
theorem jx_neg {z : Z} {m : M} (h : hasJ z m = false) : jIx z m.jb m.ep < 0 := by
  unfold hasJ findM at h
  split at h
  · cases h
  · omega
theorem jx_pos {z : Z} {m : M} (h : hasJ z m = true) : 0 ≤ jIx z m.jb m.ep ∧ phJ z m = (z.js.getD (jIx z m.jb m.ep).toNat J0).ph := by
  unfold hasJ findM at h
  split at h
  · rename_i h1
    exact ⟨h1, by unfold phJ findM; rw [if_pos h1]⟩
  · cases h
theorem sx_neg {z : Z} {m : M} (h : hasS z m = false) : sIx z m.jb m.ep m.st < 0 := by
  unfold hasS stepM at h
  split at h
  · cases h
  · omega
theorem sx_pos {z : Z} {m : M} (h : hasS z m = true) : 0 ≤ sIx z m.jb m.ep m.st ∧ phS z m = (z.ss.getD (sIx z m.jb m.ep m.st).toNat S0).ph := by
  unfold hasS stepM at h
  split at h
  · rename_i h1
    exact ⟨h1, by unfold phS stepM; rw [if_pos h1]⟩
  · cases h
theorem newM_f {z : Z} {m : M} (h1 : hasJ z m = false) (h2 : nwM z m = false) : newM z m.jb m.ep = false := by
  refine any_f (d := J0) fun i hi => ?_
  show newB m.jb m.ep (z.js.getD i J0) = false
  have a1 : nwB m (z.js.getD i J0) = false := by
    unfold nwM at h2
    rw [List.any_eq_false] at h2
    simpa using h2 _ (memD J0 hi)
  have a2 : jAt m.jb m.ep (z.js.getD i J0) = false := by
    have := jx_neg h1
    rcases ix_at (jAt m.jb m.ep) z.js J0 with ⟨_, h3⟩ | ⟨j, _, h3, _⟩
    · rw [List.any_eq_false] at h3
      simpa using h3 _ (memD J0 hi)
    · have h4 : jIx z m.jb m.ep = (j : Int) := h3
      omega
  unfold nwB at a1
  unfold jAt at a2
  unfold newB
  rw [← Bool.decide_and, decide_eq_false_iff_not] at a1 a2 ⊢
  omega
theorem upJ {z : Z} {m : M} (h : upB z m = true) : hasJ z m = true ∧ phJ z m = 0 := by
  unfold upB at h
  rwa [Bool.and_eq_true, decide_eq_true_eq] at h
theorem phS_ {z : Z} {m : M} {p : Int} (h : phB z m p = true) : hasS z m = true ∧ phS z m = p := by
  unfold phB at h
  rwa [Bool.and_eq_true, decide_eq_true_eq] at h
/-- what a message's numbers may be -/
def okM (m : M) : Prop := (0 ≤ m.jb ∧ m.jb ≤ 1099511627776) ∧ (0 ≤ m.ep ∧ m.ep ≤ 1099511627776) ∧ (0 ≤ m.st ∧ m.st ≤ 1099511627776)
theorem okR_of {m : M} {kd ar : Int} {ls : List Int} (hm : okM m) (hk : 0 ≤ kd ∧ kd ≤ 7) (ha : 0 ≤ ar ∧ ar ≤ 255) (hl : (kd = 1 ∧ okP ls) ∨ (kd ≠ 1 ∧ ls.length = 0)) : okR { (wrM m kd ar).rc with ls := ls } := by
  refine ⟨⟨hm.1, hm.2.1, ?_⟩, hk, ha, hl⟩
  show mayN (if kd = 0 ∨ 6 ≤ kd then 0 else m.st)
  split
  · exact ⟨by decide, by decide⟩
  · exact hm.2.2
theorem okW {m : M} (kd ar : Int) (hm : okM m) (hk : 0 ≤ kd ∧ kd ≤ 7) (ha : 0 ≤ ar ∧ ar ≤ 255) (h1 : kd ≠ 1) : okR (wrM m kd ar).rc := okR_of (ls := []) hm hk ha (.inr ⟨h1, rfl⟩)
theorem legal {id : Int} {z : Z} {m : M} {f : Fc} (hm : okM m) (hf : frM z f.ps) (hfl : f.ps.length ≤ 40) (h0 : (decideM id z m f).2 = 0) (hh : (decideM id z m f).1.has = true) : (applyM z (decideM id z m f).1.rc).2 = 0 := by
  revert h0 hh
  unfold decideM
  split
  · intro h; exact absurd h (by decide)
  · rename_i hc
    have hcd : 0 ≤ f.cd ∧ f.cd ≤ 255 := Classical.not_not.1 fun hn => hc (.inr (.inl hn))
    intro _
    split
    · show (prologA id z m f.cd).has = true → (applyM z (prologA id z m f.cd).rc).2 = 0
      unfold prologA
      repeat' split
      all_goals first | (intro h; exact Bool.noConfusion h) | skip
      rename_i a1 a2 a3 a4 a5
      intro _
      have b1 : hasJ z m = false := by cases hx : hasJ z m; rfl; exact absurd (by rw [hx]; rfl) a4
      have b2 : nwM z m = false := by cases hx : nwM z m; rfl; exact absurd (by rw [hx]; simp) a4
      rw [show (anM id m (wrM m 0 f.cd) 1 (mn1 f.cd)).rc = (wrM m 0 f.cd).rc from rfl, apply_ok (okW 0 f.cd hm ⟨by decide, by decide⟩ hcd (by decide)), do_0 rfl, prolog_0 (newM_f b1 b2) (by simpa using a5)]
    · split
      · show (launchA id z m f).has = true → (applyM z (launchA id z m f).rc).2 = 0
        unfold launchA
        repeat' split
        all_goals first | (intro h; exact Bool.noConfusion h) | skip
        rename_i a1 a2 a3
        intro _
        have b1 : upB z m = true := by cases hx : upB z m; exact absurd (.inl hx) a3; rfl
        have b2 : 1 ≤ f.ps.length := by
          have : ¬ f.ps.length = 0 := fun hx => a3 (.inr (.inr hx))
          omega
        have b3 : hasS z m = false := by simpa using a2
        have b4 := upJ b1
        rw [show (anM id m { wrM m 1 0 with rc := { (wrM m 1 0).rc with ls := f.ps } } 3 1).rc = { (wrM m 1 0).rc with ls := f.ps } from rfl, apply_ok (okR_of (kd := 1) (ar := 0) hm ⟨by decide, by decide⟩ ⟨by decide, by decide⟩ (.inl ⟨rfl, hf.okP b2 hfl⟩)), do_b (.inl rfl)]
        rw [begins_0]
        · intro hx
          have b5 := b4.1
          unfold hasJ at b5
          rw [show (findM z m.jb m.ep).2 = false from hx] at b5
          cases b5
        · exact fun hx => hx b4.2
        · have := sx_neg b3
          show ¬ 0 ≤ sIx z m.jb m.ep m.st
          omega
        · exact hf.share
      · split
        · show (releaseA id z m).has = true → (applyM z (releaseA id z m).rc).2 = 0
          unfold releaseA
          repeat' split
          all_goals first | (intro h; exact Bool.noConfusion h) | skip
          rename_i a1
          intro _
          have b1 := phS_ a1
          have b2 := sx_pos b1.1
          rw [show ({ wrM m 3 0 with sta := true } : Ac).rc = (wrM m 3 0).rc from rfl, apply_ok (okW 3 0 hm ⟨by decide, by decide⟩ ⟨by decide, by decide⟩ (by decide)), do_t ⟨show (3 : Int) ≤ 3 by decide, show (3 : Int) ≤ 5 by decide⟩]
          rw [turns_0q (i := (sIx z m.jb m.ep m.st).toNat) (by show sIx z m.jb m.ep m.st = _; omega) rfl ((b2.2.symm.trans b1.2).trans (if_neg (show ¬ (3 : Int) = 5 by decide)).symm)]
        · split
          · show (abortA z m).has = true → (applyM z (abortA z m).rc).2 = 0
            unfold abortA
            repeat' split
            all_goals first | (intro h; exact Bool.noConfusion h) | skip
            · rename_i a1
              intro _
              have b1 := phS_ a1
              have b2 := sx_pos b1.1
              rw [show ({ wrM m 4 0 with kil := true } : Ac).rc = (wrM m 4 0).rc from rfl, apply_ok (okW 4 0 hm ⟨by decide, by decide⟩ ⟨by decide, by decide⟩ (by decide)), do_t ⟨show (3 : Int) ≤ 4 by decide, show (4 : Int) ≤ 5 by decide⟩]
              rw [turns_0q (i := (sIx z m.jb m.ep m.st).toNat) (by show sIx z m.jb m.ep m.st = _; omega) rfl ((b2.2.symm.trans b1.2).trans (if_neg (show ¬ (4 : Int) = 5 by decide)).symm)]
            · rename_i a1 a2
              intro _
              rw [Bool.and_eq_true] at a2
              have b3 : hasS z m = false := by simpa using a2.1
              have b4 := upJ a2.2
              rw [apply_ok (okW 2 0 hm ⟨by decide, by decide⟩ ⟨by decide, by decide⟩ (by decide)), do_b (.inr rfl), begins_0]
              · intro hx
                have b5 := b4.1
                unfold hasJ at b5
                rw [show (findM z m.jb m.ep).2 = false from hx] at b5
                cases b5
              · exact fun hx => hx b4.2
              · have := sx_neg b3
                show ¬ 0 ≤ sIx z m.jb m.ep m.st
                omega
              · refine any_f (d := S0) fun k hk => ?_
                refine any_f (d := 0) fun j hj => ?_
                exact decide_eq_false (by simp [wrM])
          · split
            · intro h; exact Bool.noConfusion h
            · split
              · show (finishA id z m f).has = true → (applyM z (finishA id z m f).rc).2 = 0
                unfold finishA
                repeat' split
                all_goals first | (intro h; exact Bool.noConfusion h) | skip
                · rename_i a1 a2
                  intro _
                  have b2 : nwM z m = false := by cases hx : nwM z m; rfl; exact absurd (.inr ⟨a2, hx⟩) a1
                  rw [show (anM id m (wrM m 7 0) 9 0).rc = (wrM m 7 0).rc from rfl, apply_ok (okW 7 0 hm ⟨by decide, by decide⟩ ⟨by decide, by decide⟩ (by decide)), do_7 rfl, void_0 (newM_f a2 b2)]
                · rename_i a1 a2 a3
                  intro _
                  have b1 : hasJ z m = true := by simpa using a2
                  have b2 := jx_pos b1
                  have b3 : ¬ phJ z m = 2 := fun hx => a1 (.inl ⟨b1, hx⟩)
                  have b4 : aliveM z m.jb m.ep = false := by cases hx : aliveM z m.jb m.ep; rfl; exact absurd (.inl hx) a3
                  rw [show (anM id m (wrM m 6 f.cd) 9 (mn1 f.cd)).rc = (wrM m 6 f.cd).rc from rfl, apply_ok (okW 6 f.cd hm ⟨by decide, by decide⟩ hcd (by decide)), do_6 rfl, epilog_0 (i := (jIx z m.jb m.ep).toNat) (by show jIx z m.jb m.ep = _; omega) (by rw [← b2.2]; exact b3) b4]
              · intro h; exact Bool.noConfusion h
theorem quiet_has {id : Int} {z : Z} {m : M} {f : Fc} (h : (decideM id z m f).2 ≠ 0) : (decideM id z m f).1.has = false := by
  revert h
  unfold decideM
  repeat' split
  all_goals first | (intro _; rfl) | (intro h; exact absurd rfl h)
theorem foldN {l : List R} : ∀ {z : Z} {n : Nat}, fewN n z → (∀ r ∈ l, r.ls.length ≤ 100000) → fewN (n + l.length) (foldM z l).1 := by
  induction l with
  | nil => intro z n h _; exact h
  | cons r l ih =>
    intro z n h hl
    unfold foldM
    split
    · have := ih (h.next (hl r List.mem_cons_self)) (fun x hx => hl x (List.mem_cons_of_mem _ hx))
      rw [List.length_cons, show n + (l.length + 1) = n + 1 + l.length by omega]
      exact this
    · exact ⟨Nat.le_trans h.j (by omega), Nat.le_trans h.s (by omega), h.p⟩
theorem fold_few {l : List R} (h : l.length ≤ 40) (hl : ∀ i, i < l.length → (l.getD i R0).ls.length ≤ 40) : few (foldM Z0 l).1 ∧ ∀ r ∈ l, r.ls.length ≤ 100000 := by
  have h2 : ∀ r ∈ l, r.ls.length ≤ 100000 := fun r hr => by
    obtain ⟨i, hi, rfl⟩ := List.getElem_of_mem hr
    have := hl i hi
    rw [List.getD_eq_getElem?_getD, List.getElem?_eq_getElem hi] at this
    exact Nat.le_trans this (by decide)
  exact ⟨(foldN fewN0 h2).few (by omega), h2⟩
theorem decide_few2 {id : Int} {z : Z} {m : M} {f : Fc} : (decideM id z m f).1.rc.ls.length ≤ f.ps.length := by
  unfold decideM prologA launchA releaseA abortA finishA
  repeat' split
  all_goals first | exact Nat.zero_le _ | exact Nat.le_refl _
theorem errCase (e : Int) (b : Bool) : ¬ e = 0 ∨ (e = 0 ∧ b = false) ∨ (e = 0 ∧ b = true) := by
  cases b <;> by_cases h : e = 0 <;> simp [h]
theorem first8 (P0 P1 P2 P3 P4 P5 P6 P7 : Prop) : (¬ P0) ∨ (P0 ∧ ¬ P1) ∨ (P0 ∧ P1 ∧ ¬ P2) ∨ (P0 ∧ P1 ∧ P2 ∧ ¬ P3) ∨ (P0 ∧ P1 ∧ P2 ∧ P3 ∧ ¬ P4) ∨ (P0 ∧ P1 ∧ P2 ∧ P3 ∧ P4 ∧ ¬ P5) ∨ (P0 ∧ P1 ∧ P2 ∧ P3 ∧ P4 ∧ P5 ∧ ¬ P6) ∨ (P0 ∧ P1 ∧ P2 ∧ P3 ∧ P4 ∧ P5 ∧ P6 ∧ ¬ P7) ∨ (P0 ∧ P1 ∧ P2 ∧ P3 ∧ P4 ∧ P5 ∧ P6 ∧ P7) := by
  by_cases h0 : P0
  · by_cases h1 : P1
    · by_cases h2 : P2
      · by_cases h3 : P3
        · by_cases h4 : P4
          · by_cases h5 : P5
            · by_cases h6 : P6
              · by_cases h7 : P7
                · exact .inr (.inr (.inr (.inr (.inr (.inr (.inr (.inr (⟨h0, h1, h2, h3, h4, h5, h6, h7⟩))))))))
                · exact .inr (.inr (.inr (.inr (.inr (.inr (.inr (.inl ⟨h0, h1, h2, h3, h4, h5, h6, h7⟩)))))))
              · exact .inr (.inr (.inr (.inr (.inr (.inr (.inl ⟨h0, h1, h2, h3, h4, h5, h6⟩))))))
            · exact .inr (.inr (.inr (.inr (.inr (.inl ⟨h0, h1, h2, h3, h4, h5⟩)))))
          · exact .inr (.inr (.inr (.inr (.inl ⟨h0, h1, h2, h3, h4⟩))))
        · exact .inr (.inr (.inr (.inl ⟨h0, h1, h2, h3⟩)))
      · exact .inr (.inr (.inl ⟨h0, h1, h2⟩))
    · exact .inr (.inl ⟨h0, h1⟩)
  · exact .inl h0

set_option maxRecDepth 100000 in
set_option maxHeartbeats 8000000 in
theorem fresh_c {W : World} {F : Snap} {cs : List Res} (w : World) {AJ AS : Option Addr} {cj cS : Nat} {z : Z} {Ap : Option Addr} {cp : Nat} {ps : List Int} (hz : few z) (h : St W F cs w) (hR : RdS KS F AS z.ss) (hf : RdS (Kd.one Vi) F Ap ps) (hn : ps.length ≤ 100000) : Calls Try.prog 22 #[.agg #[.slice AJ z.js.length cj, .slice AS z.ss.length cS, .bool z.dr], .slice Ap ps.length cp] w fun e w' => (∃ b, e = .returned (.bool b) ∧ (b = true → frM z ps)) ∧ St W F cs w'  := by
  refine enter (P := Try.prog) (args := [.agg #[.slice AJ z.js.length cj, .slice AS z.ss.length cS, .bool z.dr], .slice Ap ps.length cp]) Try.func22 rfl rfl rfl ?_
  refine WC.seq (WC.reg ?_)
  refine WL.box rfl h rfl ?_
  intro b2 w1 h1
  refine WL.v (Runs.assign rfl) rfl ?_
  refine WL.nil (WN.thn (WC.seq (WC.seq (WC.reg ?_))))
  refine WL.v (Runs.assign rfl) rfl ?_
  refine WL.nil (WN.thn (WC.block ?_))
  refine WC.loop (σ := Nat) (fun q_ => [(1, .slice Ap ps.length cp), (2, .pointer (some ⟨b2, 0, none⟩)), (5, .int .i64 (q_ : Int))]) (fun q_ w => q_ ≤ ps.length ∧ (∀ j, j < q_ → frAt ps j ∧ ∀ k, k < z.ss.length → ∀ m, m < (z.ss.getD k S0).ps.length → (z.ss.getD k S0).ps.getD m 0 ≠ ps.getD j 0) ∧ St W F ([(b2, .cells #[.slice AJ z.js.length cj, .slice AS z.ss.length cS, .bool z.dr] 25 (0, 0))] :: cs) w) (fun q_ => ps.length - q_) (0) (by repeat (first | exact trivial | refine ⟨rfl, ?_⟩)) (⟨Nat.zero_le _, fun j hj => absurd hj (Nat.not_lt_zero _), h1⟩) ?_
  rintro i w2 ⟨hi, hno, hL⟩
  try dsimp only at hi hno hL
  refine WC.sub (s := [(1, .slice Ap ps.length cp), (2, .pointer (some ⟨b2, 0, none⟩)), (5, .int .i64 (i : Int))]) (by repeat (first | exact trivial | refine ⟨rfl, ?_⟩)) ?_
  refine WC.seq (WC.seq (WC.reg ?_))
  refine WL.v (Runs.move rfl) rfl ?_
  refine WL.v (Runs.move rfl) rfl ?_
  refine WL.v (Runs.llen Try.underlying29 rfl rfl) rfl ?_
  refine WL.v (Runs.lss rfl rfl) rfl ?_
  refine WL.nil (WN.thn ?_)
  refine WC.cond rfl (fun c3 => ?_) (fun c3 => ?_)
  · try simp only [dt, df, nt, nf, ba, il, ie] at c3
    first
    | (exfalso; omega)
    | skip
      refine WC.skip (WN.thn (WC.seq (WC.block (WC.seq (WC.seq ?_)))))
      have hzs := hz.s
      have hi2 : i < ps.length := by omega
      obtain ⟨ap, rfl, hrp⟩ := rd1 hf (by omega)
      rcases fresh4 ((ps.getD i 0) < 1) (1099511627776 < (ps.getD i 0)) (0 < i) ((ps.getD i 0) ≤ ps.getD (i - 1) 0) with q0 | ⟨q0, q1⟩ | ⟨q0, q1, q2⟩ | ⟨q0, q1, q2, q3⟩ | ⟨q0, q1, q2, q3⟩
      · skip
        refine WC.eregK hL hL (fun s_ => ([] : List Nat).any (Nat.beq s_)) mixed (by kernel_rfl) (fun hx => ?_)
        intro w4 h4
        refine WE.p0 hx 0 (by rfl) (fun w_ => Runs.move rfl) rfl ?_
        refine WE.p0 hx 1 (by rfl) (fun w_ => Runs.move rfl) rfl ?_
        refine WE.p0 hx 2 (by rfl) (fun w_ => Runs.lidxN Try.underlying29 inf3 rfl rfl (n := i) rfl (by omega)) rfl ?_
        refine WE.v0 12 hx 3 (by rfl) (fun w_ hE_ => Runs.loadR (f := Vi) (0 : Int) hE_ hrp (n := i) (by omega) Try.underlying3 rfl rfl) rfl ?_
        refine WE.p0 hx 4 (by rfl) (fun w_ => Runs.boolT (c := true) (Runs.lss rfl rfl) (by rw [decide_eq_true_eq]; omega)) rfl ?_
        refine WE.p0 hx 5 (by rfl) (fun w_ => Runs.move rfl) rfl ?_
        refine WE.o1 (j := 5) (b := false) hx 6 (by rfl) ⟨_, _, rfl, rfl, .inr rfl⟩ rfl ?_
        refine WE.o1 (j := 5) (b := false) hx 7 (by rfl) ⟨_, _, rfl, rfl, .inr rfl⟩ rfl ?_
        refine WE.o1 (j := 5) (b := false) hx 8 (by rfl) ⟨_, _, rfl, rfl, .inr rfl⟩ rfl ?_
        refine WE.o1 (j := 5) (b := false) hx 9 (by rfl) ⟨_, _, rfl, rfl, .inr rfl⟩ rfl ?_
        refine WE.o1 (j := 5) (b := false) hx 10 (by rfl) ⟨_, _, rfl, rfl, .inr rfl⟩ rfl ?_
        refine WE.p0 hx 11 (by rfl) (fun w_ => Runs.pick rfl rfl rfl) rfl ?_
        refine WE.p0 hx 12 (by rfl) (fun w_ => Runs.move rfl) rfl ?_
        refine WE.o1 (j := 12) (b := false) hx 13 (by rfl) ⟨_, _, rfl, rfl, .inr rfl⟩ rfl ?_
        refine WE.o1 (j := 12) (b := false) hx 14 (by rfl) ⟨_, _, rfl, rfl, .inr rfl⟩ rfl ?_
        refine WE.o1 (j := 12) (b := false) hx 15 (by rfl) ⟨_, _, rfl, rfl, .inr rfl⟩ rfl ?_
        refine WE.o1 (j := 15) (b := true) hx 16 (by rfl) ⟨_, _, rfl, rfl, .inl rfl⟩ rfl ?_
        refine WE.o1 (j := 15) (b := true) hx 17 (by rfl) ⟨_, _, rfl, rfl, .inl rfl⟩ rfl ?_
        refine WE.o1 (j := 15) (b := true) hx 18 (by rfl) ⟨_, _, rfl, rfl, .inl rfl⟩ rfl ?_
        refine WE.o1 (j := 15) (b := true) hx 19 (by rfl) ⟨_, _, rfl, rfl, .inl rfl⟩ rfl ?_
        refine WE.o1 (j := 15) (b := true) hx 20 (by rfl) ⟨_, _, rfl, rfl, .inl rfl⟩ rfl ?_
        refine WE.o1 (j := 15) (b := true) hx 21 (by rfl) ⟨_, _, rfl, rfl, .inl rfl⟩ rfl ?_
        refine WE.o1 (j := 15) (b := true) hx 22 (by rfl) ⟨_, _, rfl, rfl, .inl rfl⟩ rfl ?_
        refine WE.o1 (j := 15) (b := true) hx 23 (by rfl) ⟨_, _, rfl, rfl, .inl rfl⟩ rfl ?_
        refine WE.o1 (j := 15) (b := true) hx 24 (by rfl) ⟨_, _, rfl, rfl, .inl rfl⟩ rfl ?_
        refine WE.o1 (j := 15) (b := true) hx 25 (by rfl) ⟨_, _, rfl, rfl, .inl rfl⟩ rfl ?_
        refine WE.o1 (j := 12) (b := false) hx 26 (by rfl) ⟨_, _, rfl, rfl, .inr rfl⟩ rfl ?_
        refine WE.p0 hx 27 (by rfl) (fun w_ => Runs.pick rfl rfl rfl) rfl ?_
        refine WE.fin (.inr h4) (by kernel_rfl) ?_
        refine WN.thn ?_
        refine WC.condT rfl (rfl) ?_
        refine WC.seq (WC.reg ?_)
        refine WL.v (Runs.assign rfl) rfl ?_
        refine WL.nil (WN.thn (WC.ret ?_))
        exact ret1 rfl rfl ⟨⟨false, rfl, fun hh => by cases hh⟩, h4.drop 0⟩
      · skip
        refine WC.eregK hL hL (fun s_ => ([] : List Nat).any (Nat.beq s_)) mixed (by kernel_rfl) (fun hx => ?_)
        intro w5 h5
        refine WE.p0 hx 0 (by rfl) (fun w_ => Runs.move rfl) rfl ?_
        refine WE.p0 hx 1 (by rfl) (fun w_ => Runs.move rfl) rfl ?_
        refine WE.p0 hx 2 (by rfl) (fun w_ => Runs.lidxN Try.underlying29 inf3 rfl rfl (n := i) rfl (by omega)) rfl ?_
        refine WE.v0 12 hx 3 (by rfl) (fun w_ hE_ => Runs.loadR (f := Vi) (0 : Int) hE_ hrp (n := i) (by omega) Try.underlying3 rfl rfl) rfl ?_
        refine WE.p0 hx 4 (by rfl) (fun w_ => Runs.boolT (c := false) (Runs.lss rfl rfl) (by rw [decide_eq_false_iff_not]; omega)) rfl ?_
        refine WE.p0 hx 5 (by rfl) (fun w_ => Runs.move rfl) rfl ?_
        refine WE.p1 (j := 5) (b := false) hx 6 (by rfl) ⟨_, _, rfl, rfl, rfl⟩ (fun w_ => Runs.move rfl) rfl ?_
        refine WE.p1 (j := 5) (b := false) hx 7 (by rfl) ⟨_, _, rfl, rfl, rfl⟩ (fun w_ => Runs.move rfl) rfl ?_
        refine WE.p1 (j := 5) (b := false) hx 8 (by rfl) ⟨_, _, rfl, rfl, rfl⟩ (fun w_ => Runs.lidxN Try.underlying29 inf3 rfl rfl (n := i) rfl (by omega)) rfl ?_
        refine WE.v1 (j := 5) (b := false) 12 hx 9 (by rfl) ⟨_, _, rfl, rfl, rfl⟩ (fun w_ hE_ => Runs.loadR (f := Vi) (0 : Int) hE_ hrp (n := i) (by omega) Try.underlying3 rfl rfl) rfl ?_
        refine WE.p1 (j := 5) (b := false) hx 10 (by rfl) ⟨_, _, rfl, rfl, rfl⟩ (fun w_ => Runs.boolT (c := true) (Runs.gtr rfl rfl) (by rw [decide_eq_true_eq]; omega)) rfl ?_
        refine WE.p0 hx 11 (by rfl) (fun w_ => Runs.pick rfl rfl rfl) rfl ?_
        refine WE.p0 hx 12 (by rfl) (fun w_ => Runs.move rfl) rfl ?_
        refine WE.o1 (j := 12) (b := false) hx 13 (by rfl) ⟨_, _, rfl, rfl, .inr rfl⟩ rfl ?_
        refine WE.o1 (j := 12) (b := false) hx 14 (by rfl) ⟨_, _, rfl, rfl, .inr rfl⟩ rfl ?_
        refine WE.o1 (j := 12) (b := false) hx 15 (by rfl) ⟨_, _, rfl, rfl, .inr rfl⟩ rfl ?_
        refine WE.o1 (j := 15) (b := true) hx 16 (by rfl) ⟨_, _, rfl, rfl, .inl rfl⟩ rfl ?_
        refine WE.o1 (j := 15) (b := true) hx 17 (by rfl) ⟨_, _, rfl, rfl, .inl rfl⟩ rfl ?_
        refine WE.o1 (j := 15) (b := true) hx 18 (by rfl) ⟨_, _, rfl, rfl, .inl rfl⟩ rfl ?_
        refine WE.o1 (j := 15) (b := true) hx 19 (by rfl) ⟨_, _, rfl, rfl, .inl rfl⟩ rfl ?_
        refine WE.o1 (j := 15) (b := true) hx 20 (by rfl) ⟨_, _, rfl, rfl, .inl rfl⟩ rfl ?_
        refine WE.o1 (j := 15) (b := true) hx 21 (by rfl) ⟨_, _, rfl, rfl, .inl rfl⟩ rfl ?_
        refine WE.o1 (j := 15) (b := true) hx 22 (by rfl) ⟨_, _, rfl, rfl, .inl rfl⟩ rfl ?_
        refine WE.o1 (j := 15) (b := true) hx 23 (by rfl) ⟨_, _, rfl, rfl, .inl rfl⟩ rfl ?_
        refine WE.o1 (j := 15) (b := true) hx 24 (by rfl) ⟨_, _, rfl, rfl, .inl rfl⟩ rfl ?_
        refine WE.o1 (j := 15) (b := true) hx 25 (by rfl) ⟨_, _, rfl, rfl, .inl rfl⟩ rfl ?_
        refine WE.o1 (j := 12) (b := false) hx 26 (by rfl) ⟨_, _, rfl, rfl, .inr rfl⟩ rfl ?_
        refine WE.p0 hx 27 (by rfl) (fun w_ => Runs.pick rfl rfl rfl) rfl ?_
        refine WE.fin (.inr h5) (by kernel_rfl) ?_
        refine WN.thn ?_
        refine WC.condT rfl (rfl) ?_
        refine WC.seq (WC.reg ?_)
        refine WL.v (Runs.assign rfl) rfl ?_
        refine WL.nil (WN.thn (WC.ret ?_))
        exact ret1 rfl rfl ⟨⟨false, rfl, fun hh => by cases hh⟩, h5.drop 0⟩
      · skip
        refine WC.eregK hL hL (fun s_ => ([] : List Nat).any (Nat.beq s_)) mixed (by kernel_rfl) (fun hx => ?_)
        intro w6 h6
        refine WE.p0 hx 0 (by rfl) (fun w_ => Runs.move rfl) rfl ?_
        refine WE.p0 hx 1 (by rfl) (fun w_ => Runs.move rfl) rfl ?_
        refine WE.p0 hx 2 (by rfl) (fun w_ => Runs.lidxN Try.underlying29 inf3 rfl rfl (n := i) rfl (by omega)) rfl ?_
        refine WE.v0 12 hx 3 (by rfl) (fun w_ hE_ => Runs.loadR (f := Vi) (0 : Int) hE_ hrp (n := i) (by omega) Try.underlying3 rfl rfl) rfl ?_
        refine WE.p0 hx 4 (by rfl) (fun w_ => Runs.boolT (c := false) (Runs.lss rfl rfl) (by rw [decide_eq_false_iff_not]; omega)) rfl ?_
        refine WE.p0 hx 5 (by rfl) (fun w_ => Runs.move rfl) rfl ?_
        refine WE.p1 (j := 5) (b := false) hx 6 (by rfl) ⟨_, _, rfl, rfl, rfl⟩ (fun w_ => Runs.move rfl) rfl ?_
        refine WE.p1 (j := 5) (b := false) hx 7 (by rfl) ⟨_, _, rfl, rfl, rfl⟩ (fun w_ => Runs.move rfl) rfl ?_
        refine WE.p1 (j := 5) (b := false) hx 8 (by rfl) ⟨_, _, rfl, rfl, rfl⟩ (fun w_ => Runs.lidxN Try.underlying29 inf3 rfl rfl (n := i) rfl (by omega)) rfl ?_
        refine WE.v1 (j := 5) (b := false) 12 hx 9 (by rfl) ⟨_, _, rfl, rfl, rfl⟩ (fun w_ hE_ => Runs.loadR (f := Vi) (0 : Int) hE_ hrp (n := i) (by omega) Try.underlying3 rfl rfl) rfl ?_
        refine WE.p1 (j := 5) (b := false) hx 10 (by rfl) ⟨_, _, rfl, rfl, rfl⟩ (fun w_ => Runs.boolT (c := false) (Runs.gtr rfl rfl) (by rw [decide_eq_false_iff_not]; omega)) rfl ?_
        refine WE.p0 hx 11 (by rfl) (fun w_ => Runs.pick rfl rfl rfl) rfl ?_
        refine WE.p0 hx 12 (by rfl) (fun w_ => Runs.move rfl) rfl ?_
        refine WE.p1 (j := 12) (b := false) hx 13 (by rfl) ⟨_, _, rfl, rfl, rfl⟩ (fun w_ => Runs.move rfl) rfl ?_
        refine WE.p1 (j := 12) (b := false) hx 14 (by rfl) ⟨_, _, rfl, rfl, rfl⟩ (fun w_ => Runs.boolT (c := false) (Runs.gtr rfl rfl) (by rw [decide_eq_false_iff_not]; omega)) rfl ?_
        refine WE.p1 (j := 12) (b := false) hx 15 (by rfl) ⟨_, _, rfl, rfl, rfl⟩ (fun w_ => Runs.move rfl) rfl ?_
        refine WE.o1 (j := 15) (b := true) hx 16 (by rfl) ⟨_, _, rfl, rfl, .inr rfl⟩ rfl ?_
        refine WE.o1 (j := 15) (b := true) hx 17 (by rfl) ⟨_, _, rfl, rfl, .inr rfl⟩ rfl ?_
        refine WE.o1 (j := 15) (b := true) hx 18 (by rfl) ⟨_, _, rfl, rfl, .inr rfl⟩ rfl ?_
        refine WE.o1 (j := 15) (b := true) hx 19 (by rfl) ⟨_, _, rfl, rfl, .inr rfl⟩ rfl ?_
        refine WE.o1 (j := 15) (b := true) hx 20 (by rfl) ⟨_, _, rfl, rfl, .inr rfl⟩ rfl ?_
        refine WE.o1 (j := 15) (b := true) hx 21 (by rfl) ⟨_, _, rfl, rfl, .inr rfl⟩ rfl ?_
        refine WE.o1 (j := 15) (b := true) hx 22 (by rfl) ⟨_, _, rfl, rfl, .inr rfl⟩ rfl ?_
        refine WE.o1 (j := 15) (b := true) hx 23 (by rfl) ⟨_, _, rfl, rfl, .inr rfl⟩ rfl ?_
        refine WE.o1 (j := 15) (b := true) hx 24 (by rfl) ⟨_, _, rfl, rfl, .inr rfl⟩ rfl ?_
        refine WE.o1 (j := 15) (b := true) hx 25 (by rfl) ⟨_, _, rfl, rfl, .inr rfl⟩ rfl ?_
        refine WE.p1 (j := 12) (b := false) hx 26 (by rfl) ⟨_, _, rfl, rfl, rfl⟩ (fun w_ => Runs.pick rfl rfl rfl) rfl ?_
        refine WE.p0 hx 27 (by rfl) (fun w_ => Runs.pick rfl rfl rfl) rfl ?_
        refine WE.fin (.inr h6) (by kernel_rfl) ?_
        refine WN.thn ?_
        refine WC.condF rfl (rfl) ?_
        refine WC.skip (WN.thn (WC.seq (WC.reg ?_)))
        refine WL.v (Runs.assign rfl) rfl ?_
        refine WL.nil (WN.thn (WC.block ?_))
        refine WC.loop (σ := Nat) (fun q_ => [(1, .slice (some ap) ps.length cp), (2, .pointer (some ⟨b2, 0, none⟩)), (5, .int .i64 (i : Int)), (6, .int .i64 (q_ : Int))]) (fun q_ w => q_ ≤ z.ss.length ∧ (∀ j, j < q_ → ∀ m, m < (z.ss.getD j S0).ps.length → (z.ss.getD j S0).ps.getD m 0 ≠ ps.getD i 0) ∧ St W F ([(b2, .cells #[.slice AJ z.js.length cj, .slice AS z.ss.length cS, .bool z.dr] 25 (0, 0))] :: cs) w) (fun q_ => z.ss.length - q_) (0) (by repeat (first | exact trivial | refine ⟨rfl, ?_⟩)) (⟨Nat.zero_le _, fun j hj => absurd hj (Nat.not_lt_zero _), h6⟩) ?_
        rintro k w7 ⟨hk, hnok, hL⟩
        try dsimp only at hk hnok hL
        refine WC.sub (s := [(1, .slice (some ap) ps.length cp), (2, .pointer (some ⟨b2, 0, none⟩)), (5, .int .i64 (i : Int)), (6, .int .i64 (k : Int))]) (by repeat (first | exact trivial | refine ⟨rfl, ?_⟩)) ?_
        refine WC.seq (WC.seq (WC.reg ?_))
        refine WL.v (Runs.move rfl) rfl ?_
        refine WL.v (Runs.fld fld25_1 rfl) rfl ?_
        refine WL.v (Runs.load1 Try.underlying23 rfl rfl (hL.ocell (i := 0) rfl rfl)) rfl ?_
        refine WL.v (Runs.llen Try.underlying23 rfl rfl) rfl ?_
        refine WL.v (Runs.lss rfl rfl) rfl ?_
        refine WL.nil (WN.thn ?_)
        refine WC.cond rfl (fun c8 => ?_) (fun c8 => ?_)
        · try simp only [dt, df, nt, nf, ba, il, ie] at c8
          first
          | (exfalso; omega)
          | skip
            refine WC.skip (WN.thn (WC.seq (WC.block (WC.seq ?_))))
            have hk2 : k < z.ss.length := by omega
            obtain ⟨ad, c, rfl, hc, hcell⟩ := hR.atD S0 hk2
            obtain ⟨A1, cap1, rfl, hps⟩ := hc
            have hpl := hz.p _ (memD S0 hk2)
            refine WC.reg ?_
            refine WL.v (Runs.assign rfl) rfl ?_
            refine WL.nil (WN.thn (WC.block ?_))
            refine WC.loop (σ := Nat) (fun q_ => [(1, .slice (some ap) ps.length cp), (2, .pointer (some ⟨b2, 0, none⟩)), (5, .int .i64 (i : Int)), (6, .int .i64 (k : Int)), (7, .int .i64 (q_ : Int))]) (fun q_ w => q_ ≤ (z.ss.getD k S0).ps.length ∧ (∀ j, j < q_ → (z.ss.getD k S0).ps.getD j 0 ≠ ps.getD i 0) ∧ St W F ([(b2, .cells #[.slice AJ z.js.length cj, .slice (some ad) z.ss.length cS, .bool z.dr] 25 (0, 0))] :: cs) w) (fun q_ => (z.ss.getD k S0).ps.length - q_) (0) (by repeat (first | exact trivial | refine ⟨rfl, ?_⟩)) (⟨Nat.zero_le _, fun j hj => absurd hj (Nat.not_lt_zero _), hL⟩) ?_
            rintro m w9 ⟨hm, hnom, hL⟩
            try dsimp only at hm hnom hL
            refine WC.sub (s := [(1, .slice (some ap) ps.length cp), (2, .pointer (some ⟨b2, 0, none⟩)), (5, .int .i64 (i : Int)), (6, .int .i64 (k : Int)), (7, .int .i64 (m : Int))]) (by repeat (first | exact trivial | refine ⟨rfl, ?_⟩)) ?_
            refine WC.seq (WC.seq (WC.reg ?_))
            refine WL.v (Runs.move rfl) rfl ?_
            refine WL.v (Runs.fld fld25_1 rfl) rfl ?_
            refine WL.v (Runs.load1 Try.underlying23 rfl rfl (hL.ocell (i := 0) rfl rfl)) rfl ?_
            refine WL.v (Runs.move rfl) rfl ?_
            refine WL.v (Runs.lidxK Try.underlying23 inf79 rfl rfl (n := k) rfl hk2) rfl ?_
            refine WL.v (Runs.fld fld79_5 rfl) rfl ?_
            refine WL.v (Runs.fldKF (n := k) hL hcell Try.underlying29 rfl rfl rfl) rfl ?_
            refine WL.v (Runs.llen Try.underlying29 rfl rfl) rfl ?_
            refine WL.v (Runs.lss rfl rfl) rfl ?_
            refine WL.nil (WN.thn ?_)
            refine WC.cond rfl (fun c10 => ?_) (fun c10 => ?_)
            · try simp only [dt, df, nt, nf, ba, il, ie] at c10
              first
              | (exfalso; omega)
              | skip
                refine WC.skip (WN.thn (WC.seq (WC.block (WC.seq ?_))))
                have hm2 : m < (z.ss.getD k S0).ps.length := by omega
                obtain ⟨as1, rfl, hrs⟩ := rd1 hps (by omega)
                refine WC.eregK hL hL (fun s_ => ([] : List Nat).any (Nat.beq s_)) mixed (by kernel_rfl) (fun hx => ?_)
                intro w11 h11
                refine WE.p0 hx 0 (by rfl) (fun w_ => Runs.fld fld25_1 rfl) rfl ?_
                refine WE.p0 hx 2 (by rfl) (fun w_ => Runs.move rfl) rfl ?_
                refine WE.p0 hx 6 (by rfl) (fun w_ => Runs.move rfl) rfl ?_
                refine WE.p0 hx 9 (by rfl) (fun w_ => Runs.move rfl) rfl ?_
                refine WE.p0 hx 10 (by rfl) (fun w_ => Runs.move rfl) rfl ?_
                refine WE.p0 hx 11 (by rfl) (fun w_ => Runs.lidxN Try.underlying29 inf3 rfl rfl (n := i) rfl (by omega)) rfl ?_
                refine WE.v0 12 hx 1 (by rfl) (fun w_ hE_ => Runs.load1 Try.underlying23 rfl rfl (hE_.ocell (i := 0) rfl rfl)) rfl ?_
                refine WE.p0 hx 3 (by rfl) (fun w_ => Runs.lidxK Try.underlying23 inf79 rfl rfl (n := k) rfl hk2) rfl ?_
                refine WE.p0 hx 4 (by rfl) (fun w_ => Runs.fld fld79_5 rfl) rfl ?_
                refine WE.v0 12 hx 5 (by rfl) (fun w_ hE_ => Runs.fldKF (n := k) hE_ hcell Try.underlying29 rfl rfl rfl) rfl ?_
                refine WE.p0 hx 7 (by rfl) (fun w_ => Runs.lidxN Try.underlying29 inf3 rfl rfl (n := m) rfl (by omega)) rfl ?_
                refine WE.v0 12 hx 8 (by rfl) (fun w_ hE_ => Runs.loadR (f := Vi) (0 : Int) hE_ hrs (n := m) hm2 Try.underlying3 rfl rfl) rfl ?_
                refine WE.v0 12 hx 12 (by rfl) (fun w_ hE_ => Runs.loadR (f := Vi) (0 : Int) hE_ hrp (n := i) (by omega) Try.underlying3 rfl rfl) rfl ?_
                refine WE.p0 hx 13 (by rfl) (fun w_ => Runs.eql rfl rfl) rfl ?_
                refine WE.fin (.inr h11) (by kernel_rfl) ?_
                refine WN.thn ?_
                refine WC.cond rfl (fun c12 => ?_) (fun c12 => ?_)
                · try simp only [dt, df, nt, nf, ba, il, ie] at c12
                  first
                  | (exfalso; omega)
                  | skip
                    refine WC.seq (WC.reg ?_)
                    refine WL.v (Runs.assign rfl) rfl ?_
                    refine WL.nil (WN.thn (WC.ret ?_))
                    exact ret1 rfl rfl ⟨⟨false, rfl, fun hh => by cases hh⟩, h11.drop 0⟩
                · try simp only [dt, df, nt, nf, ba, il, ie] at c12
                  first
                  | (exfalso; omega)
                  | skip
                    refine WC.skip (WN.blk (WN.thn (WC.reg ?_)))
                    refine WL.v (Runs.move rfl) rfl ?_
                    refine WL.v (Runs.addn rfl rfl (by omega)) rfl ?_
                    refine WL.v (Runs.assign rfl) rfl ?_
                    refine WL.nil ?_
                    exact WN.again (m + 1) (by omega) ⟨rfl, rfl, rfl, rfl, rfl, trivial⟩ ⟨by omega, fun j hj => (by
                      by_cases e : j = m
                      · subst e; exact c12
                      · exact hnom j (by omega)), h11⟩
            · try simp only [dt, df, nt, nf, ba, il, ie] at c10
              first
              | (exfalso; omega)
              | skip
                refine WC.exit (WX.thn (WX.cut (WX.hit (WN.blk (WN.thn ?_)))))
                refine WC.reg ?_
                refine WL.v (Runs.move rfl) rfl ?_
                refine WL.v (Runs.addn rfl rfl (by omega)) rfl ?_
                refine WL.v (Runs.assign rfl) rfl ?_
                refine WL.nil ?_
                exact WN.again (k + 1) (by omega) ⟨rfl, rfl, rfl, rfl, trivial⟩ ⟨by omega, fun j hj => (by
                  by_cases e : j = k
                  · subst e; exact fun m' hm' => hnom m' (by omega)
                  · exact hnok j (by omega)), hL⟩
        · try simp only [dt, df, nt, nf, ba, il, ie] at c8
          first
          | (exfalso; omega)
          | skip
            refine WC.exit (WX.thn (WX.cut (WX.hit (WN.blk (WN.thn ?_)))))
            refine WC.reg ?_
            refine WL.v (Runs.move rfl) rfl ?_
            refine WL.v (Runs.addn rfl rfl (by omega)) rfl ?_
            refine WL.v (Runs.assign rfl) rfl ?_
            refine WL.nil ?_
            exact WN.again (i + 1) (by omega) ⟨rfl, rfl, rfl, trivial⟩ ⟨by omega, fun j hj => (by
              by_cases e : j = i
              · subst e; exact ⟨⟨q0, q1, by omega⟩, fun k' hk' => hnok k' (by omega)⟩
              · exact hno j (by omega)), hL⟩
      · skip
        refine WC.eregK hL hL (fun s_ => ([] : List Nat).any (Nat.beq s_)) mixed (by kernel_rfl) (fun hx => ?_)
        intro w13 h13
        refine WE.p0 hx 0 (by rfl) (fun w_ => Runs.move rfl) rfl ?_
        refine WE.p0 hx 1 (by rfl) (fun w_ => Runs.move rfl) rfl ?_
        refine WE.p0 hx 2 (by rfl) (fun w_ => Runs.lidxN Try.underlying29 inf3 rfl rfl (n := i) rfl (by omega)) rfl ?_
        refine WE.v0 12 hx 3 (by rfl) (fun w_ hE_ => Runs.loadR (f := Vi) (0 : Int) hE_ hrp (n := i) (by omega) Try.underlying3 rfl rfl) rfl ?_
        refine WE.p0 hx 4 (by rfl) (fun w_ => Runs.boolT (c := false) (Runs.lss rfl rfl) (by rw [decide_eq_false_iff_not]; omega)) rfl ?_
        refine WE.p0 hx 5 (by rfl) (fun w_ => Runs.move rfl) rfl ?_
        refine WE.p1 (j := 5) (b := false) hx 6 (by rfl) ⟨_, _, rfl, rfl, rfl⟩ (fun w_ => Runs.move rfl) rfl ?_
        refine WE.p1 (j := 5) (b := false) hx 7 (by rfl) ⟨_, _, rfl, rfl, rfl⟩ (fun w_ => Runs.move rfl) rfl ?_
        refine WE.p1 (j := 5) (b := false) hx 8 (by rfl) ⟨_, _, rfl, rfl, rfl⟩ (fun w_ => Runs.lidxN Try.underlying29 inf3 rfl rfl (n := i) rfl (by omega)) rfl ?_
        refine WE.v1 (j := 5) (b := false) 12 hx 9 (by rfl) ⟨_, _, rfl, rfl, rfl⟩ (fun w_ hE_ => Runs.loadR (f := Vi) (0 : Int) hE_ hrp (n := i) (by omega) Try.underlying3 rfl rfl) rfl ?_
        refine WE.p1 (j := 5) (b := false) hx 10 (by rfl) ⟨_, _, rfl, rfl, rfl⟩ (fun w_ => Runs.boolT (c := false) (Runs.gtr rfl rfl) (by rw [decide_eq_false_iff_not]; omega)) rfl ?_
        refine WE.p0 hx 11 (by rfl) (fun w_ => Runs.pick rfl rfl rfl) rfl ?_
        refine WE.p0 hx 12 (by rfl) (fun w_ => Runs.move rfl) rfl ?_
        refine WE.p1 (j := 12) (b := false) hx 13 (by rfl) ⟨_, _, rfl, rfl, rfl⟩ (fun w_ => Runs.move rfl) rfl ?_
        refine WE.p1 (j := 12) (b := false) hx 14 (by rfl) ⟨_, _, rfl, rfl, rfl⟩ (fun w_ => Runs.boolT (c := true) (Runs.gtr rfl rfl) (by rw [decide_eq_true_eq]; omega)) rfl ?_
        refine WE.p1 (j := 12) (b := false) hx 15 (by rfl) ⟨_, _, rfl, rfl, rfl⟩ (fun w_ => Runs.move rfl) rfl ?_
        refine WE.p1 (j := 15) (b := true) hx 16 (by rfl) ⟨_, _, rfl, rfl, rfl⟩ (fun w_ => Runs.move rfl) rfl ?_
        refine WE.p1 (j := 15) (b := true) hx 17 (by rfl) ⟨_, _, rfl, rfl, rfl⟩ (fun w_ => Runs.move rfl) rfl ?_
        refine WE.p1 (j := 15) (b := true) hx 18 (by rfl) ⟨_, _, rfl, rfl, rfl⟩ (fun w_ => Runs.lidxN Try.underlying29 inf3 rfl rfl (n := i) rfl (by omega)) rfl ?_
        refine WE.p1 (j := 15) (b := true) hx 20 (by rfl) ⟨_, _, rfl, rfl, rfl⟩ (fun w_ => Runs.move rfl) rfl ?_
        refine WE.p1 (j := 15) (b := true) hx 21 (by rfl) ⟨_, _, rfl, rfl, rfl⟩ (fun w_ => Runs.move rfl) rfl ?_
        refine WE.p1 (j := 15) (b := true) hx 22 (by rfl) ⟨_, _, rfl, rfl, rfl⟩ (fun w_ => Runs.subn rfl rfl (by omega)) rfl ?_
        refine WE.p1 (j := 15) (b := true) hx 23 (by rfl) ⟨_, _, rfl, rfl, rfl⟩ (fun w_ => Runs.lidxN Try.underlying29 inf3 rfl rfl (n := i - 1) (by omega) (by omega)) rfl ?_
        refine WE.v1 (j := 15) (b := true) 12 hx 19 (by rfl) ⟨_, _, rfl, rfl, rfl⟩ (fun w_ hE_ => Runs.loadR (f := Vi) (0 : Int) hE_ hrp (n := i) (by omega) Try.underlying3 rfl rfl) rfl ?_
        refine WE.v1 (j := 15) (b := true) 12 hx 24 (by rfl) ⟨_, _, rfl, rfl, rfl⟩ (fun w_ hE_ => Runs.loadR (f := Vi) (0 : Int) hE_ hrp (n := i - 1) (by omega) Try.underlying3 rfl rfl) rfl ?_
        refine WE.p1 (j := 15) (b := true) hx 25 (by rfl) ⟨_, _, rfl, rfl, rfl⟩ (fun w_ => Runs.boolT (c := true) (Runs.leq rfl rfl) (by rw [decide_eq_true_eq]; omega)) rfl ?_
        refine WE.p1 (j := 12) (b := false) hx 26 (by rfl) ⟨_, _, rfl, rfl, rfl⟩ (fun w_ => Runs.pick rfl rfl rfl) rfl ?_
        refine WE.p0 hx 27 (by rfl) (fun w_ => Runs.pick rfl rfl rfl) rfl ?_
        refine WE.fin (.inr h13) (by kernel_rfl) ?_
        refine WN.thn ?_
        refine WC.condT rfl (rfl) ?_
        refine WC.seq (WC.reg ?_)
        refine WL.v (Runs.assign rfl) rfl ?_
        refine WL.nil (WN.thn (WC.ret ?_))
        exact ret1 rfl rfl ⟨⟨false, rfl, fun hh => by cases hh⟩, h13.drop 0⟩
      · skip
        refine WC.eregK hL hL (fun s_ => ([] : List Nat).any (Nat.beq s_)) mixed (by kernel_rfl) (fun hx => ?_)
        intro w14 h14
        refine WE.p0 hx 0 (by rfl) (fun w_ => Runs.move rfl) rfl ?_
        refine WE.p0 hx 1 (by rfl) (fun w_ => Runs.move rfl) rfl ?_
        refine WE.p0 hx 2 (by rfl) (fun w_ => Runs.lidxN Try.underlying29 inf3 rfl rfl (n := i) rfl (by omega)) rfl ?_
        refine WE.v0 12 hx 3 (by rfl) (fun w_ hE_ => Runs.loadR (f := Vi) (0 : Int) hE_ hrp (n := i) (by omega) Try.underlying3 rfl rfl) rfl ?_
        refine WE.p0 hx 4 (by rfl) (fun w_ => Runs.boolT (c := false) (Runs.lss rfl rfl) (by rw [decide_eq_false_iff_not]; omega)) rfl ?_
        refine WE.p0 hx 5 (by rfl) (fun w_ => Runs.move rfl) rfl ?_
        refine WE.p1 (j := 5) (b := false) hx 6 (by rfl) ⟨_, _, rfl, rfl, rfl⟩ (fun w_ => Runs.move rfl) rfl ?_
        refine WE.p1 (j := 5) (b := false) hx 7 (by rfl) ⟨_, _, rfl, rfl, rfl⟩ (fun w_ => Runs.move rfl) rfl ?_
        refine WE.p1 (j := 5) (b := false) hx 8 (by rfl) ⟨_, _, rfl, rfl, rfl⟩ (fun w_ => Runs.lidxN Try.underlying29 inf3 rfl rfl (n := i) rfl (by omega)) rfl ?_
        refine WE.v1 (j := 5) (b := false) 12 hx 9 (by rfl) ⟨_, _, rfl, rfl, rfl⟩ (fun w_ hE_ => Runs.loadR (f := Vi) (0 : Int) hE_ hrp (n := i) (by omega) Try.underlying3 rfl rfl) rfl ?_
        refine WE.p1 (j := 5) (b := false) hx 10 (by rfl) ⟨_, _, rfl, rfl, rfl⟩ (fun w_ => Runs.boolT (c := false) (Runs.gtr rfl rfl) (by rw [decide_eq_false_iff_not]; omega)) rfl ?_
        refine WE.p0 hx 11 (by rfl) (fun w_ => Runs.pick rfl rfl rfl) rfl ?_
        refine WE.p0 hx 12 (by rfl) (fun w_ => Runs.move rfl) rfl ?_
        refine WE.p1 (j := 12) (b := false) hx 13 (by rfl) ⟨_, _, rfl, rfl, rfl⟩ (fun w_ => Runs.move rfl) rfl ?_
        refine WE.p1 (j := 12) (b := false) hx 14 (by rfl) ⟨_, _, rfl, rfl, rfl⟩ (fun w_ => Runs.boolT (c := true) (Runs.gtr rfl rfl) (by rw [decide_eq_true_eq]; omega)) rfl ?_
        refine WE.p1 (j := 12) (b := false) hx 15 (by rfl) ⟨_, _, rfl, rfl, rfl⟩ (fun w_ => Runs.move rfl) rfl ?_
        refine WE.p1 (j := 15) (b := true) hx 16 (by rfl) ⟨_, _, rfl, rfl, rfl⟩ (fun w_ => Runs.move rfl) rfl ?_
        refine WE.p1 (j := 15) (b := true) hx 17 (by rfl) ⟨_, _, rfl, rfl, rfl⟩ (fun w_ => Runs.move rfl) rfl ?_
        refine WE.p1 (j := 15) (b := true) hx 18 (by rfl) ⟨_, _, rfl, rfl, rfl⟩ (fun w_ => Runs.lidxN Try.underlying29 inf3 rfl rfl (n := i) rfl (by omega)) rfl ?_
        refine WE.p1 (j := 15) (b := true) hx 20 (by rfl) ⟨_, _, rfl, rfl, rfl⟩ (fun w_ => Runs.move rfl) rfl ?_
        refine WE.p1 (j := 15) (b := true) hx 21 (by rfl) ⟨_, _, rfl, rfl, rfl⟩ (fun w_ => Runs.move rfl) rfl ?_
        refine WE.p1 (j := 15) (b := true) hx 22 (by rfl) ⟨_, _, rfl, rfl, rfl⟩ (fun w_ => Runs.subn rfl rfl (by omega)) rfl ?_
        refine WE.p1 (j := 15) (b := true) hx 23 (by rfl) ⟨_, _, rfl, rfl, rfl⟩ (fun w_ => Runs.lidxN Try.underlying29 inf3 rfl rfl (n := i - 1) (by omega) (by omega)) rfl ?_
        refine WE.v1 (j := 15) (b := true) 12 hx 19 (by rfl) ⟨_, _, rfl, rfl, rfl⟩ (fun w_ hE_ => Runs.loadR (f := Vi) (0 : Int) hE_ hrp (n := i) (by omega) Try.underlying3 rfl rfl) rfl ?_
        refine WE.v1 (j := 15) (b := true) 12 hx 24 (by rfl) ⟨_, _, rfl, rfl, rfl⟩ (fun w_ hE_ => Runs.loadR (f := Vi) (0 : Int) hE_ hrp (n := i - 1) (by omega) Try.underlying3 rfl rfl) rfl ?_
        refine WE.p1 (j := 15) (b := true) hx 25 (by rfl) ⟨_, _, rfl, rfl, rfl⟩ (fun w_ => Runs.boolT (c := false) (Runs.leq rfl rfl) (by rw [decide_eq_false_iff_not]; omega)) rfl ?_
        refine WE.p1 (j := 12) (b := false) hx 26 (by rfl) ⟨_, _, rfl, rfl, rfl⟩ (fun w_ => Runs.pick rfl rfl rfl) rfl ?_
        refine WE.p0 hx 27 (by rfl) (fun w_ => Runs.pick rfl rfl rfl) rfl ?_
        refine WE.fin (.inr h14) (by kernel_rfl) ?_
        refine WN.thn ?_
        refine WC.condF rfl (rfl) ?_
        refine WC.skip (WN.thn (WC.seq (WC.reg ?_)))
        refine WL.v (Runs.assign rfl) rfl ?_
        refine WL.nil (WN.thn (WC.block ?_))
        refine WC.loop (σ := Nat) (fun q_ => [(1, .slice (some ap) ps.length cp), (2, .pointer (some ⟨b2, 0, none⟩)), (5, .int .i64 (i : Int)), (6, .int .i64 (q_ : Int))]) (fun q_ w => q_ ≤ z.ss.length ∧ (∀ j, j < q_ → ∀ m, m < (z.ss.getD j S0).ps.length → (z.ss.getD j S0).ps.getD m 0 ≠ ps.getD i 0) ∧ St W F ([(b2, .cells #[.slice AJ z.js.length cj, .slice AS z.ss.length cS, .bool z.dr] 25 (0, 0))] :: cs) w) (fun q_ => z.ss.length - q_) (0) (by repeat (first | exact trivial | refine ⟨rfl, ?_⟩)) (⟨Nat.zero_le _, fun j hj => absurd hj (Nat.not_lt_zero _), h14⟩) ?_
        rintro k w15 ⟨hk, hnok, hL⟩
        try dsimp only at hk hnok hL
        refine WC.sub (s := [(1, .slice (some ap) ps.length cp), (2, .pointer (some ⟨b2, 0, none⟩)), (5, .int .i64 (i : Int)), (6, .int .i64 (k : Int))]) (by repeat (first | exact trivial | refine ⟨rfl, ?_⟩)) ?_
        refine WC.seq (WC.seq (WC.reg ?_))
        refine WL.v (Runs.move rfl) rfl ?_
        refine WL.v (Runs.fld fld25_1 rfl) rfl ?_
        refine WL.v (Runs.load1 Try.underlying23 rfl rfl (hL.ocell (i := 0) rfl rfl)) rfl ?_
        refine WL.v (Runs.llen Try.underlying23 rfl rfl) rfl ?_
        refine WL.v (Runs.lss rfl rfl) rfl ?_
        refine WL.nil (WN.thn ?_)
        refine WC.cond rfl (fun c16 => ?_) (fun c16 => ?_)
        · try simp only [dt, df, nt, nf, ba, il, ie] at c16
          first
          | (exfalso; omega)
          | skip
            refine WC.skip (WN.thn (WC.seq (WC.block (WC.seq ?_))))
            have hk2 : k < z.ss.length := by omega
            obtain ⟨ad, c, rfl, hc, hcell⟩ := hR.atD S0 hk2
            obtain ⟨A1, cap1, rfl, hps⟩ := hc
            have hpl := hz.p _ (memD S0 hk2)
            refine WC.reg ?_
            refine WL.v (Runs.assign rfl) rfl ?_
            refine WL.nil (WN.thn (WC.block ?_))
            refine WC.loop (σ := Nat) (fun q_ => [(1, .slice (some ap) ps.length cp), (2, .pointer (some ⟨b2, 0, none⟩)), (5, .int .i64 (i : Int)), (6, .int .i64 (k : Int)), (7, .int .i64 (q_ : Int))]) (fun q_ w => q_ ≤ (z.ss.getD k S0).ps.length ∧ (∀ j, j < q_ → (z.ss.getD k S0).ps.getD j 0 ≠ ps.getD i 0) ∧ St W F ([(b2, .cells #[.slice AJ z.js.length cj, .slice (some ad) z.ss.length cS, .bool z.dr] 25 (0, 0))] :: cs) w) (fun q_ => (z.ss.getD k S0).ps.length - q_) (0) (by repeat (first | exact trivial | refine ⟨rfl, ?_⟩)) (⟨Nat.zero_le _, fun j hj => absurd hj (Nat.not_lt_zero _), hL⟩) ?_
            rintro m w17 ⟨hm, hnom, hL⟩
            try dsimp only at hm hnom hL
            refine WC.sub (s := [(1, .slice (some ap) ps.length cp), (2, .pointer (some ⟨b2, 0, none⟩)), (5, .int .i64 (i : Int)), (6, .int .i64 (k : Int)), (7, .int .i64 (m : Int))]) (by repeat (first | exact trivial | refine ⟨rfl, ?_⟩)) ?_
            refine WC.seq (WC.seq (WC.reg ?_))
            refine WL.v (Runs.move rfl) rfl ?_
            refine WL.v (Runs.fld fld25_1 rfl) rfl ?_
            refine WL.v (Runs.load1 Try.underlying23 rfl rfl (hL.ocell (i := 0) rfl rfl)) rfl ?_
            refine WL.v (Runs.move rfl) rfl ?_
            refine WL.v (Runs.lidxK Try.underlying23 inf79 rfl rfl (n := k) rfl hk2) rfl ?_
            refine WL.v (Runs.fld fld79_5 rfl) rfl ?_
            refine WL.v (Runs.fldKF (n := k) hL hcell Try.underlying29 rfl rfl rfl) rfl ?_
            refine WL.v (Runs.llen Try.underlying29 rfl rfl) rfl ?_
            refine WL.v (Runs.lss rfl rfl) rfl ?_
            refine WL.nil (WN.thn ?_)
            refine WC.cond rfl (fun c18 => ?_) (fun c18 => ?_)
            · try simp only [dt, df, nt, nf, ba, il, ie] at c18
              first
              | (exfalso; omega)
              | skip
                refine WC.skip (WN.thn (WC.seq (WC.block (WC.seq ?_))))
                have hm2 : m < (z.ss.getD k S0).ps.length := by omega
                obtain ⟨as1, rfl, hrs⟩ := rd1 hps (by omega)
                refine WC.eregK hL hL (fun s_ => ([] : List Nat).any (Nat.beq s_)) mixed (by kernel_rfl) (fun hx => ?_)
                intro w19 h19
                refine WE.p0 hx 0 (by rfl) (fun w_ => Runs.fld fld25_1 rfl) rfl ?_
                refine WE.p0 hx 2 (by rfl) (fun w_ => Runs.move rfl) rfl ?_
                refine WE.p0 hx 6 (by rfl) (fun w_ => Runs.move rfl) rfl ?_
                refine WE.p0 hx 9 (by rfl) (fun w_ => Runs.move rfl) rfl ?_
                refine WE.p0 hx 10 (by rfl) (fun w_ => Runs.move rfl) rfl ?_
                refine WE.p0 hx 11 (by rfl) (fun w_ => Runs.lidxN Try.underlying29 inf3 rfl rfl (n := i) rfl (by omega)) rfl ?_
                refine WE.v0 12 hx 1 (by rfl) (fun w_ hE_ => Runs.load1 Try.underlying23 rfl rfl (hE_.ocell (i := 0) rfl rfl)) rfl ?_
                refine WE.p0 hx 3 (by rfl) (fun w_ => Runs.lidxK Try.underlying23 inf79 rfl rfl (n := k) rfl hk2) rfl ?_
                refine WE.p0 hx 4 (by rfl) (fun w_ => Runs.fld fld79_5 rfl) rfl ?_
                refine WE.v0 12 hx 5 (by rfl) (fun w_ hE_ => Runs.fldKF (n := k) hE_ hcell Try.underlying29 rfl rfl rfl) rfl ?_
                refine WE.p0 hx 7 (by rfl) (fun w_ => Runs.lidxN Try.underlying29 inf3 rfl rfl (n := m) rfl (by omega)) rfl ?_
                refine WE.v0 12 hx 8 (by rfl) (fun w_ hE_ => Runs.loadR (f := Vi) (0 : Int) hE_ hrs (n := m) hm2 Try.underlying3 rfl rfl) rfl ?_
                refine WE.v0 12 hx 12 (by rfl) (fun w_ hE_ => Runs.loadR (f := Vi) (0 : Int) hE_ hrp (n := i) (by omega) Try.underlying3 rfl rfl) rfl ?_
                refine WE.p0 hx 13 (by rfl) (fun w_ => Runs.eql rfl rfl) rfl ?_
                refine WE.fin (.inr h19) (by kernel_rfl) ?_
                refine WN.thn ?_
                refine WC.cond rfl (fun c20 => ?_) (fun c20 => ?_)
                · try simp only [dt, df, nt, nf, ba, il, ie] at c20
                  first
                  | (exfalso; omega)
                  | skip
                    refine WC.seq (WC.reg ?_)
                    refine WL.v (Runs.assign rfl) rfl ?_
                    refine WL.nil (WN.thn (WC.ret ?_))
                    exact ret1 rfl rfl ⟨⟨false, rfl, fun hh => by cases hh⟩, h19.drop 0⟩
                · try simp only [dt, df, nt, nf, ba, il, ie] at c20
                  first
                  | (exfalso; omega)
                  | skip
                    refine WC.skip (WN.blk (WN.thn (WC.reg ?_)))
                    refine WL.v (Runs.move rfl) rfl ?_
                    refine WL.v (Runs.addn rfl rfl (by omega)) rfl ?_
                    refine WL.v (Runs.assign rfl) rfl ?_
                    refine WL.nil ?_
                    exact WN.again (m + 1) (by omega) ⟨rfl, rfl, rfl, rfl, rfl, trivial⟩ ⟨by omega, fun j hj => (by
                      by_cases e : j = m
                      · subst e; exact c20
                      · exact hnom j (by omega)), h19⟩
            · try simp only [dt, df, nt, nf, ba, il, ie] at c18
              first
              | (exfalso; omega)
              | skip
                refine WC.exit (WX.thn (WX.cut (WX.hit (WN.blk (WN.thn ?_)))))
                refine WC.reg ?_
                refine WL.v (Runs.move rfl) rfl ?_
                refine WL.v (Runs.addn rfl rfl (by omega)) rfl ?_
                refine WL.v (Runs.assign rfl) rfl ?_
                refine WL.nil ?_
                exact WN.again (k + 1) (by omega) ⟨rfl, rfl, rfl, rfl, trivial⟩ ⟨by omega, fun j hj => (by
                  by_cases e : j = k
                  · subst e; exact fun m' hm' => hnom m' (by omega)
                  · exact hnok j (by omega)), hL⟩
        · try simp only [dt, df, nt, nf, ba, il, ie] at c16
          first
          | (exfalso; omega)
          | skip
            refine WC.exit (WX.thn (WX.cut (WX.hit (WN.blk (WN.thn ?_)))))
            refine WC.reg ?_
            refine WL.v (Runs.move rfl) rfl ?_
            refine WL.v (Runs.addn rfl rfl (by omega)) rfl ?_
            refine WL.v (Runs.assign rfl) rfl ?_
            refine WL.nil ?_
            exact WN.again (i + 1) (by omega) ⟨rfl, rfl, rfl, trivial⟩ ⟨by omega, fun j hj => (by
              by_cases e : j = i
              · subst e; exact ⟨⟨q0, q1, by omega⟩, fun k' hk' => hnok k' (by omega)⟩
              · exact hno j (by omega)), hL⟩
  · try simp only [dt, df, nt, nf, ba, il, ie] at c3
    first
    | (exfalso; omega)
    | skip
      refine WC.exit (WX.thn (WX.cut (WX.hit (WN.thn (WC.seq ?_)))))
      refine WC.reg ?_
      refine WL.v (Runs.assign rfl) rfl ?_
      refine WL.nil (WN.thn (WC.ret ?_))
      exact ret1 rfl rfl ⟨⟨true, rfl, fun _ j hj => hno j (by omega)⟩, hL.drop 0⟩
set_option maxRecDepth 100000 in
set_option maxHeartbeats 16000000 in
theorem legal_law {W : World} {F : Snap} {cs : List Res} (w : World) {AJ AS : Option Addr} {cj cS : Nat} {z : Z} {m : M} {Ap : Option Addr} {cp : Nat} {f : Fc} {A : Option Addr} {cap : Nat} {l : List R} {id : Int} (h : St W F cs w) (hRl : RdS KR F A l) (hlm : l.length ≤ 9223372036854775807) (hf : RdS (Kd.one Vi) F Ap f.ps) (hfm : f.ps.length ≤ 9223372036854775807) : Calls Try.prog 5 #[.slice A l.length cap, .agg #[Vi id, .slice AJ z.js.length cj, .slice AS z.ss.length cS, .bool z.dr, Vi m.kd, Vi m.fr, Vi m.to, Vi m.jb, Vi m.ep, Vi m.st, Vi m.ar, .string m.tx, Vi f.cr, .slice Ap f.ps.length cp, Vi f.cd, .bool f.bz]] w fun e w' => e = .returned (.bool true) ∧ St W F cs w'  := by
  refine enter (P := Try.prog) (args := [.slice A l.length cap, .agg #[Vi id, .slice AJ z.js.length cj, .slice AS z.ss.length cS, .bool z.dr, Vi m.kd, Vi m.fr, Vi m.to, Vi m.jb, Vi m.ep, Vi m.st, Vi m.ar, .string m.tx, Vi f.cr, .slice Ap f.ps.length cp, Vi f.cd, .bool f.bz]]) Try.func5 rfl rfl rfl ?_
  have hleF := Le.refl F
  refine WC.seq (WC.reg ?_)
  refine WL.box rfl h rfl ?_
  intro b3 w1 h1
  refine WL.v (Runs.assign rfl) rfl ?_
  refine WL.nil (WN.thn (WC.seq (WC.seq ?_)))
  rcases first8 (¬ 40 < l.length) (¬ 40 < f.ps.length) (¬ m.jb < 0) (¬ 1099511627776 < m.jb) (¬ m.ep < 0) (¬ 1099511627776 < m.ep) (¬ m.st < 0) (¬ 1099511627776 < m.st) with q0 | ⟨q0, q1⟩ | ⟨q0, q1, q2⟩ | ⟨q0, q1, q2, q3⟩ | ⟨q0, q1, q2, q3, q4⟩ | ⟨q0, q1, q2, q3, q4, q5⟩ | ⟨q0, q1, q2, q3, q4, q5, q6⟩ | ⟨q0, q1, q2, q3, q4, q5, q6, q7⟩ | ⟨q0, q1, q2, q3, q4, q5, q6, q7⟩
  · skip
    refine WC.reg ?_
    refine WL.v (Runs.move rfl) rfl ?_
    refine WL.v (Runs.llen Try.underlying59 rfl rfl) rfl ?_
    refine WL.v (Runs.boolT (c := true) (Runs.gtr rfl rfl) (by rw [decide_eq_true_eq]; omega)) rfl ?_
    refine WL.v (Runs.move rfl) rfl ?_
    refine WL.goff rfl rfl rfl rfl ?_
    refine WL.goff rfl rfl rfl rfl ?_
    refine WL.goff rfl rfl rfl rfl ?_
    refine WL.goff rfl rfl rfl rfl ?_
    refine WL.goff rfl rfl rfl rfl ?_
    refine WL.v (Runs.pick rfl rfl rfl) rfl ?_
    refine WL.v (Runs.move rfl) rfl ?_
    refine WL.goff rfl rfl rfl rfl ?_
    refine WL.goff rfl rfl rfl rfl ?_
    refine WL.goff rfl rfl rfl rfl ?_
    refine WL.goff rfl rfl rfl rfl ?_
    refine WL.v (Runs.pick rfl rfl rfl) rfl ?_
    refine WL.v (Runs.move rfl) rfl ?_
    refine WL.goff rfl rfl rfl rfl ?_
    refine WL.goff rfl rfl rfl rfl ?_
    refine WL.goff rfl rfl rfl rfl ?_
    refine WL.goff rfl rfl rfl rfl ?_
    refine WL.v (Runs.pick rfl rfl rfl) rfl ?_
    refine WL.v (Runs.move rfl) rfl ?_
    refine WL.goff rfl rfl rfl rfl ?_
    refine WL.goff rfl rfl rfl rfl ?_
    refine WL.goff rfl rfl rfl rfl ?_
    refine WL.goff rfl rfl rfl rfl ?_
    refine WL.v (Runs.pick rfl rfl rfl) rfl ?_
    refine WL.v (Runs.move rfl) rfl ?_
    refine WL.goff rfl rfl rfl rfl ?_
    refine WL.goff rfl rfl rfl rfl ?_
    refine WL.goff rfl rfl rfl rfl ?_
    refine WL.goff rfl rfl rfl rfl ?_
    refine WL.v (Runs.pick rfl rfl rfl) rfl ?_
    refine WL.v (Runs.move rfl) rfl ?_
    refine WL.goff rfl rfl rfl rfl ?_
    refine WL.goff rfl rfl rfl rfl ?_
    refine WL.goff rfl rfl rfl rfl ?_
    refine WL.goff rfl rfl rfl rfl ?_
    refine WL.v (Runs.pick rfl rfl rfl) rfl ?_
    refine WL.v (Runs.move rfl) rfl ?_
    refine WL.goff rfl rfl rfl rfl ?_
    refine WL.goff rfl rfl rfl rfl ?_
    refine WL.goff rfl rfl rfl rfl ?_
    refine WL.goff rfl rfl rfl rfl ?_
    refine WL.v (Runs.pick rfl rfl rfl) rfl ?_
    refine WL.nil (WN.thn ?_)
    refine WC.condT rfl (rfl) ?_
    refine WC.seq (WC.reg ?_)
    refine WL.call can10 rfl rfl (live_c _ h1) ?_
    rintro _ w2 ⟨G58, hG58, rfl, h2⟩
    refine ⟨_, rfl, ?_⟩
    replace hleF := Le.trans hleF hG58
    replace hf := hf.mono hG58
    refine WL.v (Runs.assign rfl) rfl ?_
    refine WL.nil (WN.thn (WC.ret ?_))
    exact ret1 rfl rfl ⟨rfl, ((h2.drop 0)).weak hleF⟩
  · skip
    refine WC.reg ?_
    refine WL.v (Runs.move rfl) rfl ?_
    refine WL.v (Runs.llen Try.underlying59 rfl rfl) rfl ?_
    refine WL.v (Runs.boolT (c := false) (Runs.gtr rfl rfl) (by rw [decide_eq_false_iff_not]; omega)) rfl ?_
    refine WL.v (Runs.move rfl) rfl ?_
    refine WL.gon rfl rfl rfl ?_
    refine WL.v (Runs.fld fld33_3 rfl) rfl ?_
    refine WL.gon rfl rfl rfl ?_
    refine WL.v (Runs.fld fld31_1 rfl) rfl ?_
    refine WL.gon rfl rfl rfl ?_
    refine WL.v (Runs.load1 Try.underlying29 rfl rfl (h1.ocell (i := 0) rfl rfl)) rfl ?_
    refine WL.gon rfl rfl rfl ?_
    refine WL.v (Runs.llen Try.underlying29 rfl rfl) rfl ?_
    refine WL.gon rfl rfl rfl ?_
    refine WL.v (Runs.boolT (c := true) (Runs.gtr rfl rfl) (by rw [decide_eq_true_eq]; omega)) rfl ?_
    refine WL.v (Runs.pick rfl rfl rfl) rfl ?_
    refine WL.v (Runs.move rfl) rfl ?_
    refine WL.goff rfl rfl rfl rfl ?_
    refine WL.goff rfl rfl rfl rfl ?_
    refine WL.goff rfl rfl rfl rfl ?_
    refine WL.goff rfl rfl rfl rfl ?_
    refine WL.v (Runs.pick rfl rfl rfl) rfl ?_
    refine WL.v (Runs.move rfl) rfl ?_
    refine WL.goff rfl rfl rfl rfl ?_
    refine WL.goff rfl rfl rfl rfl ?_
    refine WL.goff rfl rfl rfl rfl ?_
    refine WL.goff rfl rfl rfl rfl ?_
    refine WL.v (Runs.pick rfl rfl rfl) rfl ?_
    refine WL.v (Runs.move rfl) rfl ?_
    refine WL.goff rfl rfl rfl rfl ?_
    refine WL.goff rfl rfl rfl rfl ?_
    refine WL.goff rfl rfl rfl rfl ?_
    refine WL.goff rfl rfl rfl rfl ?_
    refine WL.v (Runs.pick rfl rfl rfl) rfl ?_
    refine WL.v (Runs.move rfl) rfl ?_
    refine WL.goff rfl rfl rfl rfl ?_
    refine WL.goff rfl rfl rfl rfl ?_
    refine WL.goff rfl rfl rfl rfl ?_
    refine WL.goff rfl rfl rfl rfl ?_
    refine WL.v (Runs.pick rfl rfl rfl) rfl ?_
    refine WL.v (Runs.move rfl) rfl ?_
    refine WL.goff rfl rfl rfl rfl ?_
    refine WL.goff rfl rfl rfl rfl ?_
    refine WL.goff rfl rfl rfl rfl ?_
    refine WL.goff rfl rfl rfl rfl ?_
    refine WL.v (Runs.pick rfl rfl rfl) rfl ?_
    refine WL.v (Runs.move rfl) rfl ?_
    refine WL.goff rfl rfl rfl rfl ?_
    refine WL.goff rfl rfl rfl rfl ?_
    refine WL.goff rfl rfl rfl rfl ?_
    refine WL.goff rfl rfl rfl rfl ?_
    refine WL.v (Runs.pick rfl rfl rfl) rfl ?_
    refine WL.nil (WN.thn ?_)
    refine WC.condT rfl (rfl) ?_
    refine WC.seq (WC.reg ?_)
    refine WL.call can10 rfl rfl (live_c _ h1) ?_
    rintro _ w3 ⟨G58, hG58, rfl, h3⟩
    refine ⟨_, rfl, ?_⟩
    replace hleF := Le.trans hleF hG58
    replace hf := hf.mono hG58
    refine WL.v (Runs.assign rfl) rfl ?_
    refine WL.nil (WN.thn (WC.ret ?_))
    exact ret1 rfl rfl ⟨rfl, ((h3.drop 0)).weak hleF⟩
  · skip
    refine WC.reg ?_
    refine WL.v (Runs.move rfl) rfl ?_
    refine WL.v (Runs.llen Try.underlying59 rfl rfl) rfl ?_
    refine WL.v (Runs.boolT (c := false) (Runs.gtr rfl rfl) (by rw [decide_eq_false_iff_not]; omega)) rfl ?_
    refine WL.v (Runs.move rfl) rfl ?_
    refine WL.gon rfl rfl rfl ?_
    refine WL.v (Runs.fld fld33_3 rfl) rfl ?_
    refine WL.gon rfl rfl rfl ?_
    refine WL.v (Runs.fld fld31_1 rfl) rfl ?_
    refine WL.gon rfl rfl rfl ?_
    refine WL.v (Runs.load1 Try.underlying29 rfl rfl (h1.ocell (i := 0) rfl rfl)) rfl ?_
    refine WL.gon rfl rfl rfl ?_
    refine WL.v (Runs.llen Try.underlying29 rfl rfl) rfl ?_
    refine WL.gon rfl rfl rfl ?_
    refine WL.v (Runs.boolT (c := false) (Runs.gtr rfl rfl) (by rw [decide_eq_false_iff_not]; omega)) rfl ?_
    refine WL.v (Runs.pick rfl rfl rfl) rfl ?_
    refine WL.v (Runs.move rfl) rfl ?_
    refine WL.gon rfl rfl rfl ?_
    refine WL.v (Runs.fld fld33_2 rfl) rfl ?_
    refine WL.gon rfl rfl rfl ?_
    refine WL.v (Runs.fld fld27_3 rfl) rfl ?_
    refine WL.gon rfl rfl rfl ?_
    refine WL.v (Runs.load1 Try.underlying3 rfl rfl (h1.ocell (i := 0) rfl rfl)) rfl ?_
    refine WL.gon rfl rfl rfl ?_
    refine WL.v (Runs.boolT (c := true) (Runs.lss rfl rfl) (by rw [decide_eq_true_eq]; omega)) rfl ?_
    refine WL.v (Runs.pick rfl rfl rfl) rfl ?_
    refine WL.v (Runs.move rfl) rfl ?_
    refine WL.goff rfl rfl rfl rfl ?_
    refine WL.goff rfl rfl rfl rfl ?_
    refine WL.goff rfl rfl rfl rfl ?_
    refine WL.goff rfl rfl rfl rfl ?_
    refine WL.v (Runs.pick rfl rfl rfl) rfl ?_
    refine WL.v (Runs.move rfl) rfl ?_
    refine WL.goff rfl rfl rfl rfl ?_
    refine WL.goff rfl rfl rfl rfl ?_
    refine WL.goff rfl rfl rfl rfl ?_
    refine WL.goff rfl rfl rfl rfl ?_
    refine WL.v (Runs.pick rfl rfl rfl) rfl ?_
    refine WL.v (Runs.move rfl) rfl ?_
    refine WL.goff rfl rfl rfl rfl ?_
    refine WL.goff rfl rfl rfl rfl ?_
    refine WL.goff rfl rfl rfl rfl ?_
    refine WL.goff rfl rfl rfl rfl ?_
    refine WL.v (Runs.pick rfl rfl rfl) rfl ?_
    refine WL.v (Runs.move rfl) rfl ?_
    refine WL.goff rfl rfl rfl rfl ?_
    refine WL.goff rfl rfl rfl rfl ?_
    refine WL.goff rfl rfl rfl rfl ?_
    refine WL.goff rfl rfl rfl rfl ?_
    refine WL.v (Runs.pick rfl rfl rfl) rfl ?_
    refine WL.v (Runs.move rfl) rfl ?_
    refine WL.goff rfl rfl rfl rfl ?_
    refine WL.goff rfl rfl rfl rfl ?_
    refine WL.goff rfl rfl rfl rfl ?_
    refine WL.goff rfl rfl rfl rfl ?_
    refine WL.v (Runs.pick rfl rfl rfl) rfl ?_
    refine WL.nil (WN.thn ?_)
    refine WC.condT rfl (rfl) ?_
    refine WC.seq (WC.reg ?_)
    refine WL.call can10 rfl rfl (live_c _ h1) ?_
    rintro _ w4 ⟨G58, hG58, rfl, h4⟩
    refine ⟨_, rfl, ?_⟩
    replace hleF := Le.trans hleF hG58
    replace hf := hf.mono hG58
    refine WL.v (Runs.assign rfl) rfl ?_
    refine WL.nil (WN.thn (WC.ret ?_))
    exact ret1 rfl rfl ⟨rfl, ((h4.drop 0)).weak hleF⟩
  · skip
    refine WC.reg ?_
    refine WL.v (Runs.move rfl) rfl ?_
    refine WL.v (Runs.llen Try.underlying59 rfl rfl) rfl ?_
    refine WL.v (Runs.boolT (c := false) (Runs.gtr rfl rfl) (by rw [decide_eq_false_iff_not]; omega)) rfl ?_
    refine WL.v (Runs.move rfl) rfl ?_
    refine WL.gon rfl rfl rfl ?_
    refine WL.v (Runs.fld fld33_3 rfl) rfl ?_
    refine WL.gon rfl rfl rfl ?_
    refine WL.v (Runs.fld fld31_1 rfl) rfl ?_
    refine WL.gon rfl rfl rfl ?_
    refine WL.v (Runs.load1 Try.underlying29 rfl rfl (h1.ocell (i := 0) rfl rfl)) rfl ?_
    refine WL.gon rfl rfl rfl ?_
    refine WL.v (Runs.llen Try.underlying29 rfl rfl) rfl ?_
    refine WL.gon rfl rfl rfl ?_
    refine WL.v (Runs.boolT (c := false) (Runs.gtr rfl rfl) (by rw [decide_eq_false_iff_not]; omega)) rfl ?_
    refine WL.v (Runs.pick rfl rfl rfl) rfl ?_
    refine WL.v (Runs.move rfl) rfl ?_
    refine WL.gon rfl rfl rfl ?_
    refine WL.v (Runs.fld fld33_2 rfl) rfl ?_
    refine WL.gon rfl rfl rfl ?_
    refine WL.v (Runs.fld fld27_3 rfl) rfl ?_
    refine WL.gon rfl rfl rfl ?_
    refine WL.v (Runs.load1 Try.underlying3 rfl rfl (h1.ocell (i := 0) rfl rfl)) rfl ?_
    refine WL.gon rfl rfl rfl ?_
    refine WL.v (Runs.boolT (c := false) (Runs.lss rfl rfl) (by rw [decide_eq_false_iff_not]; omega)) rfl ?_
    refine WL.v (Runs.pick rfl rfl rfl) rfl ?_
    refine WL.v (Runs.move rfl) rfl ?_
    refine WL.gon rfl rfl rfl ?_
    refine WL.v (Runs.fld fld33_2 rfl) rfl ?_
    refine WL.gon rfl rfl rfl ?_
    refine WL.v (Runs.fld fld27_3 rfl) rfl ?_
    refine WL.gon rfl rfl rfl ?_
    refine WL.v (Runs.load1 Try.underlying3 rfl rfl (h1.ocell (i := 0) rfl rfl)) rfl ?_
    refine WL.gon rfl rfl rfl ?_
    refine WL.v (Runs.boolT (c := true) (Runs.gtr rfl rfl) (by rw [decide_eq_true_eq]; omega)) rfl ?_
    refine WL.v (Runs.pick rfl rfl rfl) rfl ?_
    refine WL.v (Runs.move rfl) rfl ?_
    refine WL.goff rfl rfl rfl rfl ?_
    refine WL.goff rfl rfl rfl rfl ?_
    refine WL.goff rfl rfl rfl rfl ?_
    refine WL.goff rfl rfl rfl rfl ?_
    refine WL.v (Runs.pick rfl rfl rfl) rfl ?_
    refine WL.v (Runs.move rfl) rfl ?_
    refine WL.goff rfl rfl rfl rfl ?_
    refine WL.goff rfl rfl rfl rfl ?_
    refine WL.goff rfl rfl rfl rfl ?_
    refine WL.goff rfl rfl rfl rfl ?_
    refine WL.v (Runs.pick rfl rfl rfl) rfl ?_
    refine WL.v (Runs.move rfl) rfl ?_
    refine WL.goff rfl rfl rfl rfl ?_
    refine WL.goff rfl rfl rfl rfl ?_
    refine WL.goff rfl rfl rfl rfl ?_
    refine WL.goff rfl rfl rfl rfl ?_
    refine WL.v (Runs.pick rfl rfl rfl) rfl ?_
    refine WL.v (Runs.move rfl) rfl ?_
    refine WL.goff rfl rfl rfl rfl ?_
    refine WL.goff rfl rfl rfl rfl ?_
    refine WL.goff rfl rfl rfl rfl ?_
    refine WL.goff rfl rfl rfl rfl ?_
    refine WL.v (Runs.pick rfl rfl rfl) rfl ?_
    refine WL.nil (WN.thn ?_)
    refine WC.condT rfl (rfl) ?_
    refine WC.seq (WC.reg ?_)
    refine WL.call can10 rfl rfl (live_c _ h1) ?_
    rintro _ w5 ⟨G58, hG58, rfl, h5⟩
    refine ⟨_, rfl, ?_⟩
    replace hleF := Le.trans hleF hG58
    replace hf := hf.mono hG58
    refine WL.v (Runs.assign rfl) rfl ?_
    refine WL.nil (WN.thn (WC.ret ?_))
    exact ret1 rfl rfl ⟨rfl, ((h5.drop 0)).weak hleF⟩
  · skip
    refine WC.reg ?_
    refine WL.v (Runs.move rfl) rfl ?_
    refine WL.v (Runs.llen Try.underlying59 rfl rfl) rfl ?_
    refine WL.v (Runs.boolT (c := false) (Runs.gtr rfl rfl) (by rw [decide_eq_false_iff_not]; omega)) rfl ?_
    refine WL.v (Runs.move rfl) rfl ?_
    refine WL.gon rfl rfl rfl ?_
    refine WL.v (Runs.fld fld33_3 rfl) rfl ?_
    refine WL.gon rfl rfl rfl ?_
    refine WL.v (Runs.fld fld31_1 rfl) rfl ?_
    refine WL.gon rfl rfl rfl ?_
    refine WL.v (Runs.load1 Try.underlying29 rfl rfl (h1.ocell (i := 0) rfl rfl)) rfl ?_
    refine WL.gon rfl rfl rfl ?_
    refine WL.v (Runs.llen Try.underlying29 rfl rfl) rfl ?_
    refine WL.gon rfl rfl rfl ?_
    refine WL.v (Runs.boolT (c := false) (Runs.gtr rfl rfl) (by rw [decide_eq_false_iff_not]; omega)) rfl ?_
    refine WL.v (Runs.pick rfl rfl rfl) rfl ?_
    refine WL.v (Runs.move rfl) rfl ?_
    refine WL.gon rfl rfl rfl ?_
    refine WL.v (Runs.fld fld33_2 rfl) rfl ?_
    refine WL.gon rfl rfl rfl ?_
    refine WL.v (Runs.fld fld27_3 rfl) rfl ?_
    refine WL.gon rfl rfl rfl ?_
    refine WL.v (Runs.load1 Try.underlying3 rfl rfl (h1.ocell (i := 0) rfl rfl)) rfl ?_
    refine WL.gon rfl rfl rfl ?_
    refine WL.v (Runs.boolT (c := false) (Runs.lss rfl rfl) (by rw [decide_eq_false_iff_not]; omega)) rfl ?_
    refine WL.v (Runs.pick rfl rfl rfl) rfl ?_
    refine WL.v (Runs.move rfl) rfl ?_
    refine WL.gon rfl rfl rfl ?_
    refine WL.v (Runs.fld fld33_2 rfl) rfl ?_
    refine WL.gon rfl rfl rfl ?_
    refine WL.v (Runs.fld fld27_3 rfl) rfl ?_
    refine WL.gon rfl rfl rfl ?_
    refine WL.v (Runs.load1 Try.underlying3 rfl rfl (h1.ocell (i := 0) rfl rfl)) rfl ?_
    refine WL.gon rfl rfl rfl ?_
    refine WL.v (Runs.boolT (c := false) (Runs.gtr rfl rfl) (by rw [decide_eq_false_iff_not]; omega)) rfl ?_
    refine WL.v (Runs.pick rfl rfl rfl) rfl ?_
    refine WL.v (Runs.move rfl) rfl ?_
    refine WL.gon rfl rfl rfl ?_
    refine WL.v (Runs.fld fld33_2 rfl) rfl ?_
    refine WL.gon rfl rfl rfl ?_
    refine WL.v (Runs.fld fld27_4 rfl) rfl ?_
    refine WL.gon rfl rfl rfl ?_
    refine WL.v (Runs.load1 Try.underlying3 rfl rfl (h1.ocell (i := 0) rfl rfl)) rfl ?_
    refine WL.gon rfl rfl rfl ?_
    refine WL.v (Runs.boolT (c := true) (Runs.lss rfl rfl) (by rw [decide_eq_true_eq]; omega)) rfl ?_
    refine WL.v (Runs.pick rfl rfl rfl) rfl ?_
    refine WL.v (Runs.move rfl) rfl ?_
    refine WL.goff rfl rfl rfl rfl ?_
    refine WL.goff rfl rfl rfl rfl ?_
    refine WL.goff rfl rfl rfl rfl ?_
    refine WL.goff rfl rfl rfl rfl ?_
    refine WL.v (Runs.pick rfl rfl rfl) rfl ?_
    refine WL.v (Runs.move rfl) rfl ?_
    refine WL.goff rfl rfl rfl rfl ?_
    refine WL.goff rfl rfl rfl rfl ?_
    refine WL.goff rfl rfl rfl rfl ?_
    refine WL.goff rfl rfl rfl rfl ?_
    refine WL.v (Runs.pick rfl rfl rfl) rfl ?_
    refine WL.v (Runs.move rfl) rfl ?_
    refine WL.goff rfl rfl rfl rfl ?_
    refine WL.goff rfl rfl rfl rfl ?_
    refine WL.goff rfl rfl rfl rfl ?_
    refine WL.goff rfl rfl rfl rfl ?_
    refine WL.v (Runs.pick rfl rfl rfl) rfl ?_
    refine WL.nil (WN.thn ?_)
    refine WC.condT rfl (rfl) ?_
    refine WC.seq (WC.reg ?_)
    refine WL.call can10 rfl rfl (live_c _ h1) ?_
    rintro _ w6 ⟨G58, hG58, rfl, h6⟩
    refine ⟨_, rfl, ?_⟩
    replace hleF := Le.trans hleF hG58
    replace hf := hf.mono hG58
    refine WL.v (Runs.assign rfl) rfl ?_
    refine WL.nil (WN.thn (WC.ret ?_))
    exact ret1 rfl rfl ⟨rfl, ((h6.drop 0)).weak hleF⟩
  · skip
    refine WC.reg ?_
    refine WL.v (Runs.move rfl) rfl ?_
    refine WL.v (Runs.llen Try.underlying59 rfl rfl) rfl ?_
    refine WL.v (Runs.boolT (c := false) (Runs.gtr rfl rfl) (by rw [decide_eq_false_iff_not]; omega)) rfl ?_
    refine WL.v (Runs.move rfl) rfl ?_
    refine WL.gon rfl rfl rfl ?_
    refine WL.v (Runs.fld fld33_3 rfl) rfl ?_
    refine WL.gon rfl rfl rfl ?_
    refine WL.v (Runs.fld fld31_1 rfl) rfl ?_
    refine WL.gon rfl rfl rfl ?_
    refine WL.v (Runs.load1 Try.underlying29 rfl rfl (h1.ocell (i := 0) rfl rfl)) rfl ?_
    refine WL.gon rfl rfl rfl ?_
    refine WL.v (Runs.llen Try.underlying29 rfl rfl) rfl ?_
    refine WL.gon rfl rfl rfl ?_
    refine WL.v (Runs.boolT (c := false) (Runs.gtr rfl rfl) (by rw [decide_eq_false_iff_not]; omega)) rfl ?_
    refine WL.v (Runs.pick rfl rfl rfl) rfl ?_
    refine WL.v (Runs.move rfl) rfl ?_
    refine WL.gon rfl rfl rfl ?_
    refine WL.v (Runs.fld fld33_2 rfl) rfl ?_
    refine WL.gon rfl rfl rfl ?_
    refine WL.v (Runs.fld fld27_3 rfl) rfl ?_
    refine WL.gon rfl rfl rfl ?_
    refine WL.v (Runs.load1 Try.underlying3 rfl rfl (h1.ocell (i := 0) rfl rfl)) rfl ?_
    refine WL.gon rfl rfl rfl ?_
    refine WL.v (Runs.boolT (c := false) (Runs.lss rfl rfl) (by rw [decide_eq_false_iff_not]; omega)) rfl ?_
    refine WL.v (Runs.pick rfl rfl rfl) rfl ?_
    refine WL.v (Runs.move rfl) rfl ?_
    refine WL.gon rfl rfl rfl ?_
    refine WL.v (Runs.fld fld33_2 rfl) rfl ?_
    refine WL.gon rfl rfl rfl ?_
    refine WL.v (Runs.fld fld27_3 rfl) rfl ?_
    refine WL.gon rfl rfl rfl ?_
    refine WL.v (Runs.load1 Try.underlying3 rfl rfl (h1.ocell (i := 0) rfl rfl)) rfl ?_
    refine WL.gon rfl rfl rfl ?_
    refine WL.v (Runs.boolT (c := false) (Runs.gtr rfl rfl) (by rw [decide_eq_false_iff_not]; omega)) rfl ?_
    refine WL.v (Runs.pick rfl rfl rfl) rfl ?_
    refine WL.v (Runs.move rfl) rfl ?_
    refine WL.gon rfl rfl rfl ?_
    refine WL.v (Runs.fld fld33_2 rfl) rfl ?_
    refine WL.gon rfl rfl rfl ?_
    refine WL.v (Runs.fld fld27_4 rfl) rfl ?_
    refine WL.gon rfl rfl rfl ?_
    refine WL.v (Runs.load1 Try.underlying3 rfl rfl (h1.ocell (i := 0) rfl rfl)) rfl ?_
    refine WL.gon rfl rfl rfl ?_
    refine WL.v (Runs.boolT (c := false) (Runs.lss rfl rfl) (by rw [decide_eq_false_iff_not]; omega)) rfl ?_
    refine WL.v (Runs.pick rfl rfl rfl) rfl ?_
    refine WL.v (Runs.move rfl) rfl ?_
    refine WL.gon rfl rfl rfl ?_
    refine WL.v (Runs.fld fld33_2 rfl) rfl ?_
    refine WL.gon rfl rfl rfl ?_
    refine WL.v (Runs.fld fld27_4 rfl) rfl ?_
    refine WL.gon rfl rfl rfl ?_
    refine WL.v (Runs.load1 Try.underlying3 rfl rfl (h1.ocell (i := 0) rfl rfl)) rfl ?_
    refine WL.gon rfl rfl rfl ?_
    refine WL.v (Runs.boolT (c := true) (Runs.gtr rfl rfl) (by rw [decide_eq_true_eq]; omega)) rfl ?_
    refine WL.v (Runs.pick rfl rfl rfl) rfl ?_
    refine WL.v (Runs.move rfl) rfl ?_
    refine WL.goff rfl rfl rfl rfl ?_
    refine WL.goff rfl rfl rfl rfl ?_
    refine WL.goff rfl rfl rfl rfl ?_
    refine WL.goff rfl rfl rfl rfl ?_
    refine WL.v (Runs.pick rfl rfl rfl) rfl ?_
    refine WL.v (Runs.move rfl) rfl ?_
    refine WL.goff rfl rfl rfl rfl ?_
    refine WL.goff rfl rfl rfl rfl ?_
    refine WL.goff rfl rfl rfl rfl ?_
    refine WL.goff rfl rfl rfl rfl ?_
    refine WL.v (Runs.pick rfl rfl rfl) rfl ?_
    refine WL.nil (WN.thn ?_)
    refine WC.condT rfl (rfl) ?_
    refine WC.seq (WC.reg ?_)
    refine WL.call can10 rfl rfl (live_c _ h1) ?_
    rintro _ w7 ⟨G58, hG58, rfl, h7⟩
    refine ⟨_, rfl, ?_⟩
    replace hleF := Le.trans hleF hG58
    replace hf := hf.mono hG58
    refine WL.v (Runs.assign rfl) rfl ?_
    refine WL.nil (WN.thn (WC.ret ?_))
    exact ret1 rfl rfl ⟨rfl, ((h7.drop 0)).weak hleF⟩
  · skip
    refine WC.reg ?_
    refine WL.v (Runs.move rfl) rfl ?_
    refine WL.v (Runs.llen Try.underlying59 rfl rfl) rfl ?_
    refine WL.v (Runs.boolT (c := false) (Runs.gtr rfl rfl) (by rw [decide_eq_false_iff_not]; omega)) rfl ?_
    refine WL.v (Runs.move rfl) rfl ?_
    refine WL.gon rfl rfl rfl ?_
    refine WL.v (Runs.fld fld33_3 rfl) rfl ?_
    refine WL.gon rfl rfl rfl ?_
    refine WL.v (Runs.fld fld31_1 rfl) rfl ?_
    refine WL.gon rfl rfl rfl ?_
    refine WL.v (Runs.load1 Try.underlying29 rfl rfl (h1.ocell (i := 0) rfl rfl)) rfl ?_
    refine WL.gon rfl rfl rfl ?_
    refine WL.v (Runs.llen Try.underlying29 rfl rfl) rfl ?_
    refine WL.gon rfl rfl rfl ?_
    refine WL.v (Runs.boolT (c := false) (Runs.gtr rfl rfl) (by rw [decide_eq_false_iff_not]; omega)) rfl ?_
    refine WL.v (Runs.pick rfl rfl rfl) rfl ?_
    refine WL.v (Runs.move rfl) rfl ?_
    refine WL.gon rfl rfl rfl ?_
    refine WL.v (Runs.fld fld33_2 rfl) rfl ?_
    refine WL.gon rfl rfl rfl ?_
    refine WL.v (Runs.fld fld27_3 rfl) rfl ?_
    refine WL.gon rfl rfl rfl ?_
    refine WL.v (Runs.load1 Try.underlying3 rfl rfl (h1.ocell (i := 0) rfl rfl)) rfl ?_
    refine WL.gon rfl rfl rfl ?_
    refine WL.v (Runs.boolT (c := false) (Runs.lss rfl rfl) (by rw [decide_eq_false_iff_not]; omega)) rfl ?_
    refine WL.v (Runs.pick rfl rfl rfl) rfl ?_
    refine WL.v (Runs.move rfl) rfl ?_
    refine WL.gon rfl rfl rfl ?_
    refine WL.v (Runs.fld fld33_2 rfl) rfl ?_
    refine WL.gon rfl rfl rfl ?_
    refine WL.v (Runs.fld fld27_3 rfl) rfl ?_
    refine WL.gon rfl rfl rfl ?_
    refine WL.v (Runs.load1 Try.underlying3 rfl rfl (h1.ocell (i := 0) rfl rfl)) rfl ?_
    refine WL.gon rfl rfl rfl ?_
    refine WL.v (Runs.boolT (c := false) (Runs.gtr rfl rfl) (by rw [decide_eq_false_iff_not]; omega)) rfl ?_
    refine WL.v (Runs.pick rfl rfl rfl) rfl ?_
    refine WL.v (Runs.move rfl) rfl ?_
    refine WL.gon rfl rfl rfl ?_
    refine WL.v (Runs.fld fld33_2 rfl) rfl ?_
    refine WL.gon rfl rfl rfl ?_
    refine WL.v (Runs.fld fld27_4 rfl) rfl ?_
    refine WL.gon rfl rfl rfl ?_
    refine WL.v (Runs.load1 Try.underlying3 rfl rfl (h1.ocell (i := 0) rfl rfl)) rfl ?_
    refine WL.gon rfl rfl rfl ?_
    refine WL.v (Runs.boolT (c := false) (Runs.lss rfl rfl) (by rw [decide_eq_false_iff_not]; omega)) rfl ?_
    refine WL.v (Runs.pick rfl rfl rfl) rfl ?_
    refine WL.v (Runs.move rfl) rfl ?_
    refine WL.gon rfl rfl rfl ?_
    refine WL.v (Runs.fld fld33_2 rfl) rfl ?_
    refine WL.gon rfl rfl rfl ?_
    refine WL.v (Runs.fld fld27_4 rfl) rfl ?_
    refine WL.gon rfl rfl rfl ?_
    refine WL.v (Runs.load1 Try.underlying3 rfl rfl (h1.ocell (i := 0) rfl rfl)) rfl ?_
    refine WL.gon rfl rfl rfl ?_
    refine WL.v (Runs.boolT (c := false) (Runs.gtr rfl rfl) (by rw [decide_eq_false_iff_not]; omega)) rfl ?_
    refine WL.v (Runs.pick rfl rfl rfl) rfl ?_
    refine WL.v (Runs.move rfl) rfl ?_
    refine WL.gon rfl rfl rfl ?_
    refine WL.v (Runs.fld fld33_2 rfl) rfl ?_
    refine WL.gon rfl rfl rfl ?_
    refine WL.v (Runs.fld fld27_5 rfl) rfl ?_
    refine WL.gon rfl rfl rfl ?_
    refine WL.v (Runs.load1 Try.underlying3 rfl rfl (h1.ocell (i := 0) rfl rfl)) rfl ?_
    refine WL.gon rfl rfl rfl ?_
    refine WL.v (Runs.boolT (c := true) (Runs.lss rfl rfl) (by rw [decide_eq_true_eq]; omega)) rfl ?_
    refine WL.v (Runs.pick rfl rfl rfl) rfl ?_
    refine WL.v (Runs.move rfl) rfl ?_
    refine WL.goff rfl rfl rfl rfl ?_
    refine WL.goff rfl rfl rfl rfl ?_
    refine WL.goff rfl rfl rfl rfl ?_
    refine WL.goff rfl rfl rfl rfl ?_
    refine WL.v (Runs.pick rfl rfl rfl) rfl ?_
    refine WL.nil (WN.thn ?_)
    refine WC.condT rfl (rfl) ?_
    refine WC.seq (WC.reg ?_)
    refine WL.call can10 rfl rfl (live_c _ h1) ?_
    rintro _ w8 ⟨G58, hG58, rfl, h8⟩
    refine ⟨_, rfl, ?_⟩
    replace hleF := Le.trans hleF hG58
    replace hf := hf.mono hG58
    refine WL.v (Runs.assign rfl) rfl ?_
    refine WL.nil (WN.thn (WC.ret ?_))
    exact ret1 rfl rfl ⟨rfl, ((h8.drop 0)).weak hleF⟩
  · skip
    refine WC.reg ?_
    refine WL.v (Runs.move rfl) rfl ?_
    refine WL.v (Runs.llen Try.underlying59 rfl rfl) rfl ?_
    refine WL.v (Runs.boolT (c := false) (Runs.gtr rfl rfl) (by rw [decide_eq_false_iff_not]; omega)) rfl ?_
    refine WL.v (Runs.move rfl) rfl ?_
    refine WL.gon rfl rfl rfl ?_
    refine WL.v (Runs.fld fld33_3 rfl) rfl ?_
    refine WL.gon rfl rfl rfl ?_
    refine WL.v (Runs.fld fld31_1 rfl) rfl ?_
    refine WL.gon rfl rfl rfl ?_
    refine WL.v (Runs.load1 Try.underlying29 rfl rfl (h1.ocell (i := 0) rfl rfl)) rfl ?_
    refine WL.gon rfl rfl rfl ?_
    refine WL.v (Runs.llen Try.underlying29 rfl rfl) rfl ?_
    refine WL.gon rfl rfl rfl ?_
    refine WL.v (Runs.boolT (c := false) (Runs.gtr rfl rfl) (by rw [decide_eq_false_iff_not]; omega)) rfl ?_
    refine WL.v (Runs.pick rfl rfl rfl) rfl ?_
    refine WL.v (Runs.move rfl) rfl ?_
    refine WL.gon rfl rfl rfl ?_
    refine WL.v (Runs.fld fld33_2 rfl) rfl ?_
    refine WL.gon rfl rfl rfl ?_
    refine WL.v (Runs.fld fld27_3 rfl) rfl ?_
    refine WL.gon rfl rfl rfl ?_
    refine WL.v (Runs.load1 Try.underlying3 rfl rfl (h1.ocell (i := 0) rfl rfl)) rfl ?_
    refine WL.gon rfl rfl rfl ?_
    refine WL.v (Runs.boolT (c := false) (Runs.lss rfl rfl) (by rw [decide_eq_false_iff_not]; omega)) rfl ?_
    refine WL.v (Runs.pick rfl rfl rfl) rfl ?_
    refine WL.v (Runs.move rfl) rfl ?_
    refine WL.gon rfl rfl rfl ?_
    refine WL.v (Runs.fld fld33_2 rfl) rfl ?_
    refine WL.gon rfl rfl rfl ?_
    refine WL.v (Runs.fld fld27_3 rfl) rfl ?_
    refine WL.gon rfl rfl rfl ?_
    refine WL.v (Runs.load1 Try.underlying3 rfl rfl (h1.ocell (i := 0) rfl rfl)) rfl ?_
    refine WL.gon rfl rfl rfl ?_
    refine WL.v (Runs.boolT (c := false) (Runs.gtr rfl rfl) (by rw [decide_eq_false_iff_not]; omega)) rfl ?_
    refine WL.v (Runs.pick rfl rfl rfl) rfl ?_
    refine WL.v (Runs.move rfl) rfl ?_
    refine WL.gon rfl rfl rfl ?_
    refine WL.v (Runs.fld fld33_2 rfl) rfl ?_
    refine WL.gon rfl rfl rfl ?_
    refine WL.v (Runs.fld fld27_4 rfl) rfl ?_
    refine WL.gon rfl rfl rfl ?_
    refine WL.v (Runs.load1 Try.underlying3 rfl rfl (h1.ocell (i := 0) rfl rfl)) rfl ?_
    refine WL.gon rfl rfl rfl ?_
    refine WL.v (Runs.boolT (c := false) (Runs.lss rfl rfl) (by rw [decide_eq_false_iff_not]; omega)) rfl ?_
    refine WL.v (Runs.pick rfl rfl rfl) rfl ?_
    refine WL.v (Runs.move rfl) rfl ?_
    refine WL.gon rfl rfl rfl ?_
    refine WL.v (Runs.fld fld33_2 rfl) rfl ?_
    refine WL.gon rfl rfl rfl ?_
    refine WL.v (Runs.fld fld27_4 rfl) rfl ?_
    refine WL.gon rfl rfl rfl ?_
    refine WL.v (Runs.load1 Try.underlying3 rfl rfl (h1.ocell (i := 0) rfl rfl)) rfl ?_
    refine WL.gon rfl rfl rfl ?_
    refine WL.v (Runs.boolT (c := false) (Runs.gtr rfl rfl) (by rw [decide_eq_false_iff_not]; omega)) rfl ?_
    refine WL.v (Runs.pick rfl rfl rfl) rfl ?_
    refine WL.v (Runs.move rfl) rfl ?_
    refine WL.gon rfl rfl rfl ?_
    refine WL.v (Runs.fld fld33_2 rfl) rfl ?_
    refine WL.gon rfl rfl rfl ?_
    refine WL.v (Runs.fld fld27_5 rfl) rfl ?_
    refine WL.gon rfl rfl rfl ?_
    refine WL.v (Runs.load1 Try.underlying3 rfl rfl (h1.ocell (i := 0) rfl rfl)) rfl ?_
    refine WL.gon rfl rfl rfl ?_
    refine WL.v (Runs.boolT (c := false) (Runs.lss rfl rfl) (by rw [decide_eq_false_iff_not]; omega)) rfl ?_
    refine WL.v (Runs.pick rfl rfl rfl) rfl ?_
    refine WL.v (Runs.move rfl) rfl ?_
    refine WL.gon rfl rfl rfl ?_
    refine WL.v (Runs.fld fld33_2 rfl) rfl ?_
    refine WL.gon rfl rfl rfl ?_
    refine WL.v (Runs.fld fld27_5 rfl) rfl ?_
    refine WL.gon rfl rfl rfl ?_
    refine WL.v (Runs.load1 Try.underlying3 rfl rfl (h1.ocell (i := 0) rfl rfl)) rfl ?_
    refine WL.gon rfl rfl rfl ?_
    refine WL.v (Runs.boolT (c := true) (Runs.gtr rfl rfl) (by rw [decide_eq_true_eq]; omega)) rfl ?_
    refine WL.v (Runs.pick rfl rfl rfl) rfl ?_
    refine WL.nil (WN.thn ?_)
    refine WC.condT rfl (rfl) ?_
    refine WC.seq (WC.reg ?_)
    refine WL.call can10 rfl rfl (live_c _ h1) ?_
    rintro _ w9 ⟨G58, hG58, rfl, h9⟩
    refine ⟨_, rfl, ?_⟩
    replace hleF := Le.trans hleF hG58
    replace hf := hf.mono hG58
    refine WL.v (Runs.assign rfl) rfl ?_
    refine WL.nil (WN.thn (WC.ret ?_))
    exact ret1 rfl rfl ⟨rfl, ((h9.drop 0)).weak hleF⟩
  · skip
    refine WC.reg ?_
    refine WL.v (Runs.move rfl) rfl ?_
    refine WL.v (Runs.llen Try.underlying59 rfl rfl) rfl ?_
    refine WL.v (Runs.boolT (c := false) (Runs.gtr rfl rfl) (by rw [decide_eq_false_iff_not]; omega)) rfl ?_
    refine WL.v (Runs.move rfl) rfl ?_
    refine WL.gon rfl rfl rfl ?_
    refine WL.v (Runs.fld fld33_3 rfl) rfl ?_
    refine WL.gon rfl rfl rfl ?_
    refine WL.v (Runs.fld fld31_1 rfl) rfl ?_
    refine WL.gon rfl rfl rfl ?_
    refine WL.v (Runs.load1 Try.underlying29 rfl rfl (h1.ocell (i := 0) rfl rfl)) rfl ?_
    refine WL.gon rfl rfl rfl ?_
    refine WL.v (Runs.llen Try.underlying29 rfl rfl) rfl ?_
    refine WL.gon rfl rfl rfl ?_
    refine WL.v (Runs.boolT (c := false) (Runs.gtr rfl rfl) (by rw [decide_eq_false_iff_not]; omega)) rfl ?_
    refine WL.v (Runs.pick rfl rfl rfl) rfl ?_
    refine WL.v (Runs.move rfl) rfl ?_
    refine WL.gon rfl rfl rfl ?_
    refine WL.v (Runs.fld fld33_2 rfl) rfl ?_
    refine WL.gon rfl rfl rfl ?_
    refine WL.v (Runs.fld fld27_3 rfl) rfl ?_
    refine WL.gon rfl rfl rfl ?_
    refine WL.v (Runs.load1 Try.underlying3 rfl rfl (h1.ocell (i := 0) rfl rfl)) rfl ?_
    refine WL.gon rfl rfl rfl ?_
    refine WL.v (Runs.boolT (c := false) (Runs.lss rfl rfl) (by rw [decide_eq_false_iff_not]; omega)) rfl ?_
    refine WL.v (Runs.pick rfl rfl rfl) rfl ?_
    refine WL.v (Runs.move rfl) rfl ?_
    refine WL.gon rfl rfl rfl ?_
    refine WL.v (Runs.fld fld33_2 rfl) rfl ?_
    refine WL.gon rfl rfl rfl ?_
    refine WL.v (Runs.fld fld27_3 rfl) rfl ?_
    refine WL.gon rfl rfl rfl ?_
    refine WL.v (Runs.load1 Try.underlying3 rfl rfl (h1.ocell (i := 0) rfl rfl)) rfl ?_
    refine WL.gon rfl rfl rfl ?_
    refine WL.v (Runs.boolT (c := false) (Runs.gtr rfl rfl) (by rw [decide_eq_false_iff_not]; omega)) rfl ?_
    refine WL.v (Runs.pick rfl rfl rfl) rfl ?_
    refine WL.v (Runs.move rfl) rfl ?_
    refine WL.gon rfl rfl rfl ?_
    refine WL.v (Runs.fld fld33_2 rfl) rfl ?_
    refine WL.gon rfl rfl rfl ?_
    refine WL.v (Runs.fld fld27_4 rfl) rfl ?_
    refine WL.gon rfl rfl rfl ?_
    refine WL.v (Runs.load1 Try.underlying3 rfl rfl (h1.ocell (i := 0) rfl rfl)) rfl ?_
    refine WL.gon rfl rfl rfl ?_
    refine WL.v (Runs.boolT (c := false) (Runs.lss rfl rfl) (by rw [decide_eq_false_iff_not]; omega)) rfl ?_
    refine WL.v (Runs.pick rfl rfl rfl) rfl ?_
    refine WL.v (Runs.move rfl) rfl ?_
    refine WL.gon rfl rfl rfl ?_
    refine WL.v (Runs.fld fld33_2 rfl) rfl ?_
    refine WL.gon rfl rfl rfl ?_
    refine WL.v (Runs.fld fld27_4 rfl) rfl ?_
    refine WL.gon rfl rfl rfl ?_
    refine WL.v (Runs.load1 Try.underlying3 rfl rfl (h1.ocell (i := 0) rfl rfl)) rfl ?_
    refine WL.gon rfl rfl rfl ?_
    refine WL.v (Runs.boolT (c := false) (Runs.gtr rfl rfl) (by rw [decide_eq_false_iff_not]; omega)) rfl ?_
    refine WL.v (Runs.pick rfl rfl rfl) rfl ?_
    refine WL.v (Runs.move rfl) rfl ?_
    refine WL.gon rfl rfl rfl ?_
    refine WL.v (Runs.fld fld33_2 rfl) rfl ?_
    refine WL.gon rfl rfl rfl ?_
    refine WL.v (Runs.fld fld27_5 rfl) rfl ?_
    refine WL.gon rfl rfl rfl ?_
    refine WL.v (Runs.load1 Try.underlying3 rfl rfl (h1.ocell (i := 0) rfl rfl)) rfl ?_
    refine WL.gon rfl rfl rfl ?_
    refine WL.v (Runs.boolT (c := false) (Runs.lss rfl rfl) (by rw [decide_eq_false_iff_not]; omega)) rfl ?_
    refine WL.v (Runs.pick rfl rfl rfl) rfl ?_
    refine WL.v (Runs.move rfl) rfl ?_
    refine WL.gon rfl rfl rfl ?_
    refine WL.v (Runs.fld fld33_2 rfl) rfl ?_
    refine WL.gon rfl rfl rfl ?_
    refine WL.v (Runs.fld fld27_5 rfl) rfl ?_
    refine WL.gon rfl rfl rfl ?_
    refine WL.v (Runs.load1 Try.underlying3 rfl rfl (h1.ocell (i := 0) rfl rfl)) rfl ?_
    refine WL.gon rfl rfl rfl ?_
    refine WL.v (Runs.boolT (c := false) (Runs.gtr rfl rfl) (by rw [decide_eq_false_iff_not]; omega)) rfl ?_
    refine WL.v (Runs.pick rfl rfl rfl) rfl ?_
    refine WL.nil (WN.thn ?_)
    refine WC.condF rfl (rfl) ?_
    refine WC.skip (WN.thn (WC.seq (WC.seq (WC.reg ?_))))
    refine WL.v (Runs.assign rfl) rfl ?_
    refine WL.nil (WN.thn (WC.block ?_))
    refine WC.loop (σ := Nat) (fun q_ => [(0, .slice A l.length cap), (3, .pointer (some ⟨b3, 0, none⟩)), (5, .int .i64 (q_ : Int))]) (fun q_ w => q_ ≤ l.length ∧ (∀ j, j < q_ → (l.getD j R0).ls.length ≤ 40) ∧ St W F ([(b3, .cells #[Vi id, .slice AJ z.js.length cj, .slice AS z.ss.length cS, .bool z.dr, Vi m.kd, Vi m.fr, Vi m.to, Vi m.jb, Vi m.ep, Vi m.st, Vi m.ar, .string m.tx, Vi f.cr, .slice Ap f.ps.length cp, Vi f.cd, .bool f.bz] 33 (0, 0))] :: cs) w) (fun q_ => l.length - q_) (0) (by repeat (first | exact trivial | refine ⟨rfl, ?_⟩)) (⟨Nat.zero_le _, fun j hj => absurd hj (Nat.not_lt_zero _), h1⟩) ?_
    rintro i w10 ⟨hi, hall, hL⟩
    try dsimp only at hi hall hL
    refine WC.sub (s := [(0, .slice A l.length cap), (3, .pointer (some ⟨b3, 0, none⟩)), (5, .int .i64 (i : Int))]) (by repeat (first | exact trivial | refine ⟨rfl, ?_⟩)) ?_
    refine WC.seq (WC.seq (WC.reg ?_))
    refine WL.v (Runs.move rfl) rfl ?_
    refine WL.v (Runs.move rfl) rfl ?_
    refine WL.v (Runs.llen Try.underlying59 rfl rfl) rfl ?_
    refine WL.v (Runs.lss rfl rfl) rfl ?_
    refine WL.nil (WN.thn ?_)
    refine WC.cond rfl (fun c11 => ?_) (fun c11 => ?_)
    · try simp only [dt, df, nt, nf, ba, il, ie] at c11
      first
      | (exfalso; omega)
      | skip
        refine WC.skip (WN.thn (WC.seq (WC.block (WC.seq ?_))))
        have hi2 : i < l.length := by omega
        obtain ⟨ad, c, rfl, ⟨A1, cap1, rfl, hps⟩, hcell⟩ := hRl.atD R0 hi2
        refine WC.reg ?_
        refine WL.v (Runs.move rfl) rfl ?_
        refine WL.v (Runs.move rfl) rfl ?_
        refine WL.v (Runs.lidxK Try.underlying59 inf37 rfl rfl (n := i) rfl hi2) rfl ?_
        refine WL.v (Runs.fld fld37_5 rfl) rfl ?_
        refine WL.v (Runs.fldKF (n := i) hL hcell Try.underlying29 rfl rfl rfl) rfl ?_
        refine WL.v (Runs.llen Try.underlying29 rfl rfl) rfl ?_
        refine WL.v (Runs.gtr rfl rfl) rfl ?_
        refine WL.nil (WN.thn ?_)
        refine WC.cond rfl (fun c12 => ?_) (fun c12 => ?_)
        · try simp only [dt, df, nt, nf, ba, il, ie] at c12
          first
          | (exfalso; omega)
          | skip
            refine WC.seq (WC.reg ?_)
            refine WL.call can10 rfl rfl (live_c _ hL) ?_
            rintro _ w13 ⟨G72, hG72, rfl, h13⟩
            refine ⟨_, rfl, ?_⟩
            replace hleF := Le.trans hleF hG72
            replace hf := hf.mono hG72
            refine WL.v (Runs.assign rfl) rfl ?_
            refine WL.nil (WN.thn (WC.ret ?_))
            exact ret1 rfl rfl ⟨rfl, ((h13.drop 0)).weak hleF⟩
        · try simp only [dt, df, nt, nf, ba, il, ie] at c12
          first
          | (exfalso; omega)
          | skip
            refine WC.skip (WN.blk (WN.thn (WC.reg ?_)))
            refine WL.v (Runs.move rfl) rfl ?_
            refine WL.v (Runs.addn rfl rfl (by omega)) rfl ?_
            refine WL.v (Runs.assign rfl) rfl ?_
            refine WL.nil ?_
            exact WN.again (i + 1) (by omega) ⟨rfl, rfl, rfl, trivial⟩ ⟨by omega, fun j hj => (by
              by_cases e : j = i
              · subst e; omega
              · exact hall j (by omega)), hL⟩
    · try simp only [dt, df, nt, nf, ba, il, ie] at c11
      first
      | (exfalso; omega)
      | skip
        refine WC.exit (WX.thn (WX.cut (WX.hit (WN.thn (WC.seq ?_)))))
        have hll := fold_few (l := l) (by omega) (fun j hj => hall j (by omega))
        have hok : okM m := ⟨⟨by omega, by omega⟩, ⟨by omega, by omega⟩, ⟨by omega, by omega⟩⟩
        refine WC.reg ?_
        refine WL.v (Runs.move rfl) rfl ?_
        refine WL.call can21 rfl rfl (qfold_c _ (by omega) hll.2 hRl hL) ?_
        rintro _ w14 ⟨G75, AJ75, AS75, cj75, cS75, hG75, rfl, hZ75, h14⟩
        refine ⟨_, rfl, ?_⟩
        replace hleF := Le.trans hleF hG75
        replace hf := hf.mono hG75
        have hz := hll.1
        refine WL.v (Runs.move rfl) rfl ?_
        refine WL.v (Runs.extract rfl rfl) rfl ?_
        refine WL.v (Runs.extract rfl rfl) rfl ?_
        refine WL.alloc' rfl h14 inf25 ?_
        intro b6 w15 h15
        refine WL.storeAll h15 0 rfl rfl rfl inf25 rfl rfl rfl (Free.zero _) ?_
        intro  w16 h16
        try simp only [lz, ls, ez, es'] at h16
        refine WL.v (Runs.assign rfl) rfl ?_
        refine WL.nil (WN.thn (WC.seq (WC.seq (WC.reg ?_))))
        refine WL.v (Runs.loadAll h16 0 rfl Try.underlying25 rfl inf25 rfl rfl) rfl ?_
        refine WL.v (Runs.fld fld33_3 rfl) rfl ?_
        refine WL.v (Runs.fld fld31_1 rfl) rfl ?_
        refine WL.v (Runs.load1 Try.underlying29 rfl rfl (h16.ocell (i := 1) rfl rfl)) rfl ?_
        refine WL.call can22 rfl rfl (fresh_c _ hz h16 hZ75.s hf (by omega)) ?_
        rintro _ w17 ⟨⟨bf, rfl, hfr⟩, h17⟩
        refine ⟨_, rfl, ?_⟩
        refine WL.v (Runs.not rfl) rfl ?_
        refine WL.nil (WN.thn ?_)
        refine WC.cond rfl (fun c18 => ?_) (fun c18 => ?_)
        · try simp only [dt, df, nt, nf, ba, il, ie] at c18
          first
          | (exfalso; omega)
          | skip
            refine WC.seq (WC.reg ?_)
            refine WL.call can10 rfl rfl (live_c _ h17) ?_
            rintro _ w19 ⟨G84, hG84, rfl, h19⟩
            refine ⟨_, rfl, ?_⟩
            replace hleF := Le.trans hleF hG84
            replace hf := hf.mono hG84
            replace hZ75 := hZ75.mono hG84
            refine WL.v (Runs.assign rfl) rfl ?_
            refine WL.nil (WN.thn (WC.ret ?_))
            exact ret1 rfl rfl ⟨rfl, (((h19.drop 0).drop 0)).weak hleF⟩
        · try simp only [dt, df, nt, nf, ba, il, ie] at c18
          first
          | (exfalso; omega)
          | skip
            refine WC.skip (WN.thn (WC.seq ?_))
            have hb : bf = true := by simpa using c18
            refine WC.cutT (σ := Nat × Snap × Option Addr × Nat) (fun q_ => [(3, .pointer (some ⟨b3, 0, none⟩)), (6, .pointer (some ⟨b6, 0, none⟩)), (8, .pointer (some ⟨q_.1, 0, none⟩)), (9, Vi (decideM id (foldM Z0 l).1 m f).2)]) (fun q_ w => Le G75 q_.2.1 ∧ RdS (Kd.one Vi) q_.2.1 q_.2.2.1 (decideM id (foldM Z0 l).1 m f).1.rc.ls ∧ St W q_.2.1 ([(q_.1, .cells (acv q_.2.2.1 q_.2.2.2 (decideM id (foldM Z0 l).1 m f).1) 39 (0, 0))] :: [(b6, .cells #[.slice AJ75 (foldM Z0 l).1.js.length cj75, .slice AS75 (foldM Z0 l).1.ss.length cS75, .bool (foldM Z0 l).1.dr] 25 (0, 0))] :: [(b3, .cells #[Vi id, .slice AJ z.js.length cj, .slice AS z.ss.length cS, .bool z.dr, Vi m.kd, Vi m.fr, Vi m.to, Vi m.jb, Vi m.ep, Vi m.st, Vi m.ar, .string m.tx, Vi f.cr, .slice Ap f.ps.length cp, Vi f.cd, .bool f.bz] 33 (0, 0))] :: cs) w) ?_ ?_
            · skip
              refine WC.eregK h17 h17 (fun s_ => ([14] : List Nat).any (Nat.beq s_)) mixed (by kernel_rfl) (fun hx => ?_)
              intro w20 h20
              refine WE.p0 hx 0 (by rfl) (fun w_ => Runs.fld fld33_0 rfl) rfl ?_
              refine WE.p0 hx 4 (by rfl) (fun w_ => Runs.fld fld33_2 rfl) rfl ?_
              refine WE.p0 hx 6 (by rfl) (fun w_ => Runs.fld fld33_3 rfl) rfl ?_
              refine WE.v0 12 hx 1 (by rfl) (fun w_ hE_ => Runs.load1 Try.underlying3 rfl rfl (hE_.ocell (i := 1) rfl rfl)) rfl ?_
              refine WE.v0 12 hx 2 (by rfl) (fun w_ hE_ => Runs.loadAll hE_ 0 rfl Try.underlying25 rfl inf25 rfl rfl) rfl ?_
              refine WE.v0 12 hx 5 (by rfl) (fun w_ hE_ => Runs.loadPart (vs := #[Vi m.kd, Vi m.fr, Vi m.to, Vi m.jb, Vi m.ep, Vi m.st, Vi m.ar, .string m.tx]) hE_ 1 rfl Try.underlying27 rfl inf27 rfl (by kernel_rfl) rfl) rfl ?_
              refine WE.v0 12 hx 7 (by rfl) (fun w_ hE_ => Runs.loadPart (vs := #[Vi f.cr, .slice Ap f.ps.length cp, Vi f.cd, .bool f.bz]) hE_ 1 rfl Try.underlying31 rfl inf31 rfl (by kernel_rfl) rfl) rfl ?_
              refine WE.op2 (.inr h20) (i := 3) (j := 13) (by rfl) (by rfl) (by kernel_rfl) ?_ ?_
              · skip
                refine WL.call can12 rfl rfl (own_c _ hz hZ75 h20) ?_
                rintro _ w21 ⟨G89, AJ89, AS89, cj89, cS89, hG89, rfl, hZ89, h21⟩
                refine ⟨_, rfl, ?_⟩
                replace hleF := Le.trans hleF hG89
                replace hf := hf.mono hG89
                replace hZ75 := hZ75.mono hG89
                refine WL.nil (WE.next ?_)
                refine WE.op2 (.inr (h21.weak hG89)) (i := 8) (j := 13) (by rfl) (by rfl) (by kernel_rfl) ?_ ?_
                · skip
                  refine WL.call can13 rfl rfl (facts_c _ h21) ?_
                  rintro _ w22 ⟨rfl, h22⟩
                  refine ⟨_, rfl, ?_⟩
                  refine WL.nil (WE.next ?_)
                  refine WE.op2 (.inr (h22.weak hG89)) (i := 9) (j := 13) (by rfl) (by rfl) (by kernel_rfl) ?_ ?_
                  · skip
                    refine WL.call can11 rfl rfl (decide_c (m := m) _ id hz hZ89 hf (by omega) h22) ?_
                    rintro _ w23 ⟨G95, A95, c95, hG95, rfl, hrd95, h23⟩
                    refine ⟨_, rfl, ?_⟩
                    replace hleF := Le.trans hleF hG95
                    replace hf := hf.mono hG95
                    replace hZ75 := hZ75.mono hG95
                    replace hZ89 := hZ89.mono hG95
                    refine WL.nil (WE.next ?_)
                    refine WE.p0 hx 10 (by rfl) (fun w_ => Runs.move rfl) rfl ?_
                    refine WE.p0 hx 11 (by rfl) (fun w_ => Runs.extract rfl rfl) rfl ?_
                    refine WE.p0 hx 12 (by rfl) (fun w_ => Runs.extract rfl rfl) rfl ?_
                    refine WE.op (.inr (h23.weak (Le.trans hG89 hG95))) (i := 13) (by rfl) (by kernel_rfl) ?_
                    refine WL.alloc' rfl h23 inf39 ?_
                    intro b8 w24 h24
                    refine WL.nil (WE.next ?_)
                    refine WE.op (.inr ((h24.weak (Le.trans hG89 hG95)).drop 0)) (i := 14) (by rfl) (by kernel_rfl) ?_
                    refine WL.storeAll h24 0 rfl rfl rfl inf39 rfl rfl rfl (Free.zero _) ?_
                    intro  w25 h25
                    try simp only [lz, ls, ez, es'] at h25
                    refine WL.nil (WE.next ?_)
                    refine WE.p0 hx 15 (by rfl) (fun w_ => Runs.assign rfl) rfl ?_
                    refine WE.fin (.inl ⟨14, rfl, by kernel_rfl⟩) (by kernel_rfl) ?_
                    exact WN.at_ (⟨b8, _, A95, c95⟩ : Nat × Snap × Option Addr × Nat) (by repeat (first | exact trivial | refine ⟨rfl, ?_⟩)) ⟨(Le.trans hG89 hG95), hrd95, h25⟩
                  · skip
                    refine WL.alloc' rfl h22 inf39 ?_
                    intro b8 w26 h26
                    refine WL.nil (WE.next ?_)
                    refine WE.op (.inr ((h26.weak hG89).drop 0)) (i := 9) (by rfl) (by kernel_rfl) ?_
                    refine WL.call can11 rfl rfl (decide_c (m := m) _ id hz hZ89 hf (by omega) h26) ?_
                    rintro _ w27 ⟨G95, A95, c95, hG95, rfl, hrd95, h27⟩
                    refine ⟨_, rfl, ?_⟩
                    replace hleF := Le.trans hleF hG95
                    replace hf := hf.mono hG95
                    replace hZ75 := hZ75.mono hG95
                    replace hZ89 := hZ89.mono hG95
                    refine WL.nil (WE.next ?_)
                    refine WE.p0 hx 10 (by rfl) (fun w_ => Runs.move rfl) rfl ?_
                    refine WE.p0 hx 11 (by rfl) (fun w_ => Runs.extract rfl rfl) rfl ?_
                    refine WE.p0 hx 12 (by rfl) (fun w_ => Runs.extract rfl rfl) rfl ?_
                    refine WE.op (.inr ((h27.weak (Le.trans hG89 hG95)).drop 0)) (i := 14) (by rfl) (by kernel_rfl) ?_
                    refine WL.storeAll h27 0 rfl rfl rfl inf39 rfl rfl rfl (Free.zero _) ?_
                    intro  w28 h28
                    try simp only [lz, ls, ez, es'] at h28
                    refine WL.nil (WE.next ?_)
                    refine WE.p0 hx 15 (by rfl) (fun w_ => Runs.assign rfl) rfl ?_
                    refine WE.fin (.inl ⟨14, rfl, by kernel_rfl⟩) (by kernel_rfl) ?_
                    exact WN.at_ (⟨b8, _, A95, c95⟩ : Nat × Snap × Option Addr × Nat) (by repeat (first | exact trivial | refine ⟨rfl, ?_⟩)) ⟨(Le.trans hG89 hG95), hrd95, h28⟩
                · skip
                  refine WL.alloc' rfl h21 inf39 ?_
                  intro b8 w29 h29
                  refine WL.nil (WE.next ?_)
                  refine WE.op (.inr ((h29.weak hG89).drop 0)) (i := 8) (by rfl) (by kernel_rfl) ?_
                  refine WL.call can13 rfl rfl (facts_c _ h29) ?_
                  rintro _ w30 ⟨rfl, h30⟩
                  refine ⟨_, rfl, ?_⟩
                  refine WL.nil (WE.next ?_)
                  refine WE.op (.inr ((h30.weak hG89).drop 0)) (i := 9) (by rfl) (by kernel_rfl) ?_
                  refine WL.call can11 rfl rfl (decide_c (m := m) _ id hz hZ89 hf (by omega) h30) ?_
                  rintro _ w31 ⟨G95, A95, c95, hG95, rfl, hrd95, h31⟩
                  refine ⟨_, rfl, ?_⟩
                  replace hleF := Le.trans hleF hG95
                  replace hf := hf.mono hG95
                  replace hZ75 := hZ75.mono hG95
                  replace hZ89 := hZ89.mono hG95
                  refine WL.nil (WE.next ?_)
                  refine WE.p0 hx 10 (by rfl) (fun w_ => Runs.move rfl) rfl ?_
                  refine WE.p0 hx 11 (by rfl) (fun w_ => Runs.extract rfl rfl) rfl ?_
                  refine WE.p0 hx 12 (by rfl) (fun w_ => Runs.extract rfl rfl) rfl ?_
                  refine WE.op (.inr ((h31.weak (Le.trans hG89 hG95)).drop 0)) (i := 14) (by rfl) (by kernel_rfl) ?_
                  refine WL.storeAll h31 0 rfl rfl rfl inf39 rfl rfl rfl (Free.zero _) ?_
                  intro  w32 h32
                  try simp only [lz, ls, ez, es'] at h32
                  refine WL.nil (WE.next ?_)
                  refine WE.p0 hx 15 (by rfl) (fun w_ => Runs.assign rfl) rfl ?_
                  refine WE.fin (.inl ⟨14, rfl, by kernel_rfl⟩) (by kernel_rfl) ?_
                  exact WN.at_ (⟨b8, _, A95, c95⟩ : Nat × Snap × Option Addr × Nat) (by repeat (first | exact trivial | refine ⟨rfl, ?_⟩)) ⟨(Le.trans hG89 hG95), hrd95, h32⟩
              · skip
                refine WL.alloc' rfl h20 inf39 ?_
                intro b8 w33 h33
                refine WL.nil (WE.next ?_)
                refine WE.op (.inr (h33.drop 0)) (i := 3) (by rfl) (by kernel_rfl) ?_
                refine WL.call can12 rfl rfl (own_c _ hz hZ75 h33) ?_
                rintro _ w34 ⟨G89, AJ89, AS89, cj89, cS89, hG89, rfl, hZ89, h34⟩
                refine ⟨_, rfl, ?_⟩
                replace hleF := Le.trans hleF hG89
                replace hf := hf.mono hG89
                replace hZ75 := hZ75.mono hG89
                refine WL.nil (WE.next ?_)
                refine WE.op (.inr ((h34.weak hG89).drop 0)) (i := 8) (by rfl) (by kernel_rfl) ?_
                refine WL.call can13 rfl rfl (facts_c _ h34) ?_
                rintro _ w35 ⟨rfl, h35⟩
                refine ⟨_, rfl, ?_⟩
                refine WL.nil (WE.next ?_)
                refine WE.op (.inr ((h35.weak hG89).drop 0)) (i := 9) (by rfl) (by kernel_rfl) ?_
                refine WL.call can11 rfl rfl (decide_c (m := m) _ id hz hZ89 hf (by omega) h35) ?_
                rintro _ w36 ⟨G95, A95, c95, hG95, rfl, hrd95, h36⟩
                refine ⟨_, rfl, ?_⟩
                replace hleF := Le.trans hleF hG95
                replace hf := hf.mono hG95
                replace hZ75 := hZ75.mono hG95
                replace hZ89 := hZ89.mono hG95
                refine WL.nil (WE.next ?_)
                refine WE.p0 hx 10 (by rfl) (fun w_ => Runs.move rfl) rfl ?_
                refine WE.p0 hx 11 (by rfl) (fun w_ => Runs.extract rfl rfl) rfl ?_
                refine WE.p0 hx 12 (by rfl) (fun w_ => Runs.extract rfl rfl) rfl ?_
                refine WE.op (.inr ((h36.weak (Le.trans hG89 hG95)).drop 0)) (i := 14) (by rfl) (by kernel_rfl) ?_
                refine WL.storeAll h36 0 rfl rfl rfl inf39 rfl rfl rfl (Free.zero _) ?_
                intro  w37 h37
                try simp only [lz, ls, ez, es'] at h37
                refine WL.nil (WE.next ?_)
                refine WE.p0 hx 15 (by rfl) (fun w_ => Runs.assign rfl) rfl ?_
                refine WE.fin (.inl ⟨14, rfl, by kernel_rfl⟩) (by kernel_rfl) ?_
                exact WN.at_ (⟨b8, _, A95, c95⟩ : Nat × Snap × Option Addr × Nat) (by repeat (first | exact trivial | refine ⟨rfl, ?_⟩)) ⟨(Le.trans hG89 hG95), hrd95, h37⟩
            · rintro ⟨b8, G1, A95, c95⟩ w38 ⟨hleG1, hrd95, hL⟩
              dsimp only at hleG1 hrd95 hL
              replace hleF := Le.trans hleF hleG1
              replace hf := hf.mono hleG1
              replace hZ75 := hZ75.mono hleG1
              refine WC.seq (WC.seq ?_)
              rcases errCase (decideM id (foldM Z0 l).1 m f).2 (decideM id (foldM Z0 l).1 m f).1.has with g0 | ⟨g0, g1⟩ | ⟨g0, g1⟩
              · skip
                refine WC.reg ?_
                refine WL.v (Runs.move rfl) rfl ?_
                refine WL.v (Runs.boolT (c := true) (Runs.neq rfl rfl) (by rw [decide_eq_false g0]; rfl)) rfl ?_
                refine WL.v (Runs.move rfl) rfl ?_
                refine WL.goff rfl rfl rfl rfl ?_
                refine WL.goff rfl rfl rfl rfl ?_
                refine WL.goff rfl rfl rfl rfl ?_
                refine WL.v (Runs.pick rfl rfl rfl) rfl ?_
                refine WL.nil (WN.thn ?_)
                refine WC.condT rfl (rfl) ?_
                refine WC.seq (WC.reg ?_)
                refine WL.v (Runs.fld fld39_0 rfl) rfl ?_
                refine WL.v (Runs.load1 Try.underlying4 rfl rfl (hL.ocell (i := 0) rfl rfl)) rfl ?_
                refine WL.v (Runs.boolT (c := true) (Runs.not rfl) (by rw [quiet_has g0]; rfl)) rfl ?_
                refine WL.v (Runs.move rfl) rfl ?_
                refine WL.gon rfl rfl rfl ?_
                refine WL.call can10 rfl rfl (live_c _ hL) ?_
                rintro _ w39 ⟨G109, hG109, rfl, h39⟩
                refine ⟨_, rfl, ?_⟩
                replace hleF := Le.trans hleF hG109
                replace hf := hf.mono hG109
                replace hZ75 := hZ75.mono hG109
                replace hrd95 := hrd95.mono hG109
                refine WL.v (Runs.pick rfl rfl rfl) rfl ?_
                refine WL.v (Runs.assign rfl) rfl ?_
                refine WL.nil (WN.thn (WC.ret ?_))
                exact ret1 rfl rfl ⟨rfl, ((((h39.drop 0).drop 0).drop 0)).weak hleF⟩
              · skip
                refine WC.reg ?_
                refine WL.v (Runs.move rfl) rfl ?_
                refine WL.v (Runs.boolT (c := false) (Runs.neq rfl rfl) (by rw [decide_eq_true g0]; rfl)) rfl ?_
                refine WL.v (Runs.move rfl) rfl ?_
                refine WL.gon rfl rfl rfl ?_
                refine WL.v (Runs.fld fld39_0 rfl) rfl ?_
                refine WL.gon rfl rfl rfl ?_
                refine WL.v (Runs.boolT (c := false) (Runs.load1 Try.underlying4 rfl rfl (hL.ocell (i := 0) rfl rfl)) g1) rfl ?_
                refine WL.gon rfl rfl rfl ?_
                refine WL.v (Runs.not rfl) rfl ?_
                refine WL.v (Runs.pick rfl rfl rfl) rfl ?_
                refine WL.nil (WN.thn ?_)
                refine WC.condT rfl (rfl) ?_
                refine WC.seq (WC.reg ?_)
                refine WL.v (Runs.fld fld39_0 rfl) rfl ?_
                refine WL.v (Runs.load1 Try.underlying4 rfl rfl (hL.ocell (i := 0) rfl rfl)) rfl ?_
                refine WL.v (Runs.boolT (c := true) (Runs.not rfl) (by rw [g1]; rfl)) rfl ?_
                refine WL.v (Runs.move rfl) rfl ?_
                refine WL.gon rfl rfl rfl ?_
                refine WL.call can10 rfl rfl (live_c _ hL) ?_
                rintro _ w40 ⟨G109, hG109, rfl, h40⟩
                refine ⟨_, rfl, ?_⟩
                replace hleF := Le.trans hleF hG109
                replace hf := hf.mono hG109
                replace hZ75 := hZ75.mono hG109
                replace hrd95 := hrd95.mono hG109
                refine WL.v (Runs.pick rfl rfl rfl) rfl ?_
                refine WL.v (Runs.assign rfl) rfl ?_
                refine WL.nil (WN.thn (WC.ret ?_))
                exact ret1 rfl rfl ⟨rfl, ((((h40.drop 0).drop 0).drop 0)).weak hleF⟩
              · skip
                refine WC.reg ?_
                refine WL.v (Runs.move rfl) rfl ?_
                refine WL.v (Runs.boolT (c := false) (Runs.neq rfl rfl) (by rw [decide_eq_true g0]; rfl)) rfl ?_
                refine WL.v (Runs.move rfl) rfl ?_
                refine WL.gon rfl rfl rfl ?_
                refine WL.v (Runs.fld fld39_0 rfl) rfl ?_
                refine WL.gon rfl rfl rfl ?_
                refine WL.v (Runs.boolT (c := true) (Runs.load1 Try.underlying4 rfl rfl (hL.ocell (i := 0) rfl rfl)) g1) rfl ?_
                refine WL.gon rfl rfl rfl ?_
                refine WL.v (Runs.not rfl) rfl ?_
                refine WL.v (Runs.pick rfl rfl rfl) rfl ?_
                refine WL.nil (WN.thn ?_)
                refine WC.condF rfl (rfl) ?_
                refine WC.skip (WN.thn (WC.seq ?_))
                refine WC.eregK hL hL (fun s_ => ([9] : List Nat).any (Nat.beq s_)) mixed (by kernel_rfl) (fun hx => ?_)
                intro w41 h41
                refine WE.p0 hx 2 (by rfl) (fun w_ => Runs.fld fld39_1 rfl) rfl ?_
                refine WE.v0 12 hx 0 (by rfl) (fun w_ hE_ => Runs.loadAll hE_ 1 rfl Try.underlying25 rfl inf25 rfl rfl) rfl ?_
                refine WE.v0 12 hx 3 (by rfl) (fun w_ hE_ => Runs.loadPart (vs := #[Vi (decideM id (foldM Z0 l).1 m f).1.rc.kd, Vi (decideM id (foldM Z0 l).1 m f).1.rc.jb, Vi (decideM id (foldM Z0 l).1 m f).1.rc.ep, Vi (decideM id (foldM Z0 l).1 m f).1.rc.st, Vi (decideM id (foldM Z0 l).1 m f).1.rc.ar, .slice A95 (decideM id (foldM Z0 l).1 m f).1.rc.ls.length c95]) hE_ 0 rfl Try.underlying37 rfl inf37 rfl (by kernel_rfl) rfl) rfl ?_
                refine WE.op2 (.inr h41) (i := 1) (j := 8) (by rfl) (by rfl) (by kernel_rfl) ?_ ?_
                · skip
                  refine WL.call can12 rfl rfl (own_c _ hz hZ75 h41) ?_
                  rintro _ w42 ⟨G113, AJ113, AS113, cj113, cS113, hG113, rfl, hZ113, h42⟩
                  refine ⟨_, rfl, ?_⟩
                  replace hleF := Le.trans hleF hG113
                  replace hf := hf.mono hG113
                  replace hZ75 := hZ75.mono hG113
                  replace hrd95 := hrd95.mono hG113
                  refine WL.nil (WE.next ?_)
                  refine WE.op2 (.inr (h42.weak hG113)) (i := 4) (j := 8) (by rfl) (by rfl) (by kernel_rfl) ?_ ?_
                  · skip
                    refine WL.call can23 rfl rfl (apply_c (r := (decideM id (foldM Z0 l).1 m f).1.rc) _ hrd95 (Nat.le_trans (decide_few2 (f := f)) (by omega)) hz hZ113 h42) ?_
                    rintro _ w43 ⟨G116, AJ116, AS116, cj116, cS116, hG116, rfl, hZ116, h43⟩
                    refine ⟨_, rfl, ?_⟩
                    replace hleF := Le.trans hleF hG116
                    replace hf := hf.mono hG116
                    replace hZ75 := hZ75.mono hG116
                    replace hrd95 := hrd95.mono hG116
                    replace hZ113 := hZ113.mono hG116
                    refine WL.nil (WE.next ?_)
                    refine WE.p0 hx 5 (by rfl) (fun w_ => Runs.move rfl) rfl ?_
                    refine WE.p0 hx 6 (by rfl) (fun w_ => Runs.extract rfl rfl) rfl ?_
                    refine WE.p0 hx 7 (by rfl) (fun w_ => Runs.extract rfl rfl) rfl ?_
                    refine WE.op (.inr (h43.weak (Le.trans hG113 hG116))) (i := 8) (by rfl) (by kernel_rfl) ?_
                    refine WL.alloc' rfl h43 inf45 ?_
                    intro b10 w44 h44
                    refine WL.nil (WE.next ?_)
                    refine WE.op (.inr ((h44.weak (Le.trans hG113 hG116)).drop 0)) (i := 9) (by rfl) (by kernel_rfl) ?_
                    refine WL.storeAll h44 0 rfl rfl rfl inf45 rfl rfl rfl (Free.zero _) ?_
                    intro  w45 h45
                    try simp only [lz, ls, ez, es'] at h45
                    refine WL.nil (WE.next ?_)
                    refine WE.p0 hx 10 (by rfl) (fun w_ => Runs.assign rfl) rfl ?_
                    refine WE.fin (.inl ⟨9, rfl, by kernel_rfl⟩) (by kernel_rfl) ?_
                    refine WN.thn (WC.seq (WC.reg ?_))
                    refine WL.v (Runs.move rfl) rfl ?_
                    refine WL.v (Runs.boolT (c := true) (Runs.eql rfl rfl) (decide_eq_true (legal hok (hfr hb) (by omega) g0 g1))) rfl ?_
                    refine WL.v (Runs.move rfl) rfl ?_
                    refine WL.gon rfl rfl rfl ?_
                    refine WL.call can10 rfl rfl (live_c _ h45) ?_
                    rintro _ w46 ⟨G122, hG122, rfl, h46⟩
                    refine ⟨_, rfl, ?_⟩
                    replace hleF := Le.trans hleF hG122
                    replace hf := hf.mono hG122
                    replace hZ75 := hZ75.mono hG122
                    replace hrd95 := hrd95.mono hG122
                    replace hZ113 := hZ113.mono hG122
                    refine WL.v (Runs.pick rfl rfl rfl) rfl ?_
                    refine WL.v (Runs.assign rfl) rfl ?_
                    refine WL.nil (WN.thn (WC.ret ?_))
                    exact ret1 rfl rfl ⟨rfl, (((((h46.drop 0).drop 0).drop 0).drop 0)).weak hleF⟩
                  · skip
                    refine WL.alloc' rfl h42 inf45 ?_
                    intro b10 w47 h47
                    refine WL.nil (WE.next ?_)
                    refine WE.op (.inr ((h47.weak hG113).drop 0)) (i := 4) (by rfl) (by kernel_rfl) ?_
                    refine WL.call can23 rfl rfl (apply_c (r := (decideM id (foldM Z0 l).1 m f).1.rc) _ hrd95 (Nat.le_trans (decide_few2 (f := f)) (by omega)) hz hZ113 h47) ?_
                    rintro _ w48 ⟨G116, AJ116, AS116, cj116, cS116, hG116, rfl, hZ116, h48⟩
                    refine ⟨_, rfl, ?_⟩
                    replace hleF := Le.trans hleF hG116
                    replace hf := hf.mono hG116
                    replace hZ75 := hZ75.mono hG116
                    replace hrd95 := hrd95.mono hG116
                    replace hZ113 := hZ113.mono hG116
                    refine WL.nil (WE.next ?_)
                    refine WE.p0 hx 5 (by rfl) (fun w_ => Runs.move rfl) rfl ?_
                    refine WE.p0 hx 6 (by rfl) (fun w_ => Runs.extract rfl rfl) rfl ?_
                    refine WE.p0 hx 7 (by rfl) (fun w_ => Runs.extract rfl rfl) rfl ?_
                    refine WE.op (.inr ((h48.weak (Le.trans hG113 hG116)).drop 0)) (i := 9) (by rfl) (by kernel_rfl) ?_
                    refine WL.storeAll h48 0 rfl rfl rfl inf45 rfl rfl rfl (Free.zero _) ?_
                    intro  w49 h49
                    try simp only [lz, ls, ez, es'] at h49
                    refine WL.nil (WE.next ?_)
                    refine WE.p0 hx 10 (by rfl) (fun w_ => Runs.assign rfl) rfl ?_
                    refine WE.fin (.inl ⟨9, rfl, by kernel_rfl⟩) (by kernel_rfl) ?_
                    refine WN.thn (WC.seq (WC.reg ?_))
                    refine WL.v (Runs.move rfl) rfl ?_
                    refine WL.v (Runs.boolT (c := true) (Runs.eql rfl rfl) (decide_eq_true (legal hok (hfr hb) (by omega) g0 g1))) rfl ?_
                    refine WL.v (Runs.move rfl) rfl ?_
                    refine WL.gon rfl rfl rfl ?_
                    refine WL.call can10 rfl rfl (live_c _ h49) ?_
                    rintro _ w50 ⟨G122, hG122, rfl, h50⟩
                    refine ⟨_, rfl, ?_⟩
                    replace hleF := Le.trans hleF hG122
                    replace hf := hf.mono hG122
                    replace hZ75 := hZ75.mono hG122
                    replace hrd95 := hrd95.mono hG122
                    replace hZ113 := hZ113.mono hG122
                    refine WL.v (Runs.pick rfl rfl rfl) rfl ?_
                    refine WL.v (Runs.assign rfl) rfl ?_
                    refine WL.nil (WN.thn (WC.ret ?_))
                    exact ret1 rfl rfl ⟨rfl, (((((h50.drop 0).drop 0).drop 0).drop 0)).weak hleF⟩
                · skip
                  refine WL.alloc' rfl h41 inf45 ?_
                  intro b10 w51 h51
                  refine WL.nil (WE.next ?_)
                  refine WE.op (.inr (h51.drop 0)) (i := 1) (by rfl) (by kernel_rfl) ?_
                  refine WL.call can12 rfl rfl (own_c _ hz hZ75 h51) ?_
                  rintro _ w52 ⟨G113, AJ113, AS113, cj113, cS113, hG113, rfl, hZ113, h52⟩
                  refine ⟨_, rfl, ?_⟩
                  replace hleF := Le.trans hleF hG113
                  replace hf := hf.mono hG113
                  replace hZ75 := hZ75.mono hG113
                  replace hrd95 := hrd95.mono hG113
                  refine WL.nil (WE.next ?_)
                  refine WE.op (.inr ((h52.weak hG113).drop 0)) (i := 4) (by rfl) (by kernel_rfl) ?_
                  refine WL.call can23 rfl rfl (apply_c (r := (decideM id (foldM Z0 l).1 m f).1.rc) _ hrd95 (Nat.le_trans (decide_few2 (f := f)) (by omega)) hz hZ113 h52) ?_
                  rintro _ w53 ⟨G116, AJ116, AS116, cj116, cS116, hG116, rfl, hZ116, h53⟩
                  refine ⟨_, rfl, ?_⟩
                  replace hleF := Le.trans hleF hG116
                  replace hf := hf.mono hG116
                  replace hZ75 := hZ75.mono hG116
                  replace hrd95 := hrd95.mono hG116
                  replace hZ113 := hZ113.mono hG116
                  refine WL.nil (WE.next ?_)
                  refine WE.p0 hx 5 (by rfl) (fun w_ => Runs.move rfl) rfl ?_
                  refine WE.p0 hx 6 (by rfl) (fun w_ => Runs.extract rfl rfl) rfl ?_
                  refine WE.p0 hx 7 (by rfl) (fun w_ => Runs.extract rfl rfl) rfl ?_
                  refine WE.op (.inr ((h53.weak (Le.trans hG113 hG116)).drop 0)) (i := 9) (by rfl) (by kernel_rfl) ?_
                  refine WL.storeAll h53 0 rfl rfl rfl inf45 rfl rfl rfl (Free.zero _) ?_
                  intro  w54 h54
                  try simp only [lz, ls, ez, es'] at h54
                  refine WL.nil (WE.next ?_)
                  refine WE.p0 hx 10 (by rfl) (fun w_ => Runs.assign rfl) rfl ?_
                  refine WE.fin (.inl ⟨9, rfl, by kernel_rfl⟩) (by kernel_rfl) ?_
                  refine WN.thn (WC.seq (WC.reg ?_))
                  refine WL.v (Runs.move rfl) rfl ?_
                  refine WL.v (Runs.boolT (c := true) (Runs.eql rfl rfl) (decide_eq_true (legal hok (hfr hb) (by omega) g0 g1))) rfl ?_
                  refine WL.v (Runs.move rfl) rfl ?_
                  refine WL.gon rfl rfl rfl ?_
                  refine WL.call can10 rfl rfl (live_c _ h54) ?_
                  rintro _ w55 ⟨G122, hG122, rfl, h55⟩
                  refine ⟨_, rfl, ?_⟩
                  replace hleF := Le.trans hleF hG122
                  replace hf := hf.mono hG122
                  replace hZ75 := hZ75.mono hG122
                  replace hrd95 := hrd95.mono hG122
                  replace hZ113 := hZ113.mono hG122
                  refine WL.v (Runs.pick rfl rfl rfl) rfl ?_
                  refine WL.v (Runs.assign rfl) rfl ?_
                  refine WL.nil (WN.thn (WC.ret ?_))
                  exact ret1 rfl rfl ⟨rfl, (((((h55.drop 0).drop 0).drop 0).drop 0)).weak hleF⟩
end Rc
end Go.Proofs.Ytanlminnobonnaa
