/- The law NodeAsks. -/
import Derived.Test.YtanlminnobonnaaProg
import Derived.KernelRfl
import Derived.Test.YtanlminnobonnaaMBaseAH
import Derived.Test.YtanlminnobonnaaMN8
namespace Go.Proofs.Ytanlminnobonnaa
open Go Go.RowKit B
set_option linter.unusedVariables false
set_option linter.unusedSimpArgs false
namespace Rc

theorem inf28 : Inf Try.prog 28 (.int .i64 0) 1 8 := by unfold Inf; kernel_rfl
theorem inf33 : Inf Try.prog 33 (.agg #[.int .i64 0, .slice none 0 0, .slice none 0 0, .bool false, .int .i64 0, .int .i64 0, .int .i64 0, .int .i64 0, .int .i64 0, .int .i64 0, .int .i64 0, .string ⟨#[]⟩, .int .i64 0, .slice none 0 0, .int .i64 0, .bool false]) 16 184 := by unfold Inf; kernel_rfl
theorem fld27_6 : fldB Try.prog 27 6 6 = true := by kernel_rfl
theorem fld33_0 : fldB Try.prog 33 0 0 = true := by kernel_rfl
theorem fld33_2 : fldB Try.prog 33 2 4 = true := by kernel_rfl
theorem can9 : B.Can Try.prog 9 := ⟨_, Try.func9, by kernel_rfl, rfl⟩   -- roundhouse/roundhouselaw16.small
theorem can10 : B.Can Try.prog 10 := ⟨_, Try.func10, by kernel_rfl, rfl⟩   -- roundhouse/roundhouselaw16.live
theorem can12 : B.Can Try.prog 12 := ⟨_, Try.func12, by kernel_rfl, rfl⟩   -- roundhouse/roundhouselaw16.own
theorem can13 : B.Can Try.prog 13 := ⟨_, Try.func13, by kernel_rfl, rfl⟩   -- roundhouse/roundhouselaw16.facts
def fA (f : Fc) : Fc := ⟨0, [1073741824], f.cd, f.bz⟩
def fB (f : Fc) : Fc := ⟨0, [], f.cd, f.bz⟩
theorem kd_launch {id : Int} {z : Z} {m : M} {f : Fc} : (decideM id z m f).1.rc.kd = 1 → (decideM id z m f).1.has = true → m.kd = 2 ∧ (decideM id z m f).1 = launchA id z m f ∧ (decideM id z m f).2 = 0 := by
  unfold decideM
  split
  · intro _ h; cases h
  · split
    · show (prologA id z m f.cd).rc.kd = 1 → _
      unfold prologA
      repeat' split
      all_goals (intro h1 h2; first | exact absurd h1 (show ¬ (0 : Int) = 1 by decide) | exact absurd h1 (show ¬ (2 : Int) = 1 by decide) | exact absurd h1 (show ¬ (3 : Int) = 1 by decide) | exact absurd h1 (show ¬ (4 : Int) = 1 by decide) | exact absurd h1 (show ¬ (6 : Int) = 1 by decide) | exact absurd h1 (show ¬ (7 : Int) = 1 by decide))
    · split
      · rename_i hk; exact fun _ _ => ⟨hk, rfl, rfl⟩
      · split
        · show (releaseA id z m).rc.kd = 1 → _
          unfold releaseA
          repeat' split
          all_goals (intro h1 h2; first | exact absurd h1 (show ¬ (0 : Int) = 1 by decide) | exact absurd h1 (show ¬ (2 : Int) = 1 by decide) | exact absurd h1 (show ¬ (3 : Int) = 1 by decide) | exact absurd h1 (show ¬ (4 : Int) = 1 by decide) | exact absurd h1 (show ¬ (6 : Int) = 1 by decide) | exact absurd h1 (show ¬ (7 : Int) = 1 by decide))
        · split
          · show (abortA z m).rc.kd = 1 → _
            unfold abortA
            repeat' split
            all_goals (intro h1 h2; first | exact absurd h1 (show ¬ (0 : Int) = 1 by decide) | exact absurd h1 (show ¬ (2 : Int) = 1 by decide) | exact absurd h1 (show ¬ (3 : Int) = 1 by decide) | exact absurd h1 (show ¬ (4 : Int) = 1 by decide) | exact absurd h1 (show ¬ (6 : Int) = 1 by decide) | exact absurd h1 (show ¬ (7 : Int) = 1 by decide))
          · split
            · intro _ h; cases h
            · split
              · show (finishA id z m f).rc.kd = 1 → _
                unfold finishA
                repeat' split
                all_goals (intro h1 h2; first | exact absurd h1 (show ¬ (0 : Int) = 1 by decide) | exact absurd h1 (show ¬ (2 : Int) = 1 by decide) | exact absurd h1 (show ¬ (3 : Int) = 1 by decide) | exact absurd h1 (show ¬ (4 : Int) = 1 by decide) | exact absurd h1 (show ¬ (6 : Int) = 1 by decide) | exact absurd h1 (show ¬ (7 : Int) = 1 by decide))
              · intro _ h; cases h
theorem held_yes {id : Int} {z : Z} {m : M} {f : Fc} (hto : m.to = id) (hcd : 0 ≤ f.cd ∧ f.cd ≤ 255) (h : asksM z m = true) : decideM id z m (fA f) = (anM id m { wrM m 1 0 with rc := { (wrM m 1 0).rc with ls := [1073741824] } } 3 1, 0) ∧ decideM id z m (fB f) = (anM id m A0 3 0, 0) := by
  unfold asksM at h
  simp only [Bool.and_eq_true, decide_eq_true_eq, Bool.not_eq_true'] at h
  obtain ⟨⟨⟨⟨h1, h2⟩, h3⟩, h4⟩, h5⟩ := h
  have hp : ¬ phB z m 2 = true := by unfold phB; rw [h4]; simp
  have hs : ¬ hasS z m = true := by rw [h4]; decide
  constructor
  · unfold decideM
    rw [if_neg (by rintro (hh | hh | hh | hh); exact hh (by omega); exact hh hcd; exact hh h2; exact hh hto), if_neg (by omega), if_pos h1]
    unfold launchA
    rw [if_neg hp, if_neg hs, if_neg (by rintro (hh | hh | hh); rw [h5] at hh; cases hh; exact hh rfl; cases hh)]
    rfl
  · unfold decideM
    rw [if_neg (by rintro (hh | hh | hh | hh); exact hh (by omega); exact hh hcd; exact hh h2; exact hh hto), if_neg (by omega), if_pos h1]
    unfold launchA
    rw [if_neg hp, if_neg hs, if_pos (.inr (.inr rfl))]
theorem held_no {id : Int} {z : Z} {m : M} {f : Fc} (hto : m.to = id) (h : ¬ asksM z m = true) : (decideM id z m (fA f)).2 ≠ 0 ∨ ((decideM id z m (fA f)).2 = 0 ∧ (decideM id z m (fA f)).1.has = false) ∨ ((decideM id z m (fA f)).2 = 0 ∧ (decideM id z m (fA f)).1.has = true ∧ (decideM id z m (fA f)).1.rc.kd ≠ 1) := by
  by_cases h0 : (decideM id z m (fA f)).2 = 0
  · refine .inr ?_
    cases hh : (decideM id z m (fA f)).1.has
    · exact .inl ⟨h0, rfl⟩
    · refine .inr ⟨h0, rfl, fun hk => h ?_⟩
      obtain ⟨k1, k2, k3⟩ := kd_launch hk hh
      have hc : ¬ (¬ (0 ≤ id ∧ id ≤ 15) ∨ ¬ (0 ≤ (fA f).cd ∧ (fA f).cd ≤ 255) ∨ m.fr ≠ -1 ∨ m.to ≠ id) := by
        intro hc
        have : decideM id z m (fA f) = (A0, 1) := by unfold decideM; rw [if_pos hc]
        rw [this] at h0
        cases h0
      rw [k2] at hh
      unfold launchA at hh
      split at hh
      · cases hh
      · split at hh
        · cases hh
        · split at hh
          · cases hh
          · rename_i a1 a2 a3
            unfold asksM
            have hs : hasS z m = false := by simpa using a2
            have hu : upB z m = true := by
              cases hu : upB z m
              · exact absurd (.inl hu) a3
              · rfl
            rw [k1, hs, hu]
            have b1 : m.fr = -1 := Classical.not_not.1 fun hn => hc (.inr (.inr (.inl hn)))
            have b2 : 0 ≤ m.to ∧ m.to ≤ 15 := by rw [hto]; exact Classical.not_not.1 fun hn => hc (.inl hn)
            rw [b1, decide_eq_true b2]
            rfl
  · exact .inl h0
theorem asks4 (P Q R S : Prop) : ¬ P ∨ (P ∧ ¬ Q) ∨ (P ∧ Q ∧ ¬ R) ∨ (P ∧ Q ∧ R ∧ ¬ S) ∨ (P ∧ Q ∧ R ∧ S) := by
  by_cases h : P <;> by_cases h2 : Q <;> by_cases h3 : R <;> by_cases h4 : S <;> simp [h, h2, h3, h4]
theorem heldCase {id : Int} {z : Z} {m : M} {f : Fc} (hto : m.to = id) (hcd : 0 ≤ f.cd ∧ f.cd ≤ 255) : (asksM z m = true ∧ decideM id z m (fA f) = (anM id m { wrM m 1 0 with rc := { (wrM m 1 0).rc with ls := [1073741824] } } 3 1, 0) ∧ decideM id z m (fB f) = (anM id m A0 3 0, 0)) ∨ (asksM z m = false ∧ (decideM id z m (fA f)).2 ≠ 0) ∨ (asksM z m = false ∧ (decideM id z m (fA f)).2 = 0 ∧ (decideM id z m (fA f)).1.has = false) ∨ (asksM z m = false ∧ (decideM id z m (fA f)).2 = 0 ∧ (decideM id z m (fA f)).1.has = true ∧ (decideM id z m (fA f)).1.rc.kd ≠ 1) := by
  by_cases h : asksM z m = true
  · exact .inl ⟨h, held_yes hto hcd h⟩
  · have h' : asksM z m = false := by simpa using h
    rcases held_no (f := f) hto h with h | h | h
    · exact .inr (.inl ⟨h', h⟩)
    · exact .inr (.inr (.inl ⟨h', h⟩))
    · exact .inr (.inr (.inr ⟨h', h⟩))
set_option maxRecDepth 100000 in
set_option maxHeartbeats 64000000 in
theorem asks_law {W : World} {F : Snap} {cs : List Res} (w : World) {AJ AS : Option Addr} {cj cS : Nat} {z : Z} {m : M} {Ap : Option Addr} {cp : Nat} {f : Fc} {id : Int} (h : St W F cs w) (hR : ZR F AJ AS z) (hls : z.ss.length ≤ 9223372036854775807) (hf : RdS (Kd.one Vi) F Ap f.ps) : Calls Try.prog 8 #[.agg #[Vi id, .slice AJ z.js.length cj, .slice AS z.ss.length cS, .bool z.dr, Vi m.kd, Vi m.fr, Vi m.to, Vi m.jb, Vi m.ep, Vi m.st, Vi m.ar, .string m.tx, Vi f.cr, .slice Ap f.ps.length cp, Vi f.cd, .bool f.bz]] w fun e w' => e = .returned (.bool true) ∧ St W F cs w'  := by
  refine enter (P := Try.prog) (args := [.agg #[Vi id, .slice AJ z.js.length cj, .slice AS z.ss.length cS, .bool z.dr, Vi m.kd, Vi m.fr, Vi m.to, Vi m.jb, Vi m.ep, Vi m.st, Vi m.ar, .string m.tx, Vi f.cr, .slice Ap f.ps.length cp, Vi f.cd, .bool f.bz]]) Try.func8 rfl rfl rfl ?_
  have hleF := Le.refl F
  refine WC.seq (WC.reg ?_)
  refine WL.box rfl h rfl ?_
  intro b1 w1 h1
  refine WL.v (Runs.assign rfl) rfl ?_
  refine WL.nil (WN.thn (WC.seq (WC.seq ?_)))
  rcases asks4 (smallZ z ∧ f.ps.length ≤ 40) (¬ f.cd < 0) (¬ 255 < f.cd) (m.to = id) with hs | ⟨hs, c1⟩ | ⟨hs, c1, c2⟩ | ⟨hs, c1, c2, c3⟩ | ⟨hs, c1, c2, c3⟩
  · skip
    refine WC.reg ?_
    refine WL.v (Runs.loadAll h1 0 rfl Try.underlying33 rfl inf33 rfl rfl) rfl ?_
    refine WL.call can9 rfl rfl (small_c _ h1 hR.s hls) ?_
    rintro _ w2 ⟨rfl, h2⟩
    refine ⟨_, rfl, ?_⟩
    refine WL.v (Runs.boolT (c := true) (Runs.not rfl) (by rw [no_small hs]; rfl)) rfl ?_
    refine WL.v (Runs.move rfl) rfl ?_
    refine WL.goff rfl rfl rfl rfl ?_
    refine WL.goff rfl rfl rfl rfl ?_
    refine WL.goff rfl rfl rfl rfl ?_
    refine WL.goff rfl rfl rfl rfl ?_
    refine WL.v (Runs.pick rfl rfl rfl) rfl ?_
    refine WL.v (Runs.move rfl) rfl ?_
    refine WL.goff rfl rfl rfl rfl ?_
    refine WL.goff rfl rfl rfl rfl ?_
    refine WL.goff rfl rfl rfl rfl ?_
    refine WL.goff rfl rfl rfl rfl ?_
    refine WL.v (Runs.pick rfl rfl rfl) rfl ?_
    refine WL.v (Runs.move rfl) rfl ?_
    refine WL.goff rfl rfl rfl rfl ?_
    refine WL.goff rfl rfl rfl rfl ?_
    refine WL.goff rfl rfl rfl rfl ?_
    refine WL.goff rfl rfl rfl rfl ?_
    refine WL.goff rfl rfl rfl rfl ?_
    refine WL.goff rfl rfl rfl rfl ?_
    refine WL.v (Runs.pick rfl rfl rfl) rfl ?_
    refine WL.nil (WN.thn ?_)
    refine WC.condT rfl (rfl) ?_
    refine WC.seq (WC.reg ?_)
    refine WL.call can10 rfl rfl (live_c _ h2) ?_
    rintro _ w3 ⟨G32, hG32, rfl, h3⟩
    refine ⟨_, rfl, ?_⟩
    replace hleF := Le.trans hleF hG32
    replace hR := hR.mono hG32
    replace hf := hf.mono hG32
    refine WL.v (Runs.assign rfl) rfl ?_
    refine WL.nil (WN.thn (WC.ret ?_))
    exact ret1 rfl rfl ⟨rfl, ((h3.drop 0)).weak hleF⟩
  · skip
    refine WC.reg ?_
    refine WL.v (Runs.loadAll h1 0 rfl Try.underlying33 rfl inf33 rfl rfl) rfl ?_
    refine WL.call can9 rfl rfl (small_c _ h1 hR.s hls) ?_
    rintro _ w4 ⟨rfl, h4⟩
    refine ⟨_, rfl, ?_⟩
    refine WL.v (Runs.boolT (c := false) (Runs.not rfl) (by rw [decide_eq_true hs.1, decide_eq_true hs.2]; rfl)) rfl ?_
    refine WL.v (Runs.move rfl) rfl ?_
    refine WL.gon rfl rfl rfl ?_
    refine WL.v (Runs.fld fld33_3 rfl) rfl ?_
    refine WL.gon rfl rfl rfl ?_
    refine WL.v (Runs.fld fld31_2 rfl) rfl ?_
    refine WL.gon rfl rfl rfl ?_
    refine WL.v (Runs.load1 Try.underlying3 rfl rfl (h4.ocell (i := 0) rfl rfl)) rfl ?_
    refine WL.gon rfl rfl rfl ?_
    refine WL.v (Runs.boolT (c := true) (Runs.lss rfl rfl) (by rw [decide_eq_true_eq]; omega)) rfl ?_
    refine WL.v (Runs.pick rfl rfl rfl) rfl ?_
    refine WL.v (Runs.move rfl) rfl ?_
    refine WL.goff rfl rfl rfl rfl ?_
    refine WL.goff rfl rfl rfl rfl ?_
    refine WL.goff rfl rfl rfl rfl ?_
    refine WL.goff rfl rfl rfl rfl ?_
    refine WL.v (Runs.pick rfl rfl rfl) rfl ?_
    refine WL.v (Runs.move rfl) rfl ?_
    refine WL.goff rfl rfl rfl rfl ?_
    refine WL.goff rfl rfl rfl rfl ?_
    refine WL.goff rfl rfl rfl rfl ?_
    refine WL.goff rfl rfl rfl rfl ?_
    refine WL.goff rfl rfl rfl rfl ?_
    refine WL.goff rfl rfl rfl rfl ?_
    refine WL.v (Runs.pick rfl rfl rfl) rfl ?_
    refine WL.nil (WN.thn ?_)
    refine WC.condT rfl (rfl) ?_
    refine WC.seq (WC.reg ?_)
    refine WL.call can10 rfl rfl (live_c _ h4) ?_
    rintro _ w5 ⟨G32, hG32, rfl, h5⟩
    refine ⟨_, rfl, ?_⟩
    replace hleF := Le.trans hleF hG32
    replace hR := hR.mono hG32
    replace hf := hf.mono hG32
    refine WL.v (Runs.assign rfl) rfl ?_
    refine WL.nil (WN.thn (WC.ret ?_))
    exact ret1 rfl rfl ⟨rfl, ((h5.drop 0)).weak hleF⟩
  · skip
    refine WC.reg ?_
    refine WL.v (Runs.loadAll h1 0 rfl Try.underlying33 rfl inf33 rfl rfl) rfl ?_
    refine WL.call can9 rfl rfl (small_c _ h1 hR.s hls) ?_
    rintro _ w6 ⟨rfl, h6⟩
    refine ⟨_, rfl, ?_⟩
    refine WL.v (Runs.boolT (c := false) (Runs.not rfl) (by rw [decide_eq_true hs.1, decide_eq_true hs.2]; rfl)) rfl ?_
    refine WL.v (Runs.move rfl) rfl ?_
    refine WL.gon rfl rfl rfl ?_
    refine WL.v (Runs.fld fld33_3 rfl) rfl ?_
    refine WL.gon rfl rfl rfl ?_
    refine WL.v (Runs.fld fld31_2 rfl) rfl ?_
    refine WL.gon rfl rfl rfl ?_
    refine WL.v (Runs.load1 Try.underlying3 rfl rfl (h6.ocell (i := 0) rfl rfl)) rfl ?_
    refine WL.gon rfl rfl rfl ?_
    refine WL.v (Runs.boolT (c := false) (Runs.lss rfl rfl) (by rw [decide_eq_false_iff_not]; omega)) rfl ?_
    refine WL.v (Runs.pick rfl rfl rfl) rfl ?_
    refine WL.v (Runs.move rfl) rfl ?_
    refine WL.gon rfl rfl rfl ?_
    refine WL.v (Runs.fld fld33_3 rfl) rfl ?_
    refine WL.gon rfl rfl rfl ?_
    refine WL.v (Runs.fld fld31_2 rfl) rfl ?_
    refine WL.gon rfl rfl rfl ?_
    refine WL.v (Runs.load1 Try.underlying3 rfl rfl (h6.ocell (i := 0) rfl rfl)) rfl ?_
    refine WL.gon rfl rfl rfl ?_
    refine WL.v (Runs.boolT (c := true) (Runs.gtr rfl rfl) (by rw [decide_eq_true_eq]; omega)) rfl ?_
    refine WL.v (Runs.pick rfl rfl rfl) rfl ?_
    refine WL.v (Runs.move rfl) rfl ?_
    refine WL.goff rfl rfl rfl rfl ?_
    refine WL.goff rfl rfl rfl rfl ?_
    refine WL.goff rfl rfl rfl rfl ?_
    refine WL.goff rfl rfl rfl rfl ?_
    refine WL.goff rfl rfl rfl rfl ?_
    refine WL.goff rfl rfl rfl rfl ?_
    refine WL.v (Runs.pick rfl rfl rfl) rfl ?_
    refine WL.nil (WN.thn ?_)
    refine WC.condT rfl (rfl) ?_
    refine WC.seq (WC.reg ?_)
    refine WL.call can10 rfl rfl (live_c _ h6) ?_
    rintro _ w7 ⟨G32, hG32, rfl, h7⟩
    refine ⟨_, rfl, ?_⟩
    replace hleF := Le.trans hleF hG32
    replace hR := hR.mono hG32
    replace hf := hf.mono hG32
    refine WL.v (Runs.assign rfl) rfl ?_
    refine WL.nil (WN.thn (WC.ret ?_))
    exact ret1 rfl rfl ⟨rfl, ((h7.drop 0)).weak hleF⟩
  · skip
    refine WC.reg ?_
    refine WL.v (Runs.loadAll h1 0 rfl Try.underlying33 rfl inf33 rfl rfl) rfl ?_
    refine WL.call can9 rfl rfl (small_c _ h1 hR.s hls) ?_
    rintro _ w8 ⟨rfl, h8⟩
    refine ⟨_, rfl, ?_⟩
    refine WL.v (Runs.boolT (c := false) (Runs.not rfl) (by rw [decide_eq_true hs.1, decide_eq_true hs.2]; rfl)) rfl ?_
    refine WL.v (Runs.move rfl) rfl ?_
    refine WL.gon rfl rfl rfl ?_
    refine WL.v (Runs.fld fld33_3 rfl) rfl ?_
    refine WL.gon rfl rfl rfl ?_
    refine WL.v (Runs.fld fld31_2 rfl) rfl ?_
    refine WL.gon rfl rfl rfl ?_
    refine WL.v (Runs.load1 Try.underlying3 rfl rfl (h8.ocell (i := 0) rfl rfl)) rfl ?_
    refine WL.gon rfl rfl rfl ?_
    refine WL.v (Runs.boolT (c := false) (Runs.lss rfl rfl) (by rw [decide_eq_false_iff_not]; omega)) rfl ?_
    refine WL.v (Runs.pick rfl rfl rfl) rfl ?_
    refine WL.v (Runs.move rfl) rfl ?_
    refine WL.gon rfl rfl rfl ?_
    refine WL.v (Runs.fld fld33_3 rfl) rfl ?_
    refine WL.gon rfl rfl rfl ?_
    refine WL.v (Runs.fld fld31_2 rfl) rfl ?_
    refine WL.gon rfl rfl rfl ?_
    refine WL.v (Runs.load1 Try.underlying3 rfl rfl (h8.ocell (i := 0) rfl rfl)) rfl ?_
    refine WL.gon rfl rfl rfl ?_
    refine WL.v (Runs.boolT (c := false) (Runs.gtr rfl rfl) (by rw [decide_eq_false_iff_not]; omega)) rfl ?_
    refine WL.v (Runs.pick rfl rfl rfl) rfl ?_
    refine WL.v (Runs.move rfl) rfl ?_
    refine WL.gon rfl rfl rfl ?_
    refine WL.v (Runs.fld fld33_2 rfl) rfl ?_
    refine WL.gon rfl rfl rfl ?_
    refine WL.v (Runs.fld fld27_2 rfl) rfl ?_
    refine WL.gon rfl rfl rfl ?_
    refine WL.v (Runs.load1 Try.underlying3 rfl rfl (h8.ocell (i := 0) rfl rfl)) rfl ?_
    refine WL.gon rfl rfl rfl ?_
    refine WL.v (Runs.fld fld33_0 rfl) rfl ?_
    refine WL.gon rfl rfl rfl ?_
    refine WL.v (Runs.load1 Try.underlying3 rfl rfl (h8.ocell (i := 0) rfl rfl)) rfl ?_
    refine WL.gon rfl rfl rfl ?_
    refine WL.v (Runs.boolT (c := true) (Runs.neq rfl rfl) (by rw [decide_eq_false c3]; rfl)) rfl ?_
    refine WL.v (Runs.pick rfl rfl rfl) rfl ?_
    refine WL.nil (WN.thn ?_)
    refine WC.condT rfl (rfl) ?_
    refine WC.seq (WC.reg ?_)
    refine WL.call can10 rfl rfl (live_c _ h8) ?_
    rintro _ w9 ⟨G32, hG32, rfl, h9⟩
    refine ⟨_, rfl, ?_⟩
    replace hleF := Le.trans hleF hG32
    replace hR := hR.mono hG32
    replace hf := hf.mono hG32
    refine WL.v (Runs.assign rfl) rfl ?_
    refine WL.nil (WN.thn (WC.ret ?_))
    exact ret1 rfl rfl ⟨rfl, ((h9.drop 0)).weak hleF⟩
  · have hz := hs.1.few
    have hfn : f.ps.length ≤ 100000 := by omega
    have hcd : 0 ≤ f.cd ∧ f.cd ≤ 255 := ⟨by omega, by omega⟩
    refine WC.reg ?_
    refine WL.v (Runs.loadAll h1 0 rfl Try.underlying33 rfl inf33 rfl rfl) rfl ?_
    refine WL.call can9 rfl rfl (small_c _ h1 hR.s hls) ?_
    rintro _ w10 ⟨rfl, h10⟩
    refine ⟨_, rfl, ?_⟩
    refine WL.v (Runs.boolT (c := false) (Runs.not rfl) (by rw [decide_eq_true hs.1, decide_eq_true hs.2]; rfl)) rfl ?_
    refine WL.v (Runs.move rfl) rfl ?_
    refine WL.gon rfl rfl rfl ?_
    refine WL.v (Runs.fld fld33_3 rfl) rfl ?_
    refine WL.gon rfl rfl rfl ?_
    refine WL.v (Runs.fld fld31_2 rfl) rfl ?_
    refine WL.gon rfl rfl rfl ?_
    refine WL.v (Runs.load1 Try.underlying3 rfl rfl (h10.ocell (i := 0) rfl rfl)) rfl ?_
    refine WL.gon rfl rfl rfl ?_
    refine WL.v (Runs.boolT (c := false) (Runs.lss rfl rfl) (by rw [decide_eq_false_iff_not]; omega)) rfl ?_
    refine WL.v (Runs.pick rfl rfl rfl) rfl ?_
    refine WL.v (Runs.move rfl) rfl ?_
    refine WL.gon rfl rfl rfl ?_
    refine WL.v (Runs.fld fld33_3 rfl) rfl ?_
    refine WL.gon rfl rfl rfl ?_
    refine WL.v (Runs.fld fld31_2 rfl) rfl ?_
    refine WL.gon rfl rfl rfl ?_
    refine WL.v (Runs.load1 Try.underlying3 rfl rfl (h10.ocell (i := 0) rfl rfl)) rfl ?_
    refine WL.gon rfl rfl rfl ?_
    refine WL.v (Runs.boolT (c := false) (Runs.gtr rfl rfl) (by rw [decide_eq_false_iff_not]; omega)) rfl ?_
    refine WL.v (Runs.pick rfl rfl rfl) rfl ?_
    refine WL.v (Runs.move rfl) rfl ?_
    refine WL.gon rfl rfl rfl ?_
    refine WL.v (Runs.fld fld33_2 rfl) rfl ?_
    refine WL.gon rfl rfl rfl ?_
    refine WL.v (Runs.fld fld27_2 rfl) rfl ?_
    refine WL.gon rfl rfl rfl ?_
    refine WL.v (Runs.load1 Try.underlying3 rfl rfl (h10.ocell (i := 0) rfl rfl)) rfl ?_
    refine WL.gon rfl rfl rfl ?_
    refine WL.v (Runs.fld fld33_0 rfl) rfl ?_
    refine WL.gon rfl rfl rfl ?_
    refine WL.v (Runs.load1 Try.underlying3 rfl rfl (h10.ocell (i := 0) rfl rfl)) rfl ?_
    refine WL.gon rfl rfl rfl ?_
    refine WL.v (Runs.boolT (c := false) (Runs.neq rfl rfl) (by rw [decide_eq_true c3]; rfl)) rfl ?_
    refine WL.v (Runs.pick rfl rfl rfl) rfl ?_
    refine WL.nil (WN.thn ?_)
    refine WC.condF rfl (rfl) ?_
    refine WC.skip (WN.thn (WC.seq (WC.reg ?_)))
    refine WL.v (Runs.fld fld33_3 rfl) rfl ?_
    refine WL.v (Runs.loadPart (vs := #[Vi f.cr, .slice Ap f.ps.length cp, Vi f.cd, .bool f.bz]) h10 0 rfl Try.underlying31 rfl inf31 rfl (by kernel_rfl) rfl) rfl ?_
    refine WL.call can13 rfl rfl (facts_c _ h10) ?_
    rintro _ w11 ⟨rfl, h11⟩
    refine ⟨_, rfl, ?_⟩
    refine WL.alloc' rfl h11 inf47 ?_
    intro b3 w12 h12
    refine WL.storeAll h12 0 rfl rfl rfl inf47 rfl rfl rfl (Free.zero _) ?_
    intro  w13 h13
    try simp only [lz, ls, ez, es'] at h13
    refine WL.nil (WN.thn (WC.seq (WC.reg ?_)))
    refine WL.v (Runs.fld fld47_0 rfl) rfl ?_
    refine WL.store' h13 0 rfl rfl rfl inf28 rfl rfl (Free.zero _) (Nat.le_of_ble_eq_true rfl) ?_
    intro  w14 h14
    try simp only [lz, ls, ez, es'] at h14
    refine WL.nil (WN.thn (WC.seq (WC.reg ?_)))
    refine WL.buildSlice (vs := [Vi 1073741824]) h14 rfl Try.underlying29 (inf3.elem rfl rfl) rfl rfl rfl (by decide) ?_
    intro lit37 w15 h15
    try simp only [lz, ls, ez, es'] at h15
    obtain ⟨Gl37, hGl37, gf37, hS37⟩ := h15.freeze (i := 0) rfl
    have rd37 : RdS (Kd.one Vi) Gl37 (some ⟨lit37, 0, none⟩) [1073741824] := RdS.ints (gf37 _ List.mem_cons_self) rfl
    replace h15 := hS37
    simp only [List.eraseIdx_cons_zero] at h15
    replace hleF := Le.trans hleF hGl37
    replace hR := hR.mono hGl37
    replace hf := hf.mono hGl37
    refine WL.v (Runs.fld fld47_1 rfl) rfl ?_
    refine WL.store' h15 0 rfl rfl rfl inf29 rfl rfl (Free.zero _) (Nat.le_of_ble_eq_true rfl) ?_
    intro  w16 h16
    try simp only [lz, ls, ez, es'] at h16
    refine WL.nil (WN.thn (WC.seq ?_))
    refine WC.cutT (σ := Nat × Snap × Option Addr × Nat) (fun q_ => [(1, .pointer (some ⟨b1, 0, none⟩)), (3, .pointer (some ⟨b3, 0, none⟩)), (4, .pointer (some ⟨q_.1, 0, none⟩)), (5, Vi (decideM id z m (fA f)).2)]) (fun q_ w => Le Gl37 q_.2.1 ∧ RdS (Kd.one Vi) q_.2.1 q_.2.2.1 (decideM id z m (fA f)).1.rc.ls ∧ St W q_.2.1 ([(q_.1, .cells (acv q_.2.2.1 q_.2.2.2 (decideM id z m (fA f)).1) 39 (0, 0))] :: [(b3, .cells #[Vi 0, .slice (some ⟨lit37, 0, none⟩) 1 1, Vi f.cd, .bool f.bz] 47 (0, 0))] :: [(b1, .cells #[Vi id, .slice AJ z.js.length cj, .slice AS z.ss.length cS, .bool z.dr, Vi m.kd, Vi m.fr, Vi m.to, Vi m.jb, Vi m.ep, Vi m.st, Vi m.ar, .string m.tx, Vi f.cr, .slice Ap f.ps.length cp, Vi f.cd, .bool f.bz] 33 (0, 0))] :: cs) w) ?_ ?_
    · skip
      refine WC.eregK h16 h16 (fun s_ => ([13] : List Nat).any (Nat.beq s_)) mixed (by kernel_rfl) (fun hx => ?_)
      intro w17 h17
      refine WE.p0 hx 0 (by rfl) (fun w_ => Runs.fld fld33_0 rfl) rfl ?_
      refine WE.p0 hx 2 (by rfl) (fun w_ => Runs.fld fld33_1 rfl) rfl ?_
      refine WE.p0 hx 5 (by rfl) (fun w_ => Runs.fld fld33_2 rfl) rfl ?_
      refine WE.v0 12 hx 1 (by rfl) (fun w_ hE_ => Runs.load1 Try.underlying3 rfl rfl (hE_.ocell (i := 1) rfl rfl)) rfl ?_
      refine WE.v0 12 hx 3 (by rfl) (fun w_ hE_ => Runs.loadPart (vs := #[.slice AJ z.js.length cj, .slice AS z.ss.length cS, .bool z.dr]) hE_ 1 rfl Try.underlying25 rfl inf25 rfl (by kernel_rfl) rfl) rfl ?_
      refine WE.v0 12 hx 6 (by rfl) (fun w_ hE_ => Runs.loadPart (vs := #[Vi m.kd, Vi m.fr, Vi m.to, Vi m.jb, Vi m.ep, Vi m.st, Vi m.ar, .string m.tx]) hE_ 1 rfl Try.underlying27 rfl inf27 rfl (by kernel_rfl) rfl) rfl ?_
      refine WE.v0 12 hx 7 (by rfl) (fun w_ hE_ => Runs.loadAll hE_ 0 rfl Try.underlying47 rfl inf47 rfl rfl) rfl ?_
      refine WE.op2 (.inr h17) (i := 4) (j := 12) (by rfl) (by rfl) (by kernel_rfl) ?_ ?_
      · skip
        refine WL.call can12 rfl rfl (own_c _ hz hR h17) ?_
        rintro _ w18 ⟨G44, AJ44, AS44, cj44, cS44, hG44, rfl, hZ44, h18⟩
        refine ⟨_, rfl, ?_⟩
        replace hleF := Le.trans hleF hG44
        replace hR := hR.mono hG44
        replace hf := hf.mono hG44
        replace rd37 := rd37.mono hG44
        refine WL.nil (WE.next ?_)
        refine WE.op2 (.inr (h18.weak hG44)) (i := 8) (j := 12) (by rfl) (by rfl) (by kernel_rfl) ?_ ?_
        · skip
          refine WL.call can11 rfl rfl ((show Calls _ _ #[_, _, _, .agg #[Vi (fA f).cr, .slice (some ⟨lit37, 0, none⟩) (fA f).ps.length 1, Vi (fA f).cd, .bool (fA f).bz]] _ _ from decide_c (m := m) (f := fA f) (Ap := some ⟨lit37, 0, none⟩) (cp := 1) _ id hz hZ44 rd37 (show (1 : Nat) ≤ 100000 by decide) h18)) ?_
          rintro _ w19 ⟨G48, A48, c48, hG48, rfl, hrd48, h19⟩
          refine ⟨_, rfl, ?_⟩
          replace hleF := Le.trans hleF hG48
          replace hR := hR.mono hG48
          replace hf := hf.mono hG48
          replace rd37 := rd37.mono hG48
          replace hZ44 := hZ44.mono hG48
          refine WL.nil (WE.next ?_)
          refine WE.p0 hx 9 (by rfl) (fun w_ => Runs.move rfl) rfl ?_
          refine WE.p0 hx 10 (by rfl) (fun w_ => Runs.extract rfl rfl) rfl ?_
          refine WE.p0 hx 11 (by rfl) (fun w_ => Runs.extract rfl rfl) rfl ?_
          refine WE.op (.inr (h19.weak (Le.trans hG44 hG48))) (i := 12) (by rfl) (by kernel_rfl) ?_
          refine WL.alloc' rfl h19 inf39 ?_
          intro b4 w20 h20
          refine WL.nil (WE.next ?_)
          refine WE.op (.inr ((h20.weak (Le.trans hG44 hG48)).drop 0)) (i := 13) (by rfl) (by kernel_rfl) ?_
          refine WL.storeAll h20 0 rfl rfl rfl inf39 rfl rfl rfl (Free.zero _) ?_
          intro  w21 h21
          try simp only [lz, ls, ez, es'] at h21
          refine WL.nil (WE.next ?_)
          refine WE.p0 hx 14 (by rfl) (fun w_ => Runs.assign rfl) rfl ?_
          refine WE.fin (.inl ⟨13, rfl, by kernel_rfl⟩) (by kernel_rfl) ?_
          exact WN.at_ (⟨b4, _, A48, c48⟩ : Nat × Snap × Option Addr × Nat) (by repeat (first | exact trivial | refine ⟨rfl, ?_⟩)) ⟨(Le.trans hG44 hG48), hrd48, h21⟩
        · skip
          refine WL.alloc' rfl h18 inf39 ?_
          intro b4 w22 h22
          refine WL.nil (WE.next ?_)
          refine WE.op (.inr ((h22.weak hG44).drop 0)) (i := 8) (by rfl) (by kernel_rfl) ?_
          refine WL.call can11 rfl rfl ((show Calls _ _ #[_, _, _, .agg #[Vi (fA f).cr, .slice (some ⟨lit37, 0, none⟩) (fA f).ps.length 1, Vi (fA f).cd, .bool (fA f).bz]] _ _ from decide_c (m := m) (f := fA f) (Ap := some ⟨lit37, 0, none⟩) (cp := 1) _ id hz hZ44 rd37 (show (1 : Nat) ≤ 100000 by decide) h22)) ?_
          rintro _ w23 ⟨G48, A48, c48, hG48, rfl, hrd48, h23⟩
          refine ⟨_, rfl, ?_⟩
          replace hleF := Le.trans hleF hG48
          replace hR := hR.mono hG48
          replace hf := hf.mono hG48
          replace rd37 := rd37.mono hG48
          replace hZ44 := hZ44.mono hG48
          refine WL.nil (WE.next ?_)
          refine WE.p0 hx 9 (by rfl) (fun w_ => Runs.move rfl) rfl ?_
          refine WE.p0 hx 10 (by rfl) (fun w_ => Runs.extract rfl rfl) rfl ?_
          refine WE.p0 hx 11 (by rfl) (fun w_ => Runs.extract rfl rfl) rfl ?_
          refine WE.op (.inr ((h23.weak (Le.trans hG44 hG48)).drop 0)) (i := 13) (by rfl) (by kernel_rfl) ?_
          refine WL.storeAll h23 0 rfl rfl rfl inf39 rfl rfl rfl (Free.zero _) ?_
          intro  w24 h24
          try simp only [lz, ls, ez, es'] at h24
          refine WL.nil (WE.next ?_)
          refine WE.p0 hx 14 (by rfl) (fun w_ => Runs.assign rfl) rfl ?_
          refine WE.fin (.inl ⟨13, rfl, by kernel_rfl⟩) (by kernel_rfl) ?_
          exact WN.at_ (⟨b4, _, A48, c48⟩ : Nat × Snap × Option Addr × Nat) (by repeat (first | exact trivial | refine ⟨rfl, ?_⟩)) ⟨(Le.trans hG44 hG48), hrd48, h24⟩
      · skip
        refine WL.alloc' rfl h17 inf39 ?_
        intro b4 w25 h25
        refine WL.nil (WE.next ?_)
        refine WE.op (.inr (h25.drop 0)) (i := 4) (by rfl) (by kernel_rfl) ?_
        refine WL.call can12 rfl rfl (own_c _ hz hR h25) ?_
        rintro _ w26 ⟨G44, AJ44, AS44, cj44, cS44, hG44, rfl, hZ44, h26⟩
        refine ⟨_, rfl, ?_⟩
        replace hleF := Le.trans hleF hG44
        replace hR := hR.mono hG44
        replace hf := hf.mono hG44
        replace rd37 := rd37.mono hG44
        refine WL.nil (WE.next ?_)
        refine WE.op (.inr ((h26.weak hG44).drop 0)) (i := 8) (by rfl) (by kernel_rfl) ?_
        refine WL.call can11 rfl rfl ((show Calls _ _ #[_, _, _, .agg #[Vi (fA f).cr, .slice (some ⟨lit37, 0, none⟩) (fA f).ps.length 1, Vi (fA f).cd, .bool (fA f).bz]] _ _ from decide_c (m := m) (f := fA f) (Ap := some ⟨lit37, 0, none⟩) (cp := 1) _ id hz hZ44 rd37 (show (1 : Nat) ≤ 100000 by decide) h26)) ?_
        rintro _ w27 ⟨G48, A48, c48, hG48, rfl, hrd48, h27⟩
        refine ⟨_, rfl, ?_⟩
        replace hleF := Le.trans hleF hG48
        replace hR := hR.mono hG48
        replace hf := hf.mono hG48
        replace rd37 := rd37.mono hG48
        replace hZ44 := hZ44.mono hG48
        refine WL.nil (WE.next ?_)
        refine WE.p0 hx 9 (by rfl) (fun w_ => Runs.move rfl) rfl ?_
        refine WE.p0 hx 10 (by rfl) (fun w_ => Runs.extract rfl rfl) rfl ?_
        refine WE.p0 hx 11 (by rfl) (fun w_ => Runs.extract rfl rfl) rfl ?_
        refine WE.op (.inr ((h27.weak (Le.trans hG44 hG48)).drop 0)) (i := 13) (by rfl) (by kernel_rfl) ?_
        refine WL.storeAll h27 0 rfl rfl rfl inf39 rfl rfl rfl (Free.zero _) ?_
        intro  w28 h28
        try simp only [lz, ls, ez, es'] at h28
        refine WL.nil (WE.next ?_)
        refine WE.p0 hx 14 (by rfl) (fun w_ => Runs.assign rfl) rfl ?_
        refine WE.fin (.inl ⟨13, rfl, by kernel_rfl⟩) (by kernel_rfl) ?_
        exact WN.at_ (⟨b4, _, A48, c48⟩ : Nat × Snap × Option Addr × Nat) (by repeat (first | exact trivial | refine ⟨rfl, ?_⟩)) ⟨(Le.trans hG44 hG48), hrd48, h28⟩
    · rintro ⟨b4, G1, A48, c48⟩ w29 ⟨hleG1, hrd48, hL⟩
      dsimp only at hleG1 hrd48 hL
      replace hleF := Le.trans hleF hleG1
      replace hR := hR.mono hleG1
      replace hf := hf.mono hleG1
      replace rd37 := rd37.mono hleG1
      refine WC.seq ?_
      rcases heldCase (f := f) c3 hcd with ⟨ha, d1, d2⟩ | ⟨ha, d1⟩ | ⟨ha, d1, d2⟩ | ⟨ha, d1, d2, d3⟩
      · skip
        refine WC.reg ?_
        refine WL.v (Runs.move rfl) rfl ?_
        refine WL.v (Runs.boolT (c := true) (Runs.eql rfl rfl) (by rw [d1]; rfl)) rfl ?_
        refine WL.v (Runs.move rfl) rfl ?_
        refine WL.gon rfl rfl rfl ?_
        refine WL.v (Runs.fld fld39_0 rfl) rfl ?_
        refine WL.gon rfl rfl rfl ?_
        refine WL.v (Runs.boolT (c := true) (Runs.load1 Try.underlying4 rfl rfl (hL.ocell (i := 0) rfl rfl)) (by rw [d1]; rfl)) rfl ?_
        refine WL.v (Runs.pick rfl rfl rfl) rfl ?_
        refine WL.v (Runs.move rfl) rfl ?_
        refine WL.gon rfl rfl rfl ?_
        refine WL.v (Runs.fld fld39_1 rfl) rfl ?_
        refine WL.gon rfl rfl rfl ?_
        refine WL.v (Runs.fld fld37_0 rfl) rfl ?_
        refine WL.gon rfl rfl rfl ?_
        refine WL.v (Runs.load1 Try.underlying3 rfl rfl (hL.ocell (i := 0) rfl rfl)) rfl ?_
        refine WL.gon rfl rfl rfl ?_
        refine WL.v (Runs.boolT (c := true) (Runs.eql rfl rfl) (by rw [d1]; rfl)) rfl ?_
        refine WL.v (Runs.pick rfl rfl rfl) rfl ?_
        refine WL.v (Runs.assign rfl) rfl ?_
        refine WL.nil (WN.thn (WC.seq (WC.reg ?_)))
        refine WL.v (Runs.fld fld47_1 rfl) rfl ?_
        refine WL.store' hL 1 rfl rfl rfl inf29 rfl rfl (Free.zero _) (Nat.le_of_ble_eq_true rfl) ?_
        intro  w30 h30
        try simp only [lz, ls, ez, es'] at h30
        refine WL.nil (WN.thn (WC.seq ?_))
        refine WC.cutT (σ := Nat × Snap × Option Addr × Nat) (fun q_ => [(1, .pointer (some ⟨b1, 0, none⟩)), (6, .bool true), (3, .pointer (some ⟨b3, 0, none⟩)), (4, .pointer (some ⟨b4, 0, none⟩)), (7, .pointer (some ⟨q_.1, 0, none⟩)), (8, Vi (decideM id z m (fB f)).2)]) (fun q_ w => Le G1 q_.2.1 ∧ RdS (Kd.one Vi) q_.2.1 q_.2.2.1 (decideM id z m (fB f)).1.rc.ls ∧ St W q_.2.1 ([(q_.1, .cells (acv q_.2.2.1 q_.2.2.2 (decideM id z m (fB f)).1) 39 (0, 0))] :: [(b4, .cells (acv A48 c48 (decideM id z m (fA f)).1) 39 (0, 0))] :: [(b3, .cells #[Vi 0, .slice none 0 0, Vi f.cd, .bool f.bz] 47 (0, 0))] :: [(b1, .cells #[Vi id, .slice AJ z.js.length cj, .slice AS z.ss.length cS, .bool z.dr, Vi m.kd, Vi m.fr, Vi m.to, Vi m.jb, Vi m.ep, Vi m.st, Vi m.ar, .string m.tx, Vi f.cr, .slice Ap f.ps.length cp, Vi f.cd, .bool f.bz] 33 (0, 0))] :: cs) w) ?_ ?_
        · skip
          refine WC.eregK h30 h30 (fun s_ => ([13] : List Nat).any (Nat.beq s_)) mixed (by kernel_rfl) (fun hx => ?_)
          intro w31 h31
          refine WE.p0 hx 0 (by rfl) (fun w_ => Runs.fld fld33_0 rfl) rfl ?_
          refine WE.p0 hx 2 (by rfl) (fun w_ => Runs.fld fld33_1 rfl) rfl ?_
          refine WE.p0 hx 5 (by rfl) (fun w_ => Runs.fld fld33_2 rfl) rfl ?_
          refine WE.v0 12 hx 1 (by rfl) (fun w_ hE_ => Runs.load1 Try.underlying3 rfl rfl (hE_.ocell (i := 2) rfl rfl)) rfl ?_
          refine WE.v0 12 hx 3 (by rfl) (fun w_ hE_ => Runs.loadPart (vs := #[.slice AJ z.js.length cj, .slice AS z.ss.length cS, .bool z.dr]) hE_ 2 rfl Try.underlying25 rfl inf25 rfl (by kernel_rfl) rfl) rfl ?_
          refine WE.v0 12 hx 6 (by rfl) (fun w_ hE_ => Runs.loadPart (vs := #[Vi m.kd, Vi m.fr, Vi m.to, Vi m.jb, Vi m.ep, Vi m.st, Vi m.ar, .string m.tx]) hE_ 2 rfl Try.underlying27 rfl inf27 rfl (by kernel_rfl) rfl) rfl ?_
          refine WE.v0 12 hx 7 (by rfl) (fun w_ hE_ => Runs.loadAll hE_ 1 rfl Try.underlying47 rfl inf47 rfl rfl) rfl ?_
          refine WE.op2 (.inr h31) (i := 4) (j := 12) (by rfl) (by rfl) (by kernel_rfl) ?_ ?_
          · skip
            refine WL.call can12 rfl rfl (own_c _ hz hR h31) ?_
            rintro _ w32 ⟨G69, AJ69, AS69, cj69, cS69, hG69, rfl, hZ69, h32⟩
            refine ⟨_, rfl, ?_⟩
            replace hleF := Le.trans hleF hG69
            replace hR := hR.mono hG69
            replace hf := hf.mono hG69
            replace rd37 := rd37.mono hG69
            replace hrd48 := hrd48.mono hG69
            refine WL.nil (WE.next ?_)
            refine WE.op2 (.inr (h32.weak hG69)) (i := 8) (j := 12) (by rfl) (by rfl) (by kernel_rfl) ?_ ?_
            · skip
              refine WL.call can11 rfl rfl ((show Calls _ _ #[_, _, _, .agg #[Vi (fB f).cr, .slice none (fB f).ps.length 0, Vi (fB f).cd, .bool (fB f).bz]] _ _ from decide_c (m := m) (f := fB f) (Ap := none) (cp := 0) _ id hz hZ69 (.inl rfl) (Nat.zero_le _) h32)) ?_
              rintro _ w33 ⟨G73, A73, c73, hG73, rfl, hrd73, h33⟩
              refine ⟨_, rfl, ?_⟩
              replace hleF := Le.trans hleF hG73
              replace hR := hR.mono hG73
              replace hf := hf.mono hG73
              replace rd37 := rd37.mono hG73
              replace hrd48 := hrd48.mono hG73
              replace hZ69 := hZ69.mono hG73
              refine WL.nil (WE.next ?_)
              refine WE.p0 hx 9 (by rfl) (fun w_ => Runs.move rfl) rfl ?_
              refine WE.p0 hx 10 (by rfl) (fun w_ => Runs.extract rfl rfl) rfl ?_
              refine WE.p0 hx 11 (by rfl) (fun w_ => Runs.extract rfl rfl) rfl ?_
              refine WE.op (.inr (h33.weak (Le.trans hG69 hG73))) (i := 12) (by rfl) (by kernel_rfl) ?_
              refine WL.alloc' rfl h33 inf39 ?_
              intro b7 w34 h34
              refine WL.nil (WE.next ?_)
              refine WE.op (.inr ((h34.weak (Le.trans hG69 hG73)).drop 0)) (i := 13) (by rfl) (by kernel_rfl) ?_
              refine WL.storeAll h34 0 rfl rfl rfl inf39 rfl rfl rfl (Free.zero _) ?_
              intro  w35 h35
              try simp only [lz, ls, ez, es'] at h35
              refine WL.nil (WE.next ?_)
              refine WE.p0 hx 14 (by rfl) (fun w_ => Runs.assign rfl) rfl ?_
              refine WE.fin (.inl ⟨13, rfl, by kernel_rfl⟩) (by kernel_rfl) ?_
              exact WN.at_ (⟨b7, _, A73, c73⟩ : Nat × Snap × Option Addr × Nat) (by repeat (first | exact trivial | refine ⟨rfl, ?_⟩)) ⟨(Le.trans hG69 hG73), hrd73, h35⟩
            · skip
              refine WL.alloc' rfl h32 inf39 ?_
              intro b7 w36 h36
              refine WL.nil (WE.next ?_)
              refine WE.op (.inr ((h36.weak hG69).drop 0)) (i := 8) (by rfl) (by kernel_rfl) ?_
              refine WL.call can11 rfl rfl ((show Calls _ _ #[_, _, _, .agg #[Vi (fB f).cr, .slice none (fB f).ps.length 0, Vi (fB f).cd, .bool (fB f).bz]] _ _ from decide_c (m := m) (f := fB f) (Ap := none) (cp := 0) _ id hz hZ69 (.inl rfl) (Nat.zero_le _) h36)) ?_
              rintro _ w37 ⟨G73, A73, c73, hG73, rfl, hrd73, h37⟩
              refine ⟨_, rfl, ?_⟩
              replace hleF := Le.trans hleF hG73
              replace hR := hR.mono hG73
              replace hf := hf.mono hG73
              replace rd37 := rd37.mono hG73
              replace hrd48 := hrd48.mono hG73
              replace hZ69 := hZ69.mono hG73
              refine WL.nil (WE.next ?_)
              refine WE.p0 hx 9 (by rfl) (fun w_ => Runs.move rfl) rfl ?_
              refine WE.p0 hx 10 (by rfl) (fun w_ => Runs.extract rfl rfl) rfl ?_
              refine WE.p0 hx 11 (by rfl) (fun w_ => Runs.extract rfl rfl) rfl ?_
              refine WE.op (.inr ((h37.weak (Le.trans hG69 hG73)).drop 0)) (i := 13) (by rfl) (by kernel_rfl) ?_
              refine WL.storeAll h37 0 rfl rfl rfl inf39 rfl rfl rfl (Free.zero _) ?_
              intro  w38 h38
              try simp only [lz, ls, ez, es'] at h38
              refine WL.nil (WE.next ?_)
              refine WE.p0 hx 14 (by rfl) (fun w_ => Runs.assign rfl) rfl ?_
              refine WE.fin (.inl ⟨13, rfl, by kernel_rfl⟩) (by kernel_rfl) ?_
              exact WN.at_ (⟨b7, _, A73, c73⟩ : Nat × Snap × Option Addr × Nat) (by repeat (first | exact trivial | refine ⟨rfl, ?_⟩)) ⟨(Le.trans hG69 hG73), hrd73, h38⟩
          · skip
            refine WL.alloc' rfl h31 inf39 ?_
            intro b7 w39 h39
            refine WL.nil (WE.next ?_)
            refine WE.op (.inr (h39.drop 0)) (i := 4) (by rfl) (by kernel_rfl) ?_
            refine WL.call can12 rfl rfl (own_c _ hz hR h39) ?_
            rintro _ w40 ⟨G69, AJ69, AS69, cj69, cS69, hG69, rfl, hZ69, h40⟩
            refine ⟨_, rfl, ?_⟩
            replace hleF := Le.trans hleF hG69
            replace hR := hR.mono hG69
            replace hf := hf.mono hG69
            replace rd37 := rd37.mono hG69
            replace hrd48 := hrd48.mono hG69
            refine WL.nil (WE.next ?_)
            refine WE.op (.inr ((h40.weak hG69).drop 0)) (i := 8) (by rfl) (by kernel_rfl) ?_
            refine WL.call can11 rfl rfl ((show Calls _ _ #[_, _, _, .agg #[Vi (fB f).cr, .slice none (fB f).ps.length 0, Vi (fB f).cd, .bool (fB f).bz]] _ _ from decide_c (m := m) (f := fB f) (Ap := none) (cp := 0) _ id hz hZ69 (.inl rfl) (Nat.zero_le _) h40)) ?_
            rintro _ w41 ⟨G73, A73, c73, hG73, rfl, hrd73, h41⟩
            refine ⟨_, rfl, ?_⟩
            replace hleF := Le.trans hleF hG73
            replace hR := hR.mono hG73
            replace hf := hf.mono hG73
            replace rd37 := rd37.mono hG73
            replace hrd48 := hrd48.mono hG73
            replace hZ69 := hZ69.mono hG73
            refine WL.nil (WE.next ?_)
            refine WE.p0 hx 9 (by rfl) (fun w_ => Runs.move rfl) rfl ?_
            refine WE.p0 hx 10 (by rfl) (fun w_ => Runs.extract rfl rfl) rfl ?_
            refine WE.p0 hx 11 (by rfl) (fun w_ => Runs.extract rfl rfl) rfl ?_
            refine WE.op (.inr ((h41.weak (Le.trans hG69 hG73)).drop 0)) (i := 13) (by rfl) (by kernel_rfl) ?_
            refine WL.storeAll h41 0 rfl rfl rfl inf39 rfl rfl rfl (Free.zero _) ?_
            intro  w42 h42
            try simp only [lz, ls, ez, es'] at h42
            refine WL.nil (WE.next ?_)
            refine WE.p0 hx 14 (by rfl) (fun w_ => Runs.assign rfl) rfl ?_
            refine WE.fin (.inl ⟨13, rfl, by kernel_rfl⟩) (by kernel_rfl) ?_
            exact WN.at_ (⟨b7, _, A73, c73⟩ : Nat × Snap × Option Addr × Nat) (by repeat (first | exact trivial | refine ⟨rfl, ?_⟩)) ⟨(Le.trans hG69 hG73), hrd73, h42⟩
        · rintro ⟨b7, G2, A73, c73⟩ w43 ⟨hleG2, hrd73, hL⟩
          dsimp only at hleG2 hrd73 hL
          replace hleF := Le.trans hleF hleG2
          replace hR := hR.mono hleG2
          replace hf := hf.mono hleG2
          replace rd37 := rd37.mono hleG2
          replace hrd48 := hrd48.mono hleG2
          refine WC.seq ?_
          refine WC.eregK hL hL (fun s_ => ([] : List Nat).any (Nat.beq s_)) mixed (by kernel_rfl) (fun hx => ?_)
          intro w44 h44
          refine WE.p0 hx 0 (by rfl) (fun w_ => Runs.fld fld33_1 rfl) rfl ?_
          refine WE.p0 hx 3 (by rfl) (fun w_ => Runs.fld fld33_2 rfl) rfl ?_
          refine WE.p0 hx 6 (by rfl) (fun w_ => Runs.move rfl) rfl ?_
          refine WE.v0 12 hx 1 (by rfl) (fun w_ hE_ => Runs.loadPart (vs := #[.slice AJ z.js.length cj, .slice AS z.ss.length cS, .bool z.dr]) hE_ 3 rfl Try.underlying25 rfl inf25 rfl (by kernel_rfl) rfl) rfl ?_
          refine WE.v0 12 hx 4 (by rfl) (fun w_ hE_ => Runs.loadPart (vs := #[Vi m.kd, Vi m.fr, Vi m.to, Vi m.jb, Vi m.ep, Vi m.st, Vi m.ar, .string m.tx]) hE_ 3 rfl Try.underlying27 rfl inf27 rfl (by kernel_rfl) rfl) rfl ?_
          refine WE.op (.inr h44) (i := 2) (by rfl) (by kernel_rfl) ?_
          refine WL.call can12 rfl rfl (own_c _ hz hR h44) ?_
          rintro _ w45 ⟨G78, AJ78, AS78, cj78, cS78, hG78, rfl, hZ78, h45⟩
          refine ⟨_, rfl, ?_⟩
          replace hleF := Le.trans hleF hG78
          replace hR := hR.mono hG78
          replace hf := hf.mono hG78
          replace rd37 := rd37.mono hG78
          replace hrd48 := hrd48.mono hG78
          replace hrd73 := hrd73.mono hG78
          refine WL.nil (WE.next ?_)
          refine WE.op (.inr (h45.weak hG78)) (i := 5) (by rfl) (by kernel_rfl) ?_
          refine WL.call can17 rfl rfl (asks_c (m := m) _ hz hZ78 h45) ?_
          rintro _ w46 ⟨G81, hG81, rfl, h46⟩
          refine ⟨_, rfl, ?_⟩
          replace hleF := Le.trans hleF hG81
          replace hR := hR.mono hG81
          replace hf := hf.mono hG81
          replace rd37 := rd37.mono hG81
          replace hrd48 := hrd48.mono hG81
          replace hrd73 := hrd73.mono hG81
          replace hZ78 := hZ78.mono hG81
          refine WL.nil (WE.next ?_)
          refine WE.p0 hx 7 (by rfl) (fun w_ => Runs.boolT (c := true) (Runs.eqlb Try.underlying4 rfl rfl) (by rw [ha]; rfl)) rfl ?_
          refine WE.p0 hx 8 (by rfl) (fun w_ => Runs.move rfl) rfl ?_
          refine WE.p1 (j := 8) (b := true) hx 9 (by rfl) ⟨_, _, rfl, rfl, rfl⟩ (fun w_ => Runs.move rfl) rfl ?_
          refine WE.p1 (j := 8) (b := true) hx 10 (by rfl) ⟨_, _, rfl, rfl, rfl⟩ (fun w_ => Runs.not rfl) rfl ?_
          refine WE.p1 (j := 8) (b := true) hx 11 (by rfl) ⟨_, _, rfl, rfl, rfl⟩ (fun w_ => Runs.move rfl) rfl ?_
          refine WE.p1 (j := 11) (b := false) hx 12 (by rfl) ⟨_, _, rfl, rfl, rfl⟩ (fun w_ => Runs.fld fld39_0 rfl) rfl ?_
          refine WE.v1 (j := 11) (b := false) 12 hx 13 (by rfl) ⟨_, _, rfl, rfl, rfl⟩ (fun w_ hE_ => Runs.boolT (c := false) (Runs.load1 Try.underlying4 rfl rfl (hE_.ocell (i := 0) rfl rfl)) (by rw [d2]; rfl)) rfl ?_
          refine WE.p1 (j := 11) (b := false) hx 14 (by rfl) ⟨_, _, rfl, rfl, rfl⟩ (fun w_ => Runs.not rfl) rfl ?_
          refine WE.p1 (j := 11) (b := false) hx 15 (by rfl) ⟨_, _, rfl, rfl, rfl⟩ (fun w_ => Runs.move rfl) rfl ?_
          refine WE.p1 (j := 15) (b := true) hx 16 (by rfl) ⟨_, _, rfl, rfl, rfl⟩ (fun w_ => Runs.fld fld39_2 rfl) rfl ?_
          refine WE.v1 (j := 15) (b := true) 12 hx 17 (by rfl) ⟨_, _, rfl, rfl, rfl⟩ (fun w_ hE_ => Runs.boolT (c := true) (Runs.load1 Try.underlying4 rfl rfl (hE_.ocell (i := 0) rfl rfl)) (by rw [d2]; rfl)) rfl ?_
          refine WE.p1 (j := 11) (b := false) hx 18 (by rfl) ⟨_, _, rfl, rfl, rfl⟩ (fun w_ => Runs.pick rfl rfl rfl) rfl ?_
          refine WE.p1 (j := 11) (b := false) hx 19 (by rfl) ⟨_, _, rfl, rfl, rfl⟩ (fun w_ => Runs.move rfl) rfl ?_
          refine WE.p1 (j := 19) (b := true) hx 20 (by rfl) ⟨_, _, rfl, rfl, rfl⟩ (fun w_ => Runs.fld fld39_3 rfl) rfl ?_
          refine WE.p1 (j := 19) (b := true) hx 21 (by rfl) ⟨_, _, rfl, rfl, rfl⟩ (fun w_ => Runs.fld fld27_6 rfl) rfl ?_
          refine WE.v1 (j := 19) (b := true) 12 hx 22 (by rfl) ⟨_, _, rfl, rfl, rfl⟩ (fun w_ hE_ => Runs.load1 Try.underlying3 rfl rfl (hE_.ocell (i := 0) rfl rfl)) rfl ?_
          refine WE.p1 (j := 19) (b := true) hx 23 (by rfl) ⟨_, _, rfl, rfl, rfl⟩ (fun w_ => Runs.boolT (c := true) (Runs.eql rfl rfl) (by rw [d2]; rfl)) rfl ?_
          refine WE.p1 (j := 11) (b := false) hx 24 (by rfl) ⟨_, _, rfl, rfl, rfl⟩ (fun w_ => Runs.pick rfl rfl rfl) rfl ?_
          refine WE.p1 (j := 8) (b := true) hx 25 (by rfl) ⟨_, _, rfl, rfl, rfl⟩ (fun w_ => Runs.pick rfl rfl rfl) rfl ?_
          refine WE.p0 hx 26 (by rfl) (fun w_ => Runs.pick rfl rfl rfl) rfl ?_
          refine WE.p0 hx 27 (by rfl) (fun w_ => Runs.move rfl) rfl ?_
          refine WE.op (.inr (h46.weak (Le.trans hG78 hG81))) (i := 28) (by rfl) (by kernel_rfl) ?_
          refine WL.gon rfl rfl rfl ?_
          refine WL.call can10 rfl rfl (live_c _ h46) ?_
          rintro _ w47 ⟨G104, hG104, rfl, h47⟩
          refine ⟨_, rfl, ?_⟩
          replace hleF := Le.trans hleF hG104
          replace hR := hR.mono hG104
          replace hf := hf.mono hG104
          replace rd37 := rd37.mono hG104
          replace hrd48 := hrd48.mono hG104
          replace hrd73 := hrd73.mono hG104
          replace hZ78 := hZ78.mono hG104
          refine WL.nil (WE.next ?_)
          refine WE.p0 hx 29 (by rfl) (fun w_ => Runs.pick rfl rfl rfl) rfl ?_
          refine WE.p0 hx 30 (by rfl) (fun w_ => Runs.assign rfl) rfl ?_
          refine WE.fin (.inr (h47.weak (Le.trans (Le.trans hG78 hG81) hG104))) (by kernel_rfl) ?_
          refine WN.thn (WC.ret ?_)
          exact ret1 rfl rfl ⟨rfl, (((((h47.drop 0).drop 0).drop 0).drop 0)).weak hleF⟩
      · skip
        refine WC.reg ?_
        refine WL.v (Runs.move rfl) rfl ?_
        refine WL.v (Runs.boolT (c := false) (Runs.eql rfl rfl) (decide_eq_false d1)) rfl ?_
        refine WL.v (Runs.move rfl) rfl ?_
        refine WL.goff rfl rfl rfl rfl ?_
        refine WL.goff rfl rfl rfl rfl ?_
        refine WL.v (Runs.pick rfl rfl rfl) rfl ?_
        refine WL.v (Runs.move rfl) rfl ?_
        refine WL.goff rfl rfl rfl rfl ?_
        refine WL.goff rfl rfl rfl rfl ?_
        refine WL.goff rfl rfl rfl rfl ?_
        refine WL.goff rfl rfl rfl rfl ?_
        refine WL.v (Runs.pick rfl rfl rfl) rfl ?_
        refine WL.v (Runs.assign rfl) rfl ?_
        refine WL.nil (WN.thn (WC.seq (WC.reg ?_)))
        refine WL.v (Runs.fld fld47_1 rfl) rfl ?_
        refine WL.store' hL 1 rfl rfl rfl inf29 rfl rfl (Free.zero _) (Nat.le_of_ble_eq_true rfl) ?_
        intro  w48 h48
        try simp only [lz, ls, ez, es'] at h48
        refine WL.nil (WN.thn (WC.seq ?_))
        refine WC.cutT (σ := Nat × Snap × Option Addr × Nat) (fun q_ => [(1, .pointer (some ⟨b1, 0, none⟩)), (6, .bool false), (3, .pointer (some ⟨b3, 0, none⟩)), (4, .pointer (some ⟨b4, 0, none⟩)), (7, .pointer (some ⟨q_.1, 0, none⟩)), (8, Vi (decideM id z m (fB f)).2)]) (fun q_ w => Le G1 q_.2.1 ∧ RdS (Kd.one Vi) q_.2.1 q_.2.2.1 (decideM id z m (fB f)).1.rc.ls ∧ St W q_.2.1 ([(q_.1, .cells (acv q_.2.2.1 q_.2.2.2 (decideM id z m (fB f)).1) 39 (0, 0))] :: [(b4, .cells (acv A48 c48 (decideM id z m (fA f)).1) 39 (0, 0))] :: [(b3, .cells #[Vi 0, .slice none 0 0, Vi f.cd, .bool f.bz] 47 (0, 0))] :: [(b1, .cells #[Vi id, .slice AJ z.js.length cj, .slice AS z.ss.length cS, .bool z.dr, Vi m.kd, Vi m.fr, Vi m.to, Vi m.jb, Vi m.ep, Vi m.st, Vi m.ar, .string m.tx, Vi f.cr, .slice Ap f.ps.length cp, Vi f.cd, .bool f.bz] 33 (0, 0))] :: cs) w) ?_ ?_
        · skip
          refine WC.eregK h48 h48 (fun s_ => ([13] : List Nat).any (Nat.beq s_)) mixed (by kernel_rfl) (fun hx => ?_)
          intro w49 h49
          refine WE.p0 hx 0 (by rfl) (fun w_ => Runs.fld fld33_0 rfl) rfl ?_
          refine WE.p0 hx 2 (by rfl) (fun w_ => Runs.fld fld33_1 rfl) rfl ?_
          refine WE.p0 hx 5 (by rfl) (fun w_ => Runs.fld fld33_2 rfl) rfl ?_
          refine WE.v0 12 hx 1 (by rfl) (fun w_ hE_ => Runs.load1 Try.underlying3 rfl rfl (hE_.ocell (i := 2) rfl rfl)) rfl ?_
          refine WE.v0 12 hx 3 (by rfl) (fun w_ hE_ => Runs.loadPart (vs := #[.slice AJ z.js.length cj, .slice AS z.ss.length cS, .bool z.dr]) hE_ 2 rfl Try.underlying25 rfl inf25 rfl (by kernel_rfl) rfl) rfl ?_
          refine WE.v0 12 hx 6 (by rfl) (fun w_ hE_ => Runs.loadPart (vs := #[Vi m.kd, Vi m.fr, Vi m.to, Vi m.jb, Vi m.ep, Vi m.st, Vi m.ar, .string m.tx]) hE_ 2 rfl Try.underlying27 rfl inf27 rfl (by kernel_rfl) rfl) rfl ?_
          refine WE.v0 12 hx 7 (by rfl) (fun w_ hE_ => Runs.loadAll hE_ 1 rfl Try.underlying47 rfl inf47 rfl rfl) rfl ?_
          refine WE.op2 (.inr h49) (i := 4) (j := 12) (by rfl) (by rfl) (by kernel_rfl) ?_ ?_
          · skip
            refine WL.call can12 rfl rfl (own_c _ hz hR h49) ?_
            rintro _ w50 ⟨G69, AJ69, AS69, cj69, cS69, hG69, rfl, hZ69, h50⟩
            refine ⟨_, rfl, ?_⟩
            replace hleF := Le.trans hleF hG69
            replace hR := hR.mono hG69
            replace hf := hf.mono hG69
            replace rd37 := rd37.mono hG69
            replace hrd48 := hrd48.mono hG69
            refine WL.nil (WE.next ?_)
            refine WE.op2 (.inr (h50.weak hG69)) (i := 8) (j := 12) (by rfl) (by rfl) (by kernel_rfl) ?_ ?_
            · skip
              refine WL.call can11 rfl rfl ((show Calls _ _ #[_, _, _, .agg #[Vi (fB f).cr, .slice none (fB f).ps.length 0, Vi (fB f).cd, .bool (fB f).bz]] _ _ from decide_c (m := m) (f := fB f) (Ap := none) (cp := 0) _ id hz hZ69 (.inl rfl) (Nat.zero_le _) h50)) ?_
              rintro _ w51 ⟨G73, A73, c73, hG73, rfl, hrd73, h51⟩
              refine ⟨_, rfl, ?_⟩
              replace hleF := Le.trans hleF hG73
              replace hR := hR.mono hG73
              replace hf := hf.mono hG73
              replace rd37 := rd37.mono hG73
              replace hrd48 := hrd48.mono hG73
              replace hZ69 := hZ69.mono hG73
              refine WL.nil (WE.next ?_)
              refine WE.p0 hx 9 (by rfl) (fun w_ => Runs.move rfl) rfl ?_
              refine WE.p0 hx 10 (by rfl) (fun w_ => Runs.extract rfl rfl) rfl ?_
              refine WE.p0 hx 11 (by rfl) (fun w_ => Runs.extract rfl rfl) rfl ?_
              refine WE.op (.inr (h51.weak (Le.trans hG69 hG73))) (i := 12) (by rfl) (by kernel_rfl) ?_
              refine WL.alloc' rfl h51 inf39 ?_
              intro b7 w52 h52
              refine WL.nil (WE.next ?_)
              refine WE.op (.inr ((h52.weak (Le.trans hG69 hG73)).drop 0)) (i := 13) (by rfl) (by kernel_rfl) ?_
              refine WL.storeAll h52 0 rfl rfl rfl inf39 rfl rfl rfl (Free.zero _) ?_
              intro  w53 h53
              try simp only [lz, ls, ez, es'] at h53
              refine WL.nil (WE.next ?_)
              refine WE.p0 hx 14 (by rfl) (fun w_ => Runs.assign rfl) rfl ?_
              refine WE.fin (.inl ⟨13, rfl, by kernel_rfl⟩) (by kernel_rfl) ?_
              exact WN.at_ (⟨b7, _, A73, c73⟩ : Nat × Snap × Option Addr × Nat) (by repeat (first | exact trivial | refine ⟨rfl, ?_⟩)) ⟨(Le.trans hG69 hG73), hrd73, h53⟩
            · skip
              refine WL.alloc' rfl h50 inf39 ?_
              intro b7 w54 h54
              refine WL.nil (WE.next ?_)
              refine WE.op (.inr ((h54.weak hG69).drop 0)) (i := 8) (by rfl) (by kernel_rfl) ?_
              refine WL.call can11 rfl rfl ((show Calls _ _ #[_, _, _, .agg #[Vi (fB f).cr, .slice none (fB f).ps.length 0, Vi (fB f).cd, .bool (fB f).bz]] _ _ from decide_c (m := m) (f := fB f) (Ap := none) (cp := 0) _ id hz hZ69 (.inl rfl) (Nat.zero_le _) h54)) ?_
              rintro _ w55 ⟨G73, A73, c73, hG73, rfl, hrd73, h55⟩
              refine ⟨_, rfl, ?_⟩
              replace hleF := Le.trans hleF hG73
              replace hR := hR.mono hG73
              replace hf := hf.mono hG73
              replace rd37 := rd37.mono hG73
              replace hrd48 := hrd48.mono hG73
              replace hZ69 := hZ69.mono hG73
              refine WL.nil (WE.next ?_)
              refine WE.p0 hx 9 (by rfl) (fun w_ => Runs.move rfl) rfl ?_
              refine WE.p0 hx 10 (by rfl) (fun w_ => Runs.extract rfl rfl) rfl ?_
              refine WE.p0 hx 11 (by rfl) (fun w_ => Runs.extract rfl rfl) rfl ?_
              refine WE.op (.inr ((h55.weak (Le.trans hG69 hG73)).drop 0)) (i := 13) (by rfl) (by kernel_rfl) ?_
              refine WL.storeAll h55 0 rfl rfl rfl inf39 rfl rfl rfl (Free.zero _) ?_
              intro  w56 h56
              try simp only [lz, ls, ez, es'] at h56
              refine WL.nil (WE.next ?_)
              refine WE.p0 hx 14 (by rfl) (fun w_ => Runs.assign rfl) rfl ?_
              refine WE.fin (.inl ⟨13, rfl, by kernel_rfl⟩) (by kernel_rfl) ?_
              exact WN.at_ (⟨b7, _, A73, c73⟩ : Nat × Snap × Option Addr × Nat) (by repeat (first | exact trivial | refine ⟨rfl, ?_⟩)) ⟨(Le.trans hG69 hG73), hrd73, h56⟩
          · skip
            refine WL.alloc' rfl h49 inf39 ?_
            intro b7 w57 h57
            refine WL.nil (WE.next ?_)
            refine WE.op (.inr (h57.drop 0)) (i := 4) (by rfl) (by kernel_rfl) ?_
            refine WL.call can12 rfl rfl (own_c _ hz hR h57) ?_
            rintro _ w58 ⟨G69, AJ69, AS69, cj69, cS69, hG69, rfl, hZ69, h58⟩
            refine ⟨_, rfl, ?_⟩
            replace hleF := Le.trans hleF hG69
            replace hR := hR.mono hG69
            replace hf := hf.mono hG69
            replace rd37 := rd37.mono hG69
            replace hrd48 := hrd48.mono hG69
            refine WL.nil (WE.next ?_)
            refine WE.op (.inr ((h58.weak hG69).drop 0)) (i := 8) (by rfl) (by kernel_rfl) ?_
            refine WL.call can11 rfl rfl ((show Calls _ _ #[_, _, _, .agg #[Vi (fB f).cr, .slice none (fB f).ps.length 0, Vi (fB f).cd, .bool (fB f).bz]] _ _ from decide_c (m := m) (f := fB f) (Ap := none) (cp := 0) _ id hz hZ69 (.inl rfl) (Nat.zero_le _) h58)) ?_
            rintro _ w59 ⟨G73, A73, c73, hG73, rfl, hrd73, h59⟩
            refine ⟨_, rfl, ?_⟩
            replace hleF := Le.trans hleF hG73
            replace hR := hR.mono hG73
            replace hf := hf.mono hG73
            replace rd37 := rd37.mono hG73
            replace hrd48 := hrd48.mono hG73
            replace hZ69 := hZ69.mono hG73
            refine WL.nil (WE.next ?_)
            refine WE.p0 hx 9 (by rfl) (fun w_ => Runs.move rfl) rfl ?_
            refine WE.p0 hx 10 (by rfl) (fun w_ => Runs.extract rfl rfl) rfl ?_
            refine WE.p0 hx 11 (by rfl) (fun w_ => Runs.extract rfl rfl) rfl ?_
            refine WE.op (.inr ((h59.weak (Le.trans hG69 hG73)).drop 0)) (i := 13) (by rfl) (by kernel_rfl) ?_
            refine WL.storeAll h59 0 rfl rfl rfl inf39 rfl rfl rfl (Free.zero _) ?_
            intro  w60 h60
            try simp only [lz, ls, ez, es'] at h60
            refine WL.nil (WE.next ?_)
            refine WE.p0 hx 14 (by rfl) (fun w_ => Runs.assign rfl) rfl ?_
            refine WE.fin (.inl ⟨13, rfl, by kernel_rfl⟩) (by kernel_rfl) ?_
            exact WN.at_ (⟨b7, _, A73, c73⟩ : Nat × Snap × Option Addr × Nat) (by repeat (first | exact trivial | refine ⟨rfl, ?_⟩)) ⟨(Le.trans hG69 hG73), hrd73, h60⟩
        · rintro ⟨b7, G2, A73, c73⟩ w61 ⟨hleG2, hrd73, hL⟩
          dsimp only at hleG2 hrd73 hL
          replace hleF := Le.trans hleF hleG2
          replace hR := hR.mono hleG2
          replace hf := hf.mono hleG2
          replace rd37 := rd37.mono hleG2
          replace hrd48 := hrd48.mono hleG2
          refine WC.seq ?_
          refine WC.eregK hL hL (fun s_ => ([] : List Nat).any (Nat.beq s_)) mixed (by kernel_rfl) (fun hx => ?_)
          intro w62 h62
          refine WE.p0 hx 0 (by rfl) (fun w_ => Runs.fld fld33_1 rfl) rfl ?_
          refine WE.p0 hx 3 (by rfl) (fun w_ => Runs.fld fld33_2 rfl) rfl ?_
          refine WE.p0 hx 6 (by rfl) (fun w_ => Runs.move rfl) rfl ?_
          refine WE.v0 12 hx 1 (by rfl) (fun w_ hE_ => Runs.loadPart (vs := #[.slice AJ z.js.length cj, .slice AS z.ss.length cS, .bool z.dr]) hE_ 3 rfl Try.underlying25 rfl inf25 rfl (by kernel_rfl) rfl) rfl ?_
          refine WE.v0 12 hx 4 (by rfl) (fun w_ hE_ => Runs.loadPart (vs := #[Vi m.kd, Vi m.fr, Vi m.to, Vi m.jb, Vi m.ep, Vi m.st, Vi m.ar, .string m.tx]) hE_ 3 rfl Try.underlying27 rfl inf27 rfl (by kernel_rfl) rfl) rfl ?_
          refine WE.op (.inr h62) (i := 2) (by rfl) (by kernel_rfl) ?_
          refine WL.call can12 rfl rfl (own_c _ hz hR h62) ?_
          rintro _ w63 ⟨G78, AJ78, AS78, cj78, cS78, hG78, rfl, hZ78, h63⟩
          refine ⟨_, rfl, ?_⟩
          replace hleF := Le.trans hleF hG78
          replace hR := hR.mono hG78
          replace hf := hf.mono hG78
          replace rd37 := rd37.mono hG78
          replace hrd48 := hrd48.mono hG78
          replace hrd73 := hrd73.mono hG78
          refine WL.nil (WE.next ?_)
          refine WE.op (.inr (h63.weak hG78)) (i := 5) (by rfl) (by kernel_rfl) ?_
          refine WL.call can17 rfl rfl (asks_c (m := m) _ hz hZ78 h63) ?_
          rintro _ w64 ⟨G81, hG81, rfl, h64⟩
          refine ⟨_, rfl, ?_⟩
          replace hleF := Le.trans hleF hG81
          replace hR := hR.mono hG81
          replace hf := hf.mono hG81
          replace rd37 := rd37.mono hG81
          replace hrd48 := hrd48.mono hG81
          replace hrd73 := hrd73.mono hG81
          replace hZ78 := hZ78.mono hG81
          refine WL.nil (WE.next ?_)
          refine WE.p0 hx 7 (by rfl) (fun w_ => Runs.boolT (c := true) (Runs.eqlb Try.underlying4 rfl rfl) (by rw [ha]; rfl)) rfl ?_
          refine WE.p0 hx 8 (by rfl) (fun w_ => Runs.move rfl) rfl ?_
          refine WE.p1 (j := 8) (b := true) hx 9 (by rfl) ⟨_, _, rfl, rfl, rfl⟩ (fun w_ => Runs.move rfl) rfl ?_
          refine WE.p1 (j := 8) (b := true) hx 10 (by rfl) ⟨_, _, rfl, rfl, rfl⟩ (fun w_ => Runs.not rfl) rfl ?_
          refine WE.p1 (j := 8) (b := true) hx 11 (by rfl) ⟨_, _, rfl, rfl, rfl⟩ (fun w_ => Runs.move rfl) rfl ?_
          refine WE.o1 (j := 11) (b := false) hx 12 (by rfl) ⟨_, _, rfl, rfl, .inr rfl⟩ rfl ?_
          refine WE.o1 (j := 11) (b := false) hx 13 (by rfl) ⟨_, _, rfl, rfl, .inr rfl⟩ rfl ?_
          refine WE.o1 (j := 11) (b := false) hx 14 (by rfl) ⟨_, _, rfl, rfl, .inr rfl⟩ rfl ?_
          refine WE.o1 (j := 11) (b := false) hx 15 (by rfl) ⟨_, _, rfl, rfl, .inr rfl⟩ rfl ?_
          refine WE.o1 (j := 15) (b := true) hx 16 (by rfl) ⟨_, _, rfl, rfl, .inl rfl⟩ rfl ?_
          refine WE.o1 (j := 15) (b := true) hx 17 (by rfl) ⟨_, _, rfl, rfl, .inl rfl⟩ rfl ?_
          refine WE.o1 (j := 11) (b := false) hx 18 (by rfl) ⟨_, _, rfl, rfl, .inr rfl⟩ rfl ?_
          refine WE.o1 (j := 11) (b := false) hx 19 (by rfl) ⟨_, _, rfl, rfl, .inr rfl⟩ rfl ?_
          refine WE.o1 (j := 19) (b := true) hx 20 (by rfl) ⟨_, _, rfl, rfl, .inl rfl⟩ rfl ?_
          refine WE.o1 (j := 19) (b := true) hx 21 (by rfl) ⟨_, _, rfl, rfl, .inl rfl⟩ rfl ?_
          refine WE.o1 (j := 19) (b := true) hx 22 (by rfl) ⟨_, _, rfl, rfl, .inl rfl⟩ rfl ?_
          refine WE.o1 (j := 19) (b := true) hx 23 (by rfl) ⟨_, _, rfl, rfl, .inl rfl⟩ rfl ?_
          refine WE.o1 (j := 11) (b := false) hx 24 (by rfl) ⟨_, _, rfl, rfl, .inr rfl⟩ rfl ?_
          refine WE.p1 (j := 8) (b := true) hx 25 (by rfl) ⟨_, _, rfl, rfl, rfl⟩ (fun w_ => Runs.pick rfl rfl rfl) rfl ?_
          refine WE.p0 hx 26 (by rfl) (fun w_ => Runs.pick rfl rfl rfl) rfl ?_
          refine WE.p0 hx 27 (by rfl) (fun w_ => Runs.move rfl) rfl ?_
          refine WE.op (.inr (h64.weak (Le.trans hG78 hG81))) (i := 28) (by rfl) (by kernel_rfl) ?_
          refine WL.gon rfl rfl rfl ?_
          refine WL.call can10 rfl rfl (live_c _ h64) ?_
          rintro _ w65 ⟨G104, hG104, rfl, h65⟩
          refine ⟨_, rfl, ?_⟩
          replace hleF := Le.trans hleF hG104
          replace hR := hR.mono hG104
          replace hf := hf.mono hG104
          replace rd37 := rd37.mono hG104
          replace hrd48 := hrd48.mono hG104
          replace hrd73 := hrd73.mono hG104
          replace hZ78 := hZ78.mono hG104
          refine WL.nil (WE.next ?_)
          refine WE.p0 hx 29 (by rfl) (fun w_ => Runs.pick rfl rfl rfl) rfl ?_
          refine WE.p0 hx 30 (by rfl) (fun w_ => Runs.assign rfl) rfl ?_
          refine WE.fin (.inr (h65.weak (Le.trans (Le.trans hG78 hG81) hG104))) (by kernel_rfl) ?_
          refine WN.thn (WC.ret ?_)
          exact ret1 rfl rfl ⟨rfl, (((((h65.drop 0).drop 0).drop 0).drop 0)).weak hleF⟩
      · skip
        refine WC.reg ?_
        refine WL.v (Runs.move rfl) rfl ?_
        refine WL.v (Runs.boolT (c := true) (Runs.eql rfl rfl) (decide_eq_true d1)) rfl ?_
        refine WL.v (Runs.move rfl) rfl ?_
        refine WL.gon rfl rfl rfl ?_
        refine WL.v (Runs.fld fld39_0 rfl) rfl ?_
        refine WL.gon rfl rfl rfl ?_
        refine WL.v (Runs.boolT (c := false) (Runs.load1 Try.underlying4 rfl rfl (hL.ocell (i := 0) rfl rfl)) d2) rfl ?_
        refine WL.v (Runs.pick rfl rfl rfl) rfl ?_
        refine WL.v (Runs.move rfl) rfl ?_
        refine WL.goff rfl rfl rfl rfl ?_
        refine WL.goff rfl rfl rfl rfl ?_
        refine WL.goff rfl rfl rfl rfl ?_
        refine WL.goff rfl rfl rfl rfl ?_
        refine WL.v (Runs.pick rfl rfl rfl) rfl ?_
        refine WL.v (Runs.assign rfl) rfl ?_
        refine WL.nil (WN.thn (WC.seq (WC.reg ?_)))
        refine WL.v (Runs.fld fld47_1 rfl) rfl ?_
        refine WL.store' hL 1 rfl rfl rfl inf29 rfl rfl (Free.zero _) (Nat.le_of_ble_eq_true rfl) ?_
        intro  w66 h66
        try simp only [lz, ls, ez, es'] at h66
        refine WL.nil (WN.thn (WC.seq ?_))
        refine WC.cutT (σ := Nat × Snap × Option Addr × Nat) (fun q_ => [(1, .pointer (some ⟨b1, 0, none⟩)), (6, .bool false), (3, .pointer (some ⟨b3, 0, none⟩)), (4, .pointer (some ⟨b4, 0, none⟩)), (7, .pointer (some ⟨q_.1, 0, none⟩)), (8, Vi (decideM id z m (fB f)).2)]) (fun q_ w => Le G1 q_.2.1 ∧ RdS (Kd.one Vi) q_.2.1 q_.2.2.1 (decideM id z m (fB f)).1.rc.ls ∧ St W q_.2.1 ([(q_.1, .cells (acv q_.2.2.1 q_.2.2.2 (decideM id z m (fB f)).1) 39 (0, 0))] :: [(b4, .cells (acv A48 c48 (decideM id z m (fA f)).1) 39 (0, 0))] :: [(b3, .cells #[Vi 0, .slice none 0 0, Vi f.cd, .bool f.bz] 47 (0, 0))] :: [(b1, .cells #[Vi id, .slice AJ z.js.length cj, .slice AS z.ss.length cS, .bool z.dr, Vi m.kd, Vi m.fr, Vi m.to, Vi m.jb, Vi m.ep, Vi m.st, Vi m.ar, .string m.tx, Vi f.cr, .slice Ap f.ps.length cp, Vi f.cd, .bool f.bz] 33 (0, 0))] :: cs) w) ?_ ?_
        · skip
          refine WC.eregK h66 h66 (fun s_ => ([13] : List Nat).any (Nat.beq s_)) mixed (by kernel_rfl) (fun hx => ?_)
          intro w67 h67
          refine WE.p0 hx 0 (by rfl) (fun w_ => Runs.fld fld33_0 rfl) rfl ?_
          refine WE.p0 hx 2 (by rfl) (fun w_ => Runs.fld fld33_1 rfl) rfl ?_
          refine WE.p0 hx 5 (by rfl) (fun w_ => Runs.fld fld33_2 rfl) rfl ?_
          refine WE.v0 12 hx 1 (by rfl) (fun w_ hE_ => Runs.load1 Try.underlying3 rfl rfl (hE_.ocell (i := 2) rfl rfl)) rfl ?_
          refine WE.v0 12 hx 3 (by rfl) (fun w_ hE_ => Runs.loadPart (vs := #[.slice AJ z.js.length cj, .slice AS z.ss.length cS, .bool z.dr]) hE_ 2 rfl Try.underlying25 rfl inf25 rfl (by kernel_rfl) rfl) rfl ?_
          refine WE.v0 12 hx 6 (by rfl) (fun w_ hE_ => Runs.loadPart (vs := #[Vi m.kd, Vi m.fr, Vi m.to, Vi m.jb, Vi m.ep, Vi m.st, Vi m.ar, .string m.tx]) hE_ 2 rfl Try.underlying27 rfl inf27 rfl (by kernel_rfl) rfl) rfl ?_
          refine WE.v0 12 hx 7 (by rfl) (fun w_ hE_ => Runs.loadAll hE_ 1 rfl Try.underlying47 rfl inf47 rfl rfl) rfl ?_
          refine WE.op2 (.inr h67) (i := 4) (j := 12) (by rfl) (by rfl) (by kernel_rfl) ?_ ?_
          · skip
            refine WL.call can12 rfl rfl (own_c _ hz hR h67) ?_
            rintro _ w68 ⟨G69, AJ69, AS69, cj69, cS69, hG69, rfl, hZ69, h68⟩
            refine ⟨_, rfl, ?_⟩
            replace hleF := Le.trans hleF hG69
            replace hR := hR.mono hG69
            replace hf := hf.mono hG69
            replace rd37 := rd37.mono hG69
            replace hrd48 := hrd48.mono hG69
            refine WL.nil (WE.next ?_)
            refine WE.op2 (.inr (h68.weak hG69)) (i := 8) (j := 12) (by rfl) (by rfl) (by kernel_rfl) ?_ ?_
            · skip
              refine WL.call can11 rfl rfl ((show Calls _ _ #[_, _, _, .agg #[Vi (fB f).cr, .slice none (fB f).ps.length 0, Vi (fB f).cd, .bool (fB f).bz]] _ _ from decide_c (m := m) (f := fB f) (Ap := none) (cp := 0) _ id hz hZ69 (.inl rfl) (Nat.zero_le _) h68)) ?_
              rintro _ w69 ⟨G73, A73, c73, hG73, rfl, hrd73, h69⟩
              refine ⟨_, rfl, ?_⟩
              replace hleF := Le.trans hleF hG73
              replace hR := hR.mono hG73
              replace hf := hf.mono hG73
              replace rd37 := rd37.mono hG73
              replace hrd48 := hrd48.mono hG73
              replace hZ69 := hZ69.mono hG73
              refine WL.nil (WE.next ?_)
              refine WE.p0 hx 9 (by rfl) (fun w_ => Runs.move rfl) rfl ?_
              refine WE.p0 hx 10 (by rfl) (fun w_ => Runs.extract rfl rfl) rfl ?_
              refine WE.p0 hx 11 (by rfl) (fun w_ => Runs.extract rfl rfl) rfl ?_
              refine WE.op (.inr (h69.weak (Le.trans hG69 hG73))) (i := 12) (by rfl) (by kernel_rfl) ?_
              refine WL.alloc' rfl h69 inf39 ?_
              intro b7 w70 h70
              refine WL.nil (WE.next ?_)
              refine WE.op (.inr ((h70.weak (Le.trans hG69 hG73)).drop 0)) (i := 13) (by rfl) (by kernel_rfl) ?_
              refine WL.storeAll h70 0 rfl rfl rfl inf39 rfl rfl rfl (Free.zero _) ?_
              intro  w71 h71
              try simp only [lz, ls, ez, es'] at h71
              refine WL.nil (WE.next ?_)
              refine WE.p0 hx 14 (by rfl) (fun w_ => Runs.assign rfl) rfl ?_
              refine WE.fin (.inl ⟨13, rfl, by kernel_rfl⟩) (by kernel_rfl) ?_
              exact WN.at_ (⟨b7, _, A73, c73⟩ : Nat × Snap × Option Addr × Nat) (by repeat (first | exact trivial | refine ⟨rfl, ?_⟩)) ⟨(Le.trans hG69 hG73), hrd73, h71⟩
            · skip
              refine WL.alloc' rfl h68 inf39 ?_
              intro b7 w72 h72
              refine WL.nil (WE.next ?_)
              refine WE.op (.inr ((h72.weak hG69).drop 0)) (i := 8) (by rfl) (by kernel_rfl) ?_
              refine WL.call can11 rfl rfl ((show Calls _ _ #[_, _, _, .agg #[Vi (fB f).cr, .slice none (fB f).ps.length 0, Vi (fB f).cd, .bool (fB f).bz]] _ _ from decide_c (m := m) (f := fB f) (Ap := none) (cp := 0) _ id hz hZ69 (.inl rfl) (Nat.zero_le _) h72)) ?_
              rintro _ w73 ⟨G73, A73, c73, hG73, rfl, hrd73, h73⟩
              refine ⟨_, rfl, ?_⟩
              replace hleF := Le.trans hleF hG73
              replace hR := hR.mono hG73
              replace hf := hf.mono hG73
              replace rd37 := rd37.mono hG73
              replace hrd48 := hrd48.mono hG73
              replace hZ69 := hZ69.mono hG73
              refine WL.nil (WE.next ?_)
              refine WE.p0 hx 9 (by rfl) (fun w_ => Runs.move rfl) rfl ?_
              refine WE.p0 hx 10 (by rfl) (fun w_ => Runs.extract rfl rfl) rfl ?_
              refine WE.p0 hx 11 (by rfl) (fun w_ => Runs.extract rfl rfl) rfl ?_
              refine WE.op (.inr ((h73.weak (Le.trans hG69 hG73)).drop 0)) (i := 13) (by rfl) (by kernel_rfl) ?_
              refine WL.storeAll h73 0 rfl rfl rfl inf39 rfl rfl rfl (Free.zero _) ?_
              intro  w74 h74
              try simp only [lz, ls, ez, es'] at h74
              refine WL.nil (WE.next ?_)
              refine WE.p0 hx 14 (by rfl) (fun w_ => Runs.assign rfl) rfl ?_
              refine WE.fin (.inl ⟨13, rfl, by kernel_rfl⟩) (by kernel_rfl) ?_
              exact WN.at_ (⟨b7, _, A73, c73⟩ : Nat × Snap × Option Addr × Nat) (by repeat (first | exact trivial | refine ⟨rfl, ?_⟩)) ⟨(Le.trans hG69 hG73), hrd73, h74⟩
          · skip
            refine WL.alloc' rfl h67 inf39 ?_
            intro b7 w75 h75
            refine WL.nil (WE.next ?_)
            refine WE.op (.inr (h75.drop 0)) (i := 4) (by rfl) (by kernel_rfl) ?_
            refine WL.call can12 rfl rfl (own_c _ hz hR h75) ?_
            rintro _ w76 ⟨G69, AJ69, AS69, cj69, cS69, hG69, rfl, hZ69, h76⟩
            refine ⟨_, rfl, ?_⟩
            replace hleF := Le.trans hleF hG69
            replace hR := hR.mono hG69
            replace hf := hf.mono hG69
            replace rd37 := rd37.mono hG69
            replace hrd48 := hrd48.mono hG69
            refine WL.nil (WE.next ?_)
            refine WE.op (.inr ((h76.weak hG69).drop 0)) (i := 8) (by rfl) (by kernel_rfl) ?_
            refine WL.call can11 rfl rfl ((show Calls _ _ #[_, _, _, .agg #[Vi (fB f).cr, .slice none (fB f).ps.length 0, Vi (fB f).cd, .bool (fB f).bz]] _ _ from decide_c (m := m) (f := fB f) (Ap := none) (cp := 0) _ id hz hZ69 (.inl rfl) (Nat.zero_le _) h76)) ?_
            rintro _ w77 ⟨G73, A73, c73, hG73, rfl, hrd73, h77⟩
            refine ⟨_, rfl, ?_⟩
            replace hleF := Le.trans hleF hG73
            replace hR := hR.mono hG73
            replace hf := hf.mono hG73
            replace rd37 := rd37.mono hG73
            replace hrd48 := hrd48.mono hG73
            replace hZ69 := hZ69.mono hG73
            refine WL.nil (WE.next ?_)
            refine WE.p0 hx 9 (by rfl) (fun w_ => Runs.move rfl) rfl ?_
            refine WE.p0 hx 10 (by rfl) (fun w_ => Runs.extract rfl rfl) rfl ?_
            refine WE.p0 hx 11 (by rfl) (fun w_ => Runs.extract rfl rfl) rfl ?_
            refine WE.op (.inr ((h77.weak (Le.trans hG69 hG73)).drop 0)) (i := 13) (by rfl) (by kernel_rfl) ?_
            refine WL.storeAll h77 0 rfl rfl rfl inf39 rfl rfl rfl (Free.zero _) ?_
            intro  w78 h78
            try simp only [lz, ls, ez, es'] at h78
            refine WL.nil (WE.next ?_)
            refine WE.p0 hx 14 (by rfl) (fun w_ => Runs.assign rfl) rfl ?_
            refine WE.fin (.inl ⟨13, rfl, by kernel_rfl⟩) (by kernel_rfl) ?_
            exact WN.at_ (⟨b7, _, A73, c73⟩ : Nat × Snap × Option Addr × Nat) (by repeat (first | exact trivial | refine ⟨rfl, ?_⟩)) ⟨(Le.trans hG69 hG73), hrd73, h78⟩
        · rintro ⟨b7, G2, A73, c73⟩ w79 ⟨hleG2, hrd73, hL⟩
          dsimp only at hleG2 hrd73 hL
          replace hleF := Le.trans hleF hleG2
          replace hR := hR.mono hleG2
          replace hf := hf.mono hleG2
          replace rd37 := rd37.mono hleG2
          replace hrd48 := hrd48.mono hleG2
          refine WC.seq ?_
          refine WC.eregK hL hL (fun s_ => ([] : List Nat).any (Nat.beq s_)) mixed (by kernel_rfl) (fun hx => ?_)
          intro w80 h80
          refine WE.p0 hx 0 (by rfl) (fun w_ => Runs.fld fld33_1 rfl) rfl ?_
          refine WE.p0 hx 3 (by rfl) (fun w_ => Runs.fld fld33_2 rfl) rfl ?_
          refine WE.p0 hx 6 (by rfl) (fun w_ => Runs.move rfl) rfl ?_
          refine WE.v0 12 hx 1 (by rfl) (fun w_ hE_ => Runs.loadPart (vs := #[.slice AJ z.js.length cj, .slice AS z.ss.length cS, .bool z.dr]) hE_ 3 rfl Try.underlying25 rfl inf25 rfl (by kernel_rfl) rfl) rfl ?_
          refine WE.v0 12 hx 4 (by rfl) (fun w_ hE_ => Runs.loadPart (vs := #[Vi m.kd, Vi m.fr, Vi m.to, Vi m.jb, Vi m.ep, Vi m.st, Vi m.ar, .string m.tx]) hE_ 3 rfl Try.underlying27 rfl inf27 rfl (by kernel_rfl) rfl) rfl ?_
          refine WE.op (.inr h80) (i := 2) (by rfl) (by kernel_rfl) ?_
          refine WL.call can12 rfl rfl (own_c _ hz hR h80) ?_
          rintro _ w81 ⟨G78, AJ78, AS78, cj78, cS78, hG78, rfl, hZ78, h81⟩
          refine ⟨_, rfl, ?_⟩
          replace hleF := Le.trans hleF hG78
          replace hR := hR.mono hG78
          replace hf := hf.mono hG78
          replace rd37 := rd37.mono hG78
          replace hrd48 := hrd48.mono hG78
          replace hrd73 := hrd73.mono hG78
          refine WL.nil (WE.next ?_)
          refine WE.op (.inr (h81.weak hG78)) (i := 5) (by rfl) (by kernel_rfl) ?_
          refine WL.call can17 rfl rfl (asks_c (m := m) _ hz hZ78 h81) ?_
          rintro _ w82 ⟨G81, hG81, rfl, h82⟩
          refine ⟨_, rfl, ?_⟩
          replace hleF := Le.trans hleF hG81
          replace hR := hR.mono hG81
          replace hf := hf.mono hG81
          replace rd37 := rd37.mono hG81
          replace hrd48 := hrd48.mono hG81
          replace hrd73 := hrd73.mono hG81
          replace hZ78 := hZ78.mono hG81
          refine WL.nil (WE.next ?_)
          refine WE.p0 hx 7 (by rfl) (fun w_ => Runs.boolT (c := true) (Runs.eqlb Try.underlying4 rfl rfl) (by rw [ha]; rfl)) rfl ?_
          refine WE.p0 hx 8 (by rfl) (fun w_ => Runs.move rfl) rfl ?_
          refine WE.p1 (j := 8) (b := true) hx 9 (by rfl) ⟨_, _, rfl, rfl, rfl⟩ (fun w_ => Runs.move rfl) rfl ?_
          refine WE.p1 (j := 8) (b := true) hx 10 (by rfl) ⟨_, _, rfl, rfl, rfl⟩ (fun w_ => Runs.not rfl) rfl ?_
          refine WE.p1 (j := 8) (b := true) hx 11 (by rfl) ⟨_, _, rfl, rfl, rfl⟩ (fun w_ => Runs.move rfl) rfl ?_
          refine WE.o1 (j := 11) (b := false) hx 12 (by rfl) ⟨_, _, rfl, rfl, .inr rfl⟩ rfl ?_
          refine WE.o1 (j := 11) (b := false) hx 13 (by rfl) ⟨_, _, rfl, rfl, .inr rfl⟩ rfl ?_
          refine WE.o1 (j := 11) (b := false) hx 14 (by rfl) ⟨_, _, rfl, rfl, .inr rfl⟩ rfl ?_
          refine WE.o1 (j := 11) (b := false) hx 15 (by rfl) ⟨_, _, rfl, rfl, .inr rfl⟩ rfl ?_
          refine WE.o1 (j := 15) (b := true) hx 16 (by rfl) ⟨_, _, rfl, rfl, .inl rfl⟩ rfl ?_
          refine WE.o1 (j := 15) (b := true) hx 17 (by rfl) ⟨_, _, rfl, rfl, .inl rfl⟩ rfl ?_
          refine WE.o1 (j := 11) (b := false) hx 18 (by rfl) ⟨_, _, rfl, rfl, .inr rfl⟩ rfl ?_
          refine WE.o1 (j := 11) (b := false) hx 19 (by rfl) ⟨_, _, rfl, rfl, .inr rfl⟩ rfl ?_
          refine WE.o1 (j := 19) (b := true) hx 20 (by rfl) ⟨_, _, rfl, rfl, .inl rfl⟩ rfl ?_
          refine WE.o1 (j := 19) (b := true) hx 21 (by rfl) ⟨_, _, rfl, rfl, .inl rfl⟩ rfl ?_
          refine WE.o1 (j := 19) (b := true) hx 22 (by rfl) ⟨_, _, rfl, rfl, .inl rfl⟩ rfl ?_
          refine WE.o1 (j := 19) (b := true) hx 23 (by rfl) ⟨_, _, rfl, rfl, .inl rfl⟩ rfl ?_
          refine WE.o1 (j := 11) (b := false) hx 24 (by rfl) ⟨_, _, rfl, rfl, .inr rfl⟩ rfl ?_
          refine WE.p1 (j := 8) (b := true) hx 25 (by rfl) ⟨_, _, rfl, rfl, rfl⟩ (fun w_ => Runs.pick rfl rfl rfl) rfl ?_
          refine WE.p0 hx 26 (by rfl) (fun w_ => Runs.pick rfl rfl rfl) rfl ?_
          refine WE.p0 hx 27 (by rfl) (fun w_ => Runs.move rfl) rfl ?_
          refine WE.op (.inr (h82.weak (Le.trans hG78 hG81))) (i := 28) (by rfl) (by kernel_rfl) ?_
          refine WL.gon rfl rfl rfl ?_
          refine WL.call can10 rfl rfl (live_c _ h82) ?_
          rintro _ w83 ⟨G104, hG104, rfl, h83⟩
          refine ⟨_, rfl, ?_⟩
          replace hleF := Le.trans hleF hG104
          replace hR := hR.mono hG104
          replace hf := hf.mono hG104
          replace rd37 := rd37.mono hG104
          replace hrd48 := hrd48.mono hG104
          replace hrd73 := hrd73.mono hG104
          replace hZ78 := hZ78.mono hG104
          refine WL.nil (WE.next ?_)
          refine WE.p0 hx 29 (by rfl) (fun w_ => Runs.pick rfl rfl rfl) rfl ?_
          refine WE.p0 hx 30 (by rfl) (fun w_ => Runs.assign rfl) rfl ?_
          refine WE.fin (.inr (h83.weak (Le.trans (Le.trans hG78 hG81) hG104))) (by kernel_rfl) ?_
          refine WN.thn (WC.ret ?_)
          exact ret1 rfl rfl ⟨rfl, (((((h83.drop 0).drop 0).drop 0).drop 0)).weak hleF⟩
      · skip
        refine WC.reg ?_
        refine WL.v (Runs.move rfl) rfl ?_
        refine WL.v (Runs.boolT (c := true) (Runs.eql rfl rfl) (decide_eq_true d1)) rfl ?_
        refine WL.v (Runs.move rfl) rfl ?_
        refine WL.gon rfl rfl rfl ?_
        refine WL.v (Runs.fld fld39_0 rfl) rfl ?_
        refine WL.gon rfl rfl rfl ?_
        refine WL.v (Runs.boolT (c := true) (Runs.load1 Try.underlying4 rfl rfl (hL.ocell (i := 0) rfl rfl)) d2) rfl ?_
        refine WL.v (Runs.pick rfl rfl rfl) rfl ?_
        refine WL.v (Runs.move rfl) rfl ?_
        refine WL.gon rfl rfl rfl ?_
        refine WL.v (Runs.fld fld39_1 rfl) rfl ?_
        refine WL.gon rfl rfl rfl ?_
        refine WL.v (Runs.fld fld37_0 rfl) rfl ?_
        refine WL.gon rfl rfl rfl ?_
        refine WL.v (Runs.load1 Try.underlying3 rfl rfl (hL.ocell (i := 0) rfl rfl)) rfl ?_
        refine WL.gon rfl rfl rfl ?_
        refine WL.v (Runs.boolT (c := false) (Runs.eql rfl rfl) (decide_eq_false d3)) rfl ?_
        refine WL.v (Runs.pick rfl rfl rfl) rfl ?_
        refine WL.v (Runs.assign rfl) rfl ?_
        refine WL.nil (WN.thn (WC.seq (WC.reg ?_)))
        refine WL.v (Runs.fld fld47_1 rfl) rfl ?_
        refine WL.store' hL 1 rfl rfl rfl inf29 rfl rfl (Free.zero _) (Nat.le_of_ble_eq_true rfl) ?_
        intro  w84 h84
        try simp only [lz, ls, ez, es'] at h84
        refine WL.nil (WN.thn (WC.seq ?_))
        refine WC.cutT (σ := Nat × Snap × Option Addr × Nat) (fun q_ => [(1, .pointer (some ⟨b1, 0, none⟩)), (6, .bool false), (3, .pointer (some ⟨b3, 0, none⟩)), (4, .pointer (some ⟨b4, 0, none⟩)), (7, .pointer (some ⟨q_.1, 0, none⟩)), (8, Vi (decideM id z m (fB f)).2)]) (fun q_ w => Le G1 q_.2.1 ∧ RdS (Kd.one Vi) q_.2.1 q_.2.2.1 (decideM id z m (fB f)).1.rc.ls ∧ St W q_.2.1 ([(q_.1, .cells (acv q_.2.2.1 q_.2.2.2 (decideM id z m (fB f)).1) 39 (0, 0))] :: [(b4, .cells (acv A48 c48 (decideM id z m (fA f)).1) 39 (0, 0))] :: [(b3, .cells #[Vi 0, .slice none 0 0, Vi f.cd, .bool f.bz] 47 (0, 0))] :: [(b1, .cells #[Vi id, .slice AJ z.js.length cj, .slice AS z.ss.length cS, .bool z.dr, Vi m.kd, Vi m.fr, Vi m.to, Vi m.jb, Vi m.ep, Vi m.st, Vi m.ar, .string m.tx, Vi f.cr, .slice Ap f.ps.length cp, Vi f.cd, .bool f.bz] 33 (0, 0))] :: cs) w) ?_ ?_
        · skip
          refine WC.eregK h84 h84 (fun s_ => ([13] : List Nat).any (Nat.beq s_)) mixed (by kernel_rfl) (fun hx => ?_)
          intro w85 h85
          refine WE.p0 hx 0 (by rfl) (fun w_ => Runs.fld fld33_0 rfl) rfl ?_
          refine WE.p0 hx 2 (by rfl) (fun w_ => Runs.fld fld33_1 rfl) rfl ?_
          refine WE.p0 hx 5 (by rfl) (fun w_ => Runs.fld fld33_2 rfl) rfl ?_
          refine WE.v0 12 hx 1 (by rfl) (fun w_ hE_ => Runs.load1 Try.underlying3 rfl rfl (hE_.ocell (i := 2) rfl rfl)) rfl ?_
          refine WE.v0 12 hx 3 (by rfl) (fun w_ hE_ => Runs.loadPart (vs := #[.slice AJ z.js.length cj, .slice AS z.ss.length cS, .bool z.dr]) hE_ 2 rfl Try.underlying25 rfl inf25 rfl (by kernel_rfl) rfl) rfl ?_
          refine WE.v0 12 hx 6 (by rfl) (fun w_ hE_ => Runs.loadPart (vs := #[Vi m.kd, Vi m.fr, Vi m.to, Vi m.jb, Vi m.ep, Vi m.st, Vi m.ar, .string m.tx]) hE_ 2 rfl Try.underlying27 rfl inf27 rfl (by kernel_rfl) rfl) rfl ?_
          refine WE.v0 12 hx 7 (by rfl) (fun w_ hE_ => Runs.loadAll hE_ 1 rfl Try.underlying47 rfl inf47 rfl rfl) rfl ?_
          refine WE.op2 (.inr h85) (i := 4) (j := 12) (by rfl) (by rfl) (by kernel_rfl) ?_ ?_
          · skip
            refine WL.call can12 rfl rfl (own_c _ hz hR h85) ?_
            rintro _ w86 ⟨G69, AJ69, AS69, cj69, cS69, hG69, rfl, hZ69, h86⟩
            refine ⟨_, rfl, ?_⟩
            replace hleF := Le.trans hleF hG69
            replace hR := hR.mono hG69
            replace hf := hf.mono hG69
            replace rd37 := rd37.mono hG69
            replace hrd48 := hrd48.mono hG69
            refine WL.nil (WE.next ?_)
            refine WE.op2 (.inr (h86.weak hG69)) (i := 8) (j := 12) (by rfl) (by rfl) (by kernel_rfl) ?_ ?_
            · skip
              refine WL.call can11 rfl rfl ((show Calls _ _ #[_, _, _, .agg #[Vi (fB f).cr, .slice none (fB f).ps.length 0, Vi (fB f).cd, .bool (fB f).bz]] _ _ from decide_c (m := m) (f := fB f) (Ap := none) (cp := 0) _ id hz hZ69 (.inl rfl) (Nat.zero_le _) h86)) ?_
              rintro _ w87 ⟨G73, A73, c73, hG73, rfl, hrd73, h87⟩
              refine ⟨_, rfl, ?_⟩
              replace hleF := Le.trans hleF hG73
              replace hR := hR.mono hG73
              replace hf := hf.mono hG73
              replace rd37 := rd37.mono hG73
              replace hrd48 := hrd48.mono hG73
              replace hZ69 := hZ69.mono hG73
              refine WL.nil (WE.next ?_)
              refine WE.p0 hx 9 (by rfl) (fun w_ => Runs.move rfl) rfl ?_
              refine WE.p0 hx 10 (by rfl) (fun w_ => Runs.extract rfl rfl) rfl ?_
              refine WE.p0 hx 11 (by rfl) (fun w_ => Runs.extract rfl rfl) rfl ?_
              refine WE.op (.inr (h87.weak (Le.trans hG69 hG73))) (i := 12) (by rfl) (by kernel_rfl) ?_
              refine WL.alloc' rfl h87 inf39 ?_
              intro b7 w88 h88
              refine WL.nil (WE.next ?_)
              refine WE.op (.inr ((h88.weak (Le.trans hG69 hG73)).drop 0)) (i := 13) (by rfl) (by kernel_rfl) ?_
              refine WL.storeAll h88 0 rfl rfl rfl inf39 rfl rfl rfl (Free.zero _) ?_
              intro  w89 h89
              try simp only [lz, ls, ez, es'] at h89
              refine WL.nil (WE.next ?_)
              refine WE.p0 hx 14 (by rfl) (fun w_ => Runs.assign rfl) rfl ?_
              refine WE.fin (.inl ⟨13, rfl, by kernel_rfl⟩) (by kernel_rfl) ?_
              exact WN.at_ (⟨b7, _, A73, c73⟩ : Nat × Snap × Option Addr × Nat) (by repeat (first | exact trivial | refine ⟨rfl, ?_⟩)) ⟨(Le.trans hG69 hG73), hrd73, h89⟩
            · skip
              refine WL.alloc' rfl h86 inf39 ?_
              intro b7 w90 h90
              refine WL.nil (WE.next ?_)
              refine WE.op (.inr ((h90.weak hG69).drop 0)) (i := 8) (by rfl) (by kernel_rfl) ?_
              refine WL.call can11 rfl rfl ((show Calls _ _ #[_, _, _, .agg #[Vi (fB f).cr, .slice none (fB f).ps.length 0, Vi (fB f).cd, .bool (fB f).bz]] _ _ from decide_c (m := m) (f := fB f) (Ap := none) (cp := 0) _ id hz hZ69 (.inl rfl) (Nat.zero_le _) h90)) ?_
              rintro _ w91 ⟨G73, A73, c73, hG73, rfl, hrd73, h91⟩
              refine ⟨_, rfl, ?_⟩
              replace hleF := Le.trans hleF hG73
              replace hR := hR.mono hG73
              replace hf := hf.mono hG73
              replace rd37 := rd37.mono hG73
              replace hrd48 := hrd48.mono hG73
              replace hZ69 := hZ69.mono hG73
              refine WL.nil (WE.next ?_)
              refine WE.p0 hx 9 (by rfl) (fun w_ => Runs.move rfl) rfl ?_
              refine WE.p0 hx 10 (by rfl) (fun w_ => Runs.extract rfl rfl) rfl ?_
              refine WE.p0 hx 11 (by rfl) (fun w_ => Runs.extract rfl rfl) rfl ?_
              refine WE.op (.inr ((h91.weak (Le.trans hG69 hG73)).drop 0)) (i := 13) (by rfl) (by kernel_rfl) ?_
              refine WL.storeAll h91 0 rfl rfl rfl inf39 rfl rfl rfl (Free.zero _) ?_
              intro  w92 h92
              try simp only [lz, ls, ez, es'] at h92
              refine WL.nil (WE.next ?_)
              refine WE.p0 hx 14 (by rfl) (fun w_ => Runs.assign rfl) rfl ?_
              refine WE.fin (.inl ⟨13, rfl, by kernel_rfl⟩) (by kernel_rfl) ?_
              exact WN.at_ (⟨b7, _, A73, c73⟩ : Nat × Snap × Option Addr × Nat) (by repeat (first | exact trivial | refine ⟨rfl, ?_⟩)) ⟨(Le.trans hG69 hG73), hrd73, h92⟩
          · skip
            refine WL.alloc' rfl h85 inf39 ?_
            intro b7 w93 h93
            refine WL.nil (WE.next ?_)
            refine WE.op (.inr (h93.drop 0)) (i := 4) (by rfl) (by kernel_rfl) ?_
            refine WL.call can12 rfl rfl (own_c _ hz hR h93) ?_
            rintro _ w94 ⟨G69, AJ69, AS69, cj69, cS69, hG69, rfl, hZ69, h94⟩
            refine ⟨_, rfl, ?_⟩
            replace hleF := Le.trans hleF hG69
            replace hR := hR.mono hG69
            replace hf := hf.mono hG69
            replace rd37 := rd37.mono hG69
            replace hrd48 := hrd48.mono hG69
            refine WL.nil (WE.next ?_)
            refine WE.op (.inr ((h94.weak hG69).drop 0)) (i := 8) (by rfl) (by kernel_rfl) ?_
            refine WL.call can11 rfl rfl ((show Calls _ _ #[_, _, _, .agg #[Vi (fB f).cr, .slice none (fB f).ps.length 0, Vi (fB f).cd, .bool (fB f).bz]] _ _ from decide_c (m := m) (f := fB f) (Ap := none) (cp := 0) _ id hz hZ69 (.inl rfl) (Nat.zero_le _) h94)) ?_
            rintro _ w95 ⟨G73, A73, c73, hG73, rfl, hrd73, h95⟩
            refine ⟨_, rfl, ?_⟩
            replace hleF := Le.trans hleF hG73
            replace hR := hR.mono hG73
            replace hf := hf.mono hG73
            replace rd37 := rd37.mono hG73
            replace hrd48 := hrd48.mono hG73
            replace hZ69 := hZ69.mono hG73
            refine WL.nil (WE.next ?_)
            refine WE.p0 hx 9 (by rfl) (fun w_ => Runs.move rfl) rfl ?_
            refine WE.p0 hx 10 (by rfl) (fun w_ => Runs.extract rfl rfl) rfl ?_
            refine WE.p0 hx 11 (by rfl) (fun w_ => Runs.extract rfl rfl) rfl ?_
            refine WE.op (.inr ((h95.weak (Le.trans hG69 hG73)).drop 0)) (i := 13) (by rfl) (by kernel_rfl) ?_
            refine WL.storeAll h95 0 rfl rfl rfl inf39 rfl rfl rfl (Free.zero _) ?_
            intro  w96 h96
            try simp only [lz, ls, ez, es'] at h96
            refine WL.nil (WE.next ?_)
            refine WE.p0 hx 14 (by rfl) (fun w_ => Runs.assign rfl) rfl ?_
            refine WE.fin (.inl ⟨13, rfl, by kernel_rfl⟩) (by kernel_rfl) ?_
            exact WN.at_ (⟨b7, _, A73, c73⟩ : Nat × Snap × Option Addr × Nat) (by repeat (first | exact trivial | refine ⟨rfl, ?_⟩)) ⟨(Le.trans hG69 hG73), hrd73, h96⟩
        · rintro ⟨b7, G2, A73, c73⟩ w97 ⟨hleG2, hrd73, hL⟩
          dsimp only at hleG2 hrd73 hL
          replace hleF := Le.trans hleF hleG2
          replace hR := hR.mono hleG2
          replace hf := hf.mono hleG2
          replace rd37 := rd37.mono hleG2
          replace hrd48 := hrd48.mono hleG2
          refine WC.seq ?_
          refine WC.eregK hL hL (fun s_ => ([] : List Nat).any (Nat.beq s_)) mixed (by kernel_rfl) (fun hx => ?_)
          intro w98 h98
          refine WE.p0 hx 0 (by rfl) (fun w_ => Runs.fld fld33_1 rfl) rfl ?_
          refine WE.p0 hx 3 (by rfl) (fun w_ => Runs.fld fld33_2 rfl) rfl ?_
          refine WE.p0 hx 6 (by rfl) (fun w_ => Runs.move rfl) rfl ?_
          refine WE.v0 12 hx 1 (by rfl) (fun w_ hE_ => Runs.loadPart (vs := #[.slice AJ z.js.length cj, .slice AS z.ss.length cS, .bool z.dr]) hE_ 3 rfl Try.underlying25 rfl inf25 rfl (by kernel_rfl) rfl) rfl ?_
          refine WE.v0 12 hx 4 (by rfl) (fun w_ hE_ => Runs.loadPart (vs := #[Vi m.kd, Vi m.fr, Vi m.to, Vi m.jb, Vi m.ep, Vi m.st, Vi m.ar, .string m.tx]) hE_ 3 rfl Try.underlying27 rfl inf27 rfl (by kernel_rfl) rfl) rfl ?_
          refine WE.op (.inr h98) (i := 2) (by rfl) (by kernel_rfl) ?_
          refine WL.call can12 rfl rfl (own_c _ hz hR h98) ?_
          rintro _ w99 ⟨G78, AJ78, AS78, cj78, cS78, hG78, rfl, hZ78, h99⟩
          refine ⟨_, rfl, ?_⟩
          replace hleF := Le.trans hleF hG78
          replace hR := hR.mono hG78
          replace hf := hf.mono hG78
          replace rd37 := rd37.mono hG78
          replace hrd48 := hrd48.mono hG78
          replace hrd73 := hrd73.mono hG78
          refine WL.nil (WE.next ?_)
          refine WE.op (.inr (h99.weak hG78)) (i := 5) (by rfl) (by kernel_rfl) ?_
          refine WL.call can17 rfl rfl (asks_c (m := m) _ hz hZ78 h99) ?_
          rintro _ w100 ⟨G81, hG81, rfl, h100⟩
          refine ⟨_, rfl, ?_⟩
          replace hleF := Le.trans hleF hG81
          replace hR := hR.mono hG81
          replace hf := hf.mono hG81
          replace rd37 := rd37.mono hG81
          replace hrd48 := hrd48.mono hG81
          replace hrd73 := hrd73.mono hG81
          replace hZ78 := hZ78.mono hG81
          refine WL.nil (WE.next ?_)
          refine WE.p0 hx 7 (by rfl) (fun w_ => Runs.boolT (c := true) (Runs.eqlb Try.underlying4 rfl rfl) (by rw [ha]; rfl)) rfl ?_
          refine WE.p0 hx 8 (by rfl) (fun w_ => Runs.move rfl) rfl ?_
          refine WE.p1 (j := 8) (b := true) hx 9 (by rfl) ⟨_, _, rfl, rfl, rfl⟩ (fun w_ => Runs.move rfl) rfl ?_
          refine WE.p1 (j := 8) (b := true) hx 10 (by rfl) ⟨_, _, rfl, rfl, rfl⟩ (fun w_ => Runs.not rfl) rfl ?_
          refine WE.p1 (j := 8) (b := true) hx 11 (by rfl) ⟨_, _, rfl, rfl, rfl⟩ (fun w_ => Runs.move rfl) rfl ?_
          refine WE.o1 (j := 11) (b := false) hx 12 (by rfl) ⟨_, _, rfl, rfl, .inr rfl⟩ rfl ?_
          refine WE.o1 (j := 11) (b := false) hx 13 (by rfl) ⟨_, _, rfl, rfl, .inr rfl⟩ rfl ?_
          refine WE.o1 (j := 11) (b := false) hx 14 (by rfl) ⟨_, _, rfl, rfl, .inr rfl⟩ rfl ?_
          refine WE.o1 (j := 11) (b := false) hx 15 (by rfl) ⟨_, _, rfl, rfl, .inr rfl⟩ rfl ?_
          refine WE.o1 (j := 15) (b := true) hx 16 (by rfl) ⟨_, _, rfl, rfl, .inl rfl⟩ rfl ?_
          refine WE.o1 (j := 15) (b := true) hx 17 (by rfl) ⟨_, _, rfl, rfl, .inl rfl⟩ rfl ?_
          refine WE.o1 (j := 11) (b := false) hx 18 (by rfl) ⟨_, _, rfl, rfl, .inr rfl⟩ rfl ?_
          refine WE.o1 (j := 11) (b := false) hx 19 (by rfl) ⟨_, _, rfl, rfl, .inr rfl⟩ rfl ?_
          refine WE.o1 (j := 19) (b := true) hx 20 (by rfl) ⟨_, _, rfl, rfl, .inl rfl⟩ rfl ?_
          refine WE.o1 (j := 19) (b := true) hx 21 (by rfl) ⟨_, _, rfl, rfl, .inl rfl⟩ rfl ?_
          refine WE.o1 (j := 19) (b := true) hx 22 (by rfl) ⟨_, _, rfl, rfl, .inl rfl⟩ rfl ?_
          refine WE.o1 (j := 19) (b := true) hx 23 (by rfl) ⟨_, _, rfl, rfl, .inl rfl⟩ rfl ?_
          refine WE.o1 (j := 11) (b := false) hx 24 (by rfl) ⟨_, _, rfl, rfl, .inr rfl⟩ rfl ?_
          refine WE.p1 (j := 8) (b := true) hx 25 (by rfl) ⟨_, _, rfl, rfl, rfl⟩ (fun w_ => Runs.pick rfl rfl rfl) rfl ?_
          refine WE.p0 hx 26 (by rfl) (fun w_ => Runs.pick rfl rfl rfl) rfl ?_
          refine WE.p0 hx 27 (by rfl) (fun w_ => Runs.move rfl) rfl ?_
          refine WE.op (.inr (h100.weak (Le.trans hG78 hG81))) (i := 28) (by rfl) (by kernel_rfl) ?_
          refine WL.gon rfl rfl rfl ?_
          refine WL.call can10 rfl rfl (live_c _ h100) ?_
          rintro _ w101 ⟨G104, hG104, rfl, h101⟩
          refine ⟨_, rfl, ?_⟩
          replace hleF := Le.trans hleF hG104
          replace hR := hR.mono hG104
          replace hf := hf.mono hG104
          replace rd37 := rd37.mono hG104
          replace hrd48 := hrd48.mono hG104
          replace hrd73 := hrd73.mono hG104
          replace hZ78 := hZ78.mono hG104
          refine WL.nil (WE.next ?_)
          refine WE.p0 hx 29 (by rfl) (fun w_ => Runs.pick rfl rfl rfl) rfl ?_
          refine WE.p0 hx 30 (by rfl) (fun w_ => Runs.assign rfl) rfl ?_
          refine WE.fin (.inr (h101.weak (Le.trans (Le.trans hG78 hG81) hG104))) (by kernel_rfl) ?_
          refine WN.thn (WC.ret ?_)
          exact ret1 rfl rfl ⟨rfl, (((((h101.drop 0).drop 0).drop 0).drop 0)).weak hleF⟩
end Rc
end Go.Proofs.Ytanlminnobonnaa
